/- Own work. -/
import Derived.Test.YtjpjambjoceofaaGreatDoorVh
set_option linter.unusedVariables false
set_option linter.unusedSimpArgs false
namespace Go.Ps
open Go Go.Vc Go.Proofs List Tryz
variable{K:dk}{m:MH}{h:PH}{s:oL}{ps:dm}{ts:List Step}{cb:Nat}{sc:bW}{v:QV}{q:Query}{t:Step}{p:Pred}{l:dm}{i:Nat}{N:Nat}{m':MH}{h':PH}{co:dm}{gr:dm}{od:dr}{w:Pred}{ta:Int}{li:Int}{xs:List dj}{sz:Nat}{ks:List dm}{rs:dm}{r:Sl}{a:dm}{b:Nat}
def YC:Vc.Spec:=λc m h K=>∃cb,c=[cP cb]/\aI m h cb/\∀n m',aL m m' cb->aI m' h cb->K (cI n) m' h
def b0J:Vc.Spec:=λc m h K=>∃cb,c=[cP cb]/\aI m h cb/\∀v m',nL v.int->aL m m' cb->aI m' h cb->K (aV v) m' h
def Lg(p:Pred):Prop:=(Ew p).length<=1000000000
def bXX(N:Nat):Vc.Spec:=λc m h K=>∃cb v p,c=[cP cb,aP v]/\aI m h cb/\eA h p v/\Lg p/\sZ p/\SizeOf.sizeOf p<N/\∀d e m' h',PH.le h h'->eA h' d e->sZ d->aL m m' cb->aI m' h' cb->K (aP e) m' h'
def bXZ:Vc.Spec:=λc m h K=>∃cb v p,c=[cP cb,aP v]/\aI m h cb/\eA h p v/\Lg p/\sZ p/\∀d e m' h',PH.le h h'->eA h' d e->sZ d->aL m m' cb->aI m' h' cb->K (aP e) m' h'
noncomputable def f51_ctx(N:Nat)(cb:Nat)(v:PV)(h:PH):Ctx:=
 vM [(12,C2),(13,G8),(50,YC),(54,b0J),(51,bXX N)]
  [(28,{A:=Nat×PV×MH×PH,st:=λ⟨i,w,m,h⟩=>bK 111 113 [(3,.at (.ptr 3 0)),(4,.at (.ptr 4 0)),(7,iv i)] [(3,.cells 32 (w.enc.map .val)),(4,.cells 32 (hZ.enc.map .val))] m h}),
   (9,{A:=Nat×PV×MH×PH,st:=λ⟨i,w,m,h⟩=>bK 111 113 [(3,.at (.ptr 3 0)),(4,.at (.ptr 4 0)),(8,iv i)] [(3,.cells 32 (w.enc.map .val)),(4,.cells 32 (hZ.enc.map .val))] m h})]
  [(7,{A:=Nat×MH,st:=λ⟨_,m⟩=>bK 111 113 [(0,pv cb),(3,.at (.ptr 3 0)),(4,.at (.ptr 4 0))] [(3,.cells 32 (v.enc.map .val)),(4,.cells 32 (hZ.enc.map .val))] m h})] [] [3030,100056,100108] [] false
def ak(cb:Nat)(m:MH)(h:PH)(K:dk):Prop:=
  fS cb 6 m h (λk c=>cH (k==0) (K (fQ (Int.negSucc 0)) c h) (k==1) (K (fQ 9223372036854775807) c h) (cH (k==2) (K (fQ (Int.negSucc 9223372036854775807)) c h) (k==3) (fS cb 3 c h (λd e=>K (fQ (iJ (100+d))) e h)) (fS cb 6 c h (λd e=>K (fQ d) e h))))
noncomputable abbrev IY(a:Int):dj:=a8 (fB a) eH (nT vQz)
attribute [push_cast] IY
def al(cb:Nat)(m:MH)(h:PH)(K:dk):Prop:=
  fS cb 5 m h (λk c=>aR (oA k) 3 (K (pN (IY (oA k))) c h) (F7 cb (oA k) c h (λv d=>K (fT v) d h)))
noncomputable abbrev jJ(a:Nat×PV×MH×PH):PV:=a.2.1
noncomputable abbrev yS(a:Nat×PV×MH×PH):Nat->Nat->Option Value:=a.2.2.2
attribute [push_cast] jJ yS
def am(N:Nat)(cb:Nat)(v:PV)(m:MH)(h:PH)(K:dk):Prop:=
  ∃(I:Nat×MH->Prop),eR (mS v) 0 (lT cb 2 m h (λc r=>∀(g:MH),aT (aL m g c) (aI g h c) (branch r (tH ((0:Nat)=0) (λx=>u9 (cT 13 x) (bN h lH 13 x) (λy=>aA (cT 13 y) (kS g h (bD v.args) 13 y) (aA ((none:Option Addr)=Option.none\/0<y.length) (kH x y 136) (kC x y/\fS cb (jY (x++y)) g h (λk f=>BZ k (jY (x++y)) (λe=>uN (x++y) k.toNat e/\∃(E:PV),Dx 13 e E.enc/\∃(B:Nat),vZ (λz p=>aA (bJ (bY cb) (dM E)=bJ (bY B) (dM z)) (aI f h B) (aA (eA h p z) (Lg p) (aA (sZ p) (rU p N) (∀(F:Pred)(j:PV),gU (λC u=>dD h u (eA u F j) (aT (sZ F) (aL f C B) (j5 C u B (BZ k (jY (x++y)) (λD=>aA (uN (x++y) k.toNat D) (13
 <=D.length) (bU u 13 (List.set (x++y) k.toNat (a8 (fB j.op) (fB j.cmp) (a8 (rF j) (rG j) (a8 (kM j.left) (qA j) (a8 (uP j) (z7 j) (a8 (Bm j) (Bn j) (a8 (Bo j) (Bp j) (fF j.args::List.drop 13 D)))))))) (λs G=>K (pN (a8 (fB v.op) (fB v.cmp) (a8 (rF v) (rG v) (a8 (kM v.left) (qA v) (a8 (uP v) (z7 v) (a8 (Bm v) (Bn v) (a8 (Bo v) (Bp v) (aM s)))))))) C G)))))))))))))))))) (∃(x:Nat×MH),aA (I x) (dN cb) (aA cA eV (aA (iU v) mP (aA (g=x.2) (h=h) True))))))) (∃(x:Nat×MH),aA (I x) (dN cb) (aA cA eV (aA (iU v) mP (aA (m=x.2) (h=h) True))))/\∀(x:Nat×MH),I x->fS cb 9 x.2 h (λk g=>cH (k==0) (uD cb g h (λc n=>∀(f:MH),aT (aL g
 f c) (aI f h c) (K (pN (a8 (fB n) (fB v.cmp) (a8 (rF v) (rG v) (a8 (kM v.left) (qA v) (a8 (uP v) (z7 v) (a8 (Bm v) (Bn v) (a8 (Bo v) (Bp v) (aM v.args)))))))) f h))) (k==1) (uD cb g h (λc n=>∀(f:MH),aT (aL g f c) (aI f h c) (K (pN (a8 (fB v.op) (fB n) (a8 (rF v) (rG v) (a8 (kM v.left) (qA v) (a8 (uP v) (z7 v) (a8 (Bm v) (Bn v) (a8 (Bo v) (Bp v) (aM v.args)))))))) f h))) (cH (k==2) (uD cb g h (λc n=>∀(f:MH),aT (aL g f c) (aI f h c) (K (pN (a8 (fB v.op) (fB v.cmp) (a8 (fB n) (rG v) (a8 (kM v.left) (qA v) (a8 (uP v) (z7 v) (a8 (Bm v) (Bn v) (a8 (Bo v) (Bp v) (aM v.args)))))))) f h))) (k==3) (uD cb g h (λc n=>∀(f:MH),
 aT (aL g f c) (aI f h c) (K (pN (a8 (fB v.op) (fB v.cmp) (a8 (rF v) (fB n) (a8 (kM v.left) (qA v) (a8 (uP v) (z7 v) (a8 (Bm v) (Bn v) (a8 (Bo v) (Bp v) (aM v.args)))))))) f h))) (cH (k==4) (∃(c:Nat),aA (iY (bY cb) (bY c)) (aI g h c) (∀(z:VV)(f:MH),aT (nL z.int) (aL g f c) (j5 f h c (K (pN (a8 (fB v.op) (fB v.cmp) (a8 (rF v) (rG v) (a8 (kM v.left) (qA v) (a8 (uP v) (z7 v) (a8 (Bm v) (fB z.kind) (a8 (fB z.int) (Value.string z.text) (aM v.args)))))))) f h)))) (k==5) (uD cb g h (λc n=>∀(f:MH),aT (aL g f c) (aI f h c) (K (pN (a8 (fB v.op) (fB v.cmp) (a8 (rF v) (rG v) (a8 (kM v.left) (qA v) (a8 (uP v) (z7 v) (a8 (fB n) (Bn v) (a8
 (Bo v) (Bp v) (aM v.args)))))))) f h))) (cH (k==6) (tH ((0:Nat)=0) (λd=>u9 (cT 13 d) (bN h lH 13 d) (λy=>aA (cT 13 y) (kS g h (bD v.args) 13 y) (aA ((none:Option Addr)=Option.none\/0<y.length) (kH d y 136) (aA (kC d y) (gS (jX (d++y) 1*136)) (dH (d++y)/\bU h 13 (dY (d++y) (DV (fB 1) iA)) (λs u=>K (pN (a8 (fB v.op) (fB v.cmp) (a8 (rF v) (rG v) (a8 (kM v.left) (qA v) (a8 (uP v) (z7 v) (a8 (Bm v) (Bn v) (a8 (Bo v) (Bp v) (aM s)))))))) g u))))))) (k==7) (∃(I1:Nat×PV×MH×PH->Prop)(f:Nat×PV×MH×PH->Nat),(∃(d:Nat×PV×MH×PH),aA (I1 d) cA (aA eV (aY d.1) (aA (uZ v=uZ (jJ d)) mP (aA (cW g d.2.2) (h=yS d) True))))/\
 ∀(d:Nat×PV×MH×PH),I1 d->aR (↑d.1:Int) 8 (bU (yS d) 13 (iF (jJ d).enc) (λs u=>∃(o:Nat×PV×MH×PH),aA (I1 o) (f o<f d) (aA cA eV (aA (aU (aW d.1 1) o.1) (oQ 32 (Gh 6 0 (lY s))=uZ (jJ o)) (aA mP (cW d.2.2.1 o.2.2) (bH u (yS o))))))) (K (dM (jJ d)) d.2.2.1 (yS d))) (∃(I1:Nat×PV×MH×PH->Prop)(f:Nat×PV×MH×PH->Nat),(∃(d:Nat×PV×MH×PH),aA (I1 d) cA (aA eV (aY d.1) (aA (uZ v=uZ (jJ d)) mP (aA (cW g d.2.2) (h=yS d) True))))/\∀(d:Nat×PV×MH×PH),I1 d->aR (↑d.1:Int) 24 (J9 (cC (mS (jJ d))) (mS (jJ d)<=mS (jJ d)) (AR (mS (jJ d)) (jJ d).args) ((mS (jJ d)).toNat=(mS (jJ d)).toNat) (fun
 o=>aA (cT 13 o) (bN (yS d) (Sl.mk (jJ d).args.a (mS (jJ d)).toNat (mS (jJ d)).toNat) 13 o) (aA ((jJ d).args.a=Option.none\/(0:Nat)<1) (gS (jX o 1*136)) (dH o/\bU (yS d) 13 (dY o (DV (fB 2) iA)) (λs u=>∃(A:Nat×PV×MH×PH),aA (I1 A) (f A<f d) (aA cA eV (aA (aU (aW d.1 1) A.1) (oQ 32 (eO (iG (jJ d).op) (iG (jJ d).cmp) (eO (iG (jJ d).left.kind) (mU (jJ d).left) (p7 (lG (jJ d).left) (rR (jJ d).left) (mR (jJ d).left) (iG (jJ d).right.kind) (eO (mU (jJ d).right) (iG (lG (jJ d).right)) (eO (iG (rR (jJ d).right)) (mR (jJ d).right) (lY s))))))=uZ (jJ A)) (aA mP (cW d.2.2.1 A.2.2) (bH u (yS A)))))))))) (K (dM
 (jJ d)) d.2.2.1 (yS d)))))))
theorem Nu:∀l:dx,l.length<=(De l).length
 |[]=>bx
 |.mk op c l r args::ps=>by
  have:=Nu ps;have d:1<=(L1 [op,c]).length:=by simp[L1];omega
  simp only[De,Ew,de,ct];omega
theorem Nv{a:Pred}:∀{l:dx},a∈l->(Ew a).length<=(De l).length
 |p::ps,h=>by
  simp only[De,ct];rcases mem_cons.1 h with rfl|h
  .omega
  .have:=Nv h;omega
theorem Lg.len{op c:Int}{l r:OV}{args:dx}(h:Lg (.mk op c l r args)):args.length<=1000000000:=by
 have:=Nu args;unfold Lg at h;simp only[Ew,ct]at h;omega
theorem Lg.arg{op c:Int}{l r:OV}{args:dx}(h:Lg (.mk op c l r args)){a:Pred}(d:a∈args):Lg a:=by
 have:=Nv d;unfold Lg at h⊢
 simp only[Ew,ct]at h;omega
theorem nX.snoc{ps:dx}{vs:fc}(x:nX h ps vs){u:PV}(d:eA h p u):nX h (ps++[p]) (vs++[u]):=by
 induction ps generalizing vs with
 |nil=>obtain rfl:vs=[]:=x;exact⟨u,[],rfl,d,rfl⟩
 |cons q ps e=>
  obtain⟨y,c,rfl,f,g⟩:=x;exact⟨y,c++[u],rfl,f,e g⟩
theorem nX.set{ps:dx}{vs:fc}(x:nX h ps vs){u:PV}(f:eA h p u):nX h (ps.set i p) (vs.set i u):=by
 induction ps generalizing vs i with
 |nil=>have e:vs=[]:=x;subst e;rfl
 |cons q ps g=>
  obtain⟨y,c,rfl,j,d⟩:=x;cases i with
  |zero=>exact⟨u,c,rfl,f,d⟩
  |succ i=>exact⟨y,c.set i u,rfl,j,g d⟩
theorem JW(l:fc):cT 13 (l.map PV.enc):=by
 refine⟨λx c=>?_,λx c v d=>?_⟩<;>obtain⟨p,_,rfl⟩:=mem_map.1 c
 .rfl
 .simp[PV.enc]at d;rcases d with h|h|h|h|h|h|h|h|h|h|h|h|h<;>(rw[h];rfl)
theorem ao:di 50 YC:=by
 refine gO func50 ?_;rintro j m h K ⟨cb,rfl,n,c⟩;refine⟨dG [(12,C2)] [] [] [] false,rfl,aD D9 aF,ak cb m h K,bu,?_⟩;dsimp only[ak,push_cast];refine⟨cb,6,rfl,n,λk u _ _ d e=>?_⟩;exact aB (λ_=>c _ _ d e) (λ_=>aB (λ_=>c _ _ d e) (λ_=>aB (λ_=>c _ _ d e) (λ_=>aB (λ_=>⟨cb,3,rfl,e,λk o _ _ f g=>c _ _ (d.trans f) g⟩) (λ_=>⟨cb,6,rfl,e,λk o _ _ f g=>c _ _ (d.trans f) g⟩))))
theorem bj:di 54 b0J:=by
 refine gO func54 ?_;rintro f m h K ⟨cb,rfl,g,c⟩;refine⟨dG [(12,C2),(95,Lb)] [] [] [] false,rfl,aD D9 (aD CS aF),al cb m h K,bu,?_⟩;dsimp only[al,push_cast];refine⟨cb,5,rfl,g,λk y _ _ d e=>?_⟩;exact aB (λ_=>c ⟨_,0,⟨⟨[]⟩⟩⟩ _ xE d e) (λ_=>⟨cb,_,rfl,e,λv j n _ o u=>c v j n.int_ (d.trans o) u⟩)
theorem f51_all:∀N,di 51 (bXX N)
 |0=>by
  refine eC (fn:=Tryz.f51) (c:=cL Tryz.f51) func51 rfl bz ?_;rintro a4 m h K ⟨cb,v,p,rfl,_,_,_,_,hN,_⟩;omega
 |N+1=>by
  refine gO func51 ?_;rintro a4 m h K ⟨cb,v,p,rfl,hc,hr,hl,hn,hN,I⟩;refine⟨f51_ctx N cb v h,rfl,aD D9 (aD sV (aD ao (aD bj (aD (f51_all N) aF)))),am N cb v m h K,bu,?_⟩;dsimp only[am,push_cast];have L:=@xA p;obtain⟨op,y,l,r,args⟩:=p;obtain⟨h1,h2,Q,R,h5,E,row,rep⟩:=hr;have a6:=hl.len;obtain⟨S,T,F⟩:=hn;have z:nL v.left.value.int:=by rw[Q];exact S
  have G:nL v.right.value.int:=by rw[R];exact T
  have a9:=rep.length;have b':v.args.len=args.length:=by have:=row.len;simp at this;omega
  have O:∀(o c:Int)(U V:OV),eA h (.mk o c U V args) ⟨o,c,U,V,v.args⟩:=λ_ _ _ _=>⟨rfl,rfl,rfl,rfl,h5,E,row,rep⟩
  refine⟨λx=>aL m x.2 cb/\aI x.2 h cb,aE (λW=>⟨cb,2,rfl,aC,aC,hc,λr1 m1 X Y=>aB (λ_=>?_) (λ_=>⟨(0,m1),⟨X,Y⟩,MT⟩)⟩) (λ_=>⟨(0,m),⟨.refl _ _,hc⟩,MT⟩),?_⟩
  .refine⟨rfl,[],⟨bx,bx⟩,bN.nil _ _,E.map PV.enc,JW E,.imm row,.inl rfl,ce,ce,cb,_,rfl,Y,λk P k0 k1 A H=>?_⟩;have hk:k.toNat<args.length:=by simp at k1;omega
   obtain⟨a,ha⟩:∃a,args[k.toNat]? =some a:=⟨_,cq hk⟩
   obtain⟨u,hu,ru⟩:=rep.get ha;have hm:=cr ha;have:=L (q:=a) hm;have he:([]++E.map PV.enc)[k.toNat]? =some (PV.enc u):=by rw[nil_append,getElem?_map,hu];rfl
   have Z:k<((([]:List dj)++E.map PV.enc).length:Int):=ce
   refine⟨k0,Z,_,he,u,rfl,cb,u,a,rfl,H,ru,hl.arg hm,pP.1 F a hm,aC,λp' v' B hA a' r3 n3 C D=>⟨k0,Z,_,he,by simp[PV.enc],λs M d rs=>?_⟩⟩;refine I (.mk op y l r (args.set k.toNat p')) ⟨v.op,v.cmp,v.left,v.right,s⟩ B M (a'.trans d) ⟨h1,h2,Q,R,ce,E.set k.toNat v',by rw[map_set];exact rs,(nX.mono (a'.trans d) rep).set (r3.mono d)⟩ ⟨S,T,pP.2 λb hb=>(mem_or_eq_of_mem_set hb).elim (λh=>pP.1 F b h) (λe=>e▸n3)⟩ ((X.trans A).trans C) (D.mono d)
  .rintro⟨_,m1⟩ ⟨X,Y⟩;dsimp only at X Y⊢
   refine⟨cb,9,rfl,Y,λk P _ _ A H=>?_⟩;have A:=X.trans A;refine aB (λ_=>⟨cb,rfl,H,λn B C D=>I _ _ B h (.refl _) (O n v.cmp v.left v.right) ⟨z,G,F⟩ (A.trans C) D⟩) (λ_=>?_);refine aB (λ_=>⟨cb,rfl,H,λn B C D=>I _ _ B h (.refl _) (O v.op n v.left v.right) ⟨z,G,F⟩ (A.trans C) D⟩) (λ_=>?_);refine aB (λ_=>⟨cb,rfl,H,λn B C D=>I _ _ B h (.refl _) (O v.op v.cmp ⟨n,v.left.index,v.left.value⟩ v.right) ⟨z,G,F⟩ (A.trans C) D⟩) (λ_=>?_);refine aB (λ_=>⟨cb,rfl,H,λn B C D=>I _ _ B h (.refl _) (O v.op v.cmp ⟨v.left.kind,n,v.left.value⟩ v.right) ⟨z,G,F⟩ (A.trans C) D⟩) (λ_=>?_);refine aB (λ_=>⟨cb,rfl,H,λn B ni C D=>I _ _ B h (.refl _) (O v.op v.cmp v.left ⟨v.right.kind,v.right.index,n⟩) ⟨z,ni,F⟩ (A.trans C) D⟩) (λ_=>?_);refine aB (λ_=>⟨cb,rfl,H,λn B C D=>I _ _ B h (.refl _) (O v.op v.cmp v.left ⟨v.right.kind,n,v.right.value⟩) ⟨z,G,F⟩ (A.trans C) D⟩) (λ_=>?_);refine aB (λ_=>?_) (λ_=>aB (λ_=>?_) (λ_=>?_))
   .refine⟨rfl,[],⟨bx,bx⟩,bN.nil _ _,E.map PV.enc,JW E,.imm row,.inl rfl,ce,ce,ce,ce,λs M d rs=>?_⟩;exact I (.mk op y l r (args++[.mk 1 0 dL dL []])) ⟨v.op,v.cmp,v.left,v.right,s⟩ P M d ⟨h1,h2,Q,R,ce,E++[⟨1,0,dL,dL,cJ⟩],by rw[cv];exact rs,(nX.mono d rep).snoc (p:=.mk 1 0 dL dL []) (u:=⟨1,0,dL,dL,cJ⟩) ⟨rfl,rfl,rfl,rfl,bx,[],bN.nil _ _,rfl⟩⟩ ⟨S,T,pP.2 λb hb=>(mem_append.1 hb).elim (λh=>pP.1 F b h) (λe=>(mem_singleton.1 e)▸⟨xE,xE,trivial⟩)⟩ A (H.mono d)
   .refine⟨λx=>x.1<=8/\∃q,(eA x.2.2.2 q x.2.1/\sZ q)/\x.2.2.1=P/\PH.le h x.2.2.2,λx=>8-x.1,⟨(0,v,P,h),⟨bx,.mk op y l r args,⟨⟨h1,h2,Q,R,h5,E,row,rep⟩,S,T,F⟩,rfl,.refl _⟩,MT⟩,?_⟩;rintro⟨i,w,mx,hx⟩ ⟨hi,q,⟨rq,nq⟩,rfl,lex⟩;dsimp only at hi rq lex⊢
    refine aE (λW=>λs M d rs=>?_) (λ_=>I q w mx hx lex rq nq A (H.mono lex));rw[fP aC];exact⟨(i+1,⟨6,0,dL,dL,s⟩,mx,M),⟨ck,(.mk 6 0 dL dL [q]),⟨⟨rfl,rfl,rfl,rfl,bx,[w],rs,w,[],rfl,rq.mono d,rfl⟩,⟨xE,xE,nq,trivial⟩⟩,rfl,lex.trans d⟩,cj,MT⟩
   .refine⟨λx=>x.1<=24/\(∃op y l r args,(eA x.2.2.2 (.mk op y l r args) x.2.1/\sZ (.mk op y l r args))/\args.length<=1000000000+x.1)/\x.2.2.1=P/\PH.le h x.2.2.2,λx=>24-x.1,⟨(0,v,P,h),⟨bx,⟨_,_,_,_,_,⟨⟨h1,h2,Q,R,h5,E,row,rep⟩,S,T,F⟩,ce⟩,rfl,.refl _⟩,MT⟩,?_⟩;rintro⟨i,w,mx,hx⟩ ⟨hi,⟨a0,J,U,V,g,⟨⟨g1,g2,g3,g4,g5,us,f,j⟩,a1,a2,a3⟩,a5⟩,rfl,lex⟩;dsimp only at hi f j a5 lex g1 g2 g3 g4⊢
    have b0:=j.length;have b1:w.args.len=g.length:=by have:=f.len;simp at this;omega
    refine aE (λW=>?_) (λ_=>I (.mk a0 J U V g) w mx hx lex ⟨g1,g2,g3,g4,g5,us,f,j⟩ ⟨a1,a2,a3⟩ A (H.mono lex));refine⟨aC,aC,by have:=f.cap;omega,rfl,us.map PV.enc,JW us,⟨by have:=f.len;simp at this⊢;omega,f.row,Nat.le_refl _⟩,.inr aC,ce,ce,λs M d rs=>?_⟩;rw[fP aC];exact⟨(i+1,⟨w.op,w.cmp,w.left,w.right,s⟩,mx,M),⟨ck,⟨a0,J,U,V,g++[.mk 2 0 dL dL []],⟨⟨g1,g2,g3,g4,ce,us++[⟨2,0,dL,dL,cJ⟩],by rw[cv];exact rs,(nX.mono d j).snoc (p:=.mk 2 0 dL dL []) (u:=⟨2,0,dL,dL,cJ⟩) ⟨rfl,rfl,rfl,rfl,bx,[],bN.nil _ _,rfl⟩⟩,a1,a2,pP.2 λb hb=>(mem_append.1 hb).elim (λh=>pP.1 a3 b h) (λe=>(mem_singleton.1 e)▸⟨xE,xE,trivial⟩)⟩,ce⟩,rfl,lex.trans d⟩,cj,MT⟩
theorem bk:di 51 bXZ:=jE f51_all λ_ _ _ _⟨cb,v,p,e,c,d,f,g,j⟩=>⟨SizeOf.sizeOf p+1,cb,v,p,e,c,d,f,g,aC,j⟩
structure nY(m0 m:MH)(h:PH)(w:Pred)(co:dm)(on:dp)(gr:dm)(od:dr)(args:dt)(v:QV)(us:eu):Prop where
 where_:eA h w v.where_
 columns_:dK m0 m v.columns 3 1 (co.map eI)
 on_:dK m0 m v.on 101 2 (on.map mJ)
 group_:dK m0 m v.group 3 1 (gr.map eI)
 order_:dK m0 m v.order 103 2 (od.map pO)
 args_:dK m0 m v.args 38 21 (us.map QV.enc)
 apart:∀b i j,v.columns.a=some ⟨b,i,none⟩->v.group.a≠some ⟨b,j,none⟩
 rep:pD h args us
 lco:co.length<=2000000000
 lon:on.length<=2000000000
 lgr:gr.length<=2000000000
 lod:od.length<=2000000000
 lar:args.length<=2000000000
theorem dK.off{m0:MH}{s t g:Sl}{E E':TypeId}{c:Nat}{n:List dj}(r:dK m0 m s E sz xs)(x:bV m m' t g E' c n)(d:∀b i j,s.a=some ⟨b,i,none⟩->t.a≠some ⟨b,j,none⟩):dK m0 m' s E sz xs:=by
 refine⟨cM.keep r.row (λb i e=>?_),r.fresh⟩;obtain⟨o,f⟩:=cM.blk r.row e;rw[f];exact x.other b _ f (λj=>d b i j e)
theorem dK.ne{m0:MH}{s t:Sl}{E E':TypeId}{c:Nat}{g:List dj}(r:dK m0 m s E sz xs)(q:dK m0 m t E' c g)(n:E≠E'):∀b i j,s.a=some ⟨b,i,none⟩->t.a≠some ⟨b,j,none⟩:=λb i j e o=>by
 obtain⟨u,y⟩:=cM.blk r.row e;obtain⟨f,d⟩:=cM.blk q.row o;rw[y]at d;simp only[cw,Obj.cells.injEq]at d;exact n d.2.1
theorem dK.up{m0:MH}{s d:Sl}{E:TypeId}{f:List dj}(r:dK m0 m s E sz xs)(x:bV m m' s d E sz f)(k:∀b o,m0 b=some o->m b=some o\/∃g,m b=some g):dK m0 m' d E sz f:=
 ⟨x.row,λb i e=>by
  rcases x.fresh b i e with c|⟨j,c⟩
  .cases n:m0 b with
   |none=>rfl
   |some o=>rcases k b o n with h|⟨_,h⟩<;>(rw[c]at h;cases h)
  .exact r.fresh b j c⟩
def G0(m0 m:MH):Prop:=∀b o,m0 b=some o->∃c,m b=some c
theorem G0.grown{m0:MH}{s d:Sl}{E:TypeId}{f:List dj}(k:G0 m0 m)(x:bV m m' s d E sz f)(r:dK m0 m s E sz xs):G0 m0 m':=λb o e=>by
 obtain⟨c,h⟩:=k b o e;exact⟨c,x.other b c h λi g=>by rw[r.fresh b i g]at e;cases e⟩
theorem Kept.held{m0:MH}(k:Kept m0 m cb)(c:aI m h cb):G0 m0 m:=λb o e=>by
 by_cases d:b=cb
 .obtain⟨g,f⟩:=c.blk;exact⟨_,by rw[d];exact f⟩
 .exact⟨o,k b o e d⟩
theorem dK.put{m0 n:MH}{w:Sl}{us:eu}{t:Nat}(x:dK m0 n w 38 21 (us.map QV.enc))(B:t<us.length):∃b,w.a=some ⟨b,0,none⟩/\t<w.len/\(∃c,n b=some (.cells c 38 (0,0)))/\∃(cs:Array Value)(F:TypeId),sK n b (.cells cs F (0,0))/\0+t*21+21<=cs.size/\∀u m',gI n m' b (.cells ⟨splice cs.toList (0+t*21) (QV.enc u)⟩ F (0,0))->dK m0 m' w 38 21 ((us.set t u).map QV.enc):=by
 have d:∀u:QV,(QV.enc u).length=21:=λu=>rfl;rcases x.row.ex with⟨rfl,e⟩|⟨b,f,c,rfl,C,o,y,z,g⟩
 .have D:=congrArg List.length e;rw[length_map,length_nil]at D;omega
 .rw[length_map]at o;have A:c.toList.length=f*21:=by rw[Array.length_toList];exact z
  refine⟨b,rfl,by show t<(us.map QV.enc).length;rw[length_map];exact B,⟨c,C⟩,c,38,⟨C⟩,aC,λu m' E=>⟨⟨No _,.inr ⟨b,f,⟨splice c.toList (0+t*21) (QV.enc u)⟩,bx,E.at_,ce,y,?_,?_⟩⟩,x.fresh⟩⟩
  .show(splice c.toList (0+t*21) (QV.enc u)).length=f*21;rw[yB _ _ _ (by rw[d];omega)];exact A
  .show(splice c.toList (0+t*21) (QV.enc u)).take _=_;rw[length_map,length_set,EO _ _ _ _ (by rw[d];omega) aC];rw[length_map]at g;have G:(us.map QV.enc)[t]? =some (QV.enc us[t]):=by rw[getElem?_map,cq B];rfl
   have j:=Go.Vc.flatten_set (off:=0) (l:=QV.enc u) (No us).len G (by rw[d,d];omega);rw[Nat.add_zero,show splice (QV.enc us[t]) 0 (QV.enc u)=QV.enc u from rfl]at j;rw[g,Nat.zero_add,map_set];exact j
theorem dK.upd{m0:MH}{s:Sl}{E E':TypeId}{c:Array Value}{o:Obj}(r:dK m0 m s E sz xs)(g:m b=some (.cells c E' (0,0)))(j:gI m m' b o)(n:E≠E'):dK m0 m' s E sz xs:=
 ⟨cM.keep r.row λu i e=>j.other u λy=>by
  obtain⟨f,d⟩:=cM.blk r.row e;rw[y,g]at d;simp only[cw,Obj.cells.injEq]at d;exact n d.2.1.symm,r.fresh⟩
section
variable{m0 m m':MH}{h h':PH}{cb:Nat}{w:Pred}{co gr:dm}{on:dp}{od:dr}{args:dt}{v:QV}{us:eu}
theorem nY.mono(x:nY m0 m h w co on gr od args v us)(le:PH.le h h'):nY m0 m h' w co on gr od args v us:=
 {x with where_:=x.where_.mono le,rep:=pD.mono le x.rep}
theorem nY.move(x:nY m0 m h w co on gr od args v us)(o:aL m m' cb)(c:aI m h' cb):nY m0 m' h w co on gr od args v us:=
 {x with columns_:=x.columns_.on o c bz,on_:=x.on_.on o c bz,group_:=x.group_.on o c bz,order_:=x.order_.on o c bz,args_:=x.args_.on o c bz}
theorem nY.ice(x:nY m0 m h w co on gr od args v us)(d:vO m h):bR (lB m0 m h) (.mk v.op v.table w co on gr od v.limit args) v:=
 ⟨rfl,rfl,x.where_.mono (CC d),⟨x.columns_.ice,by have:=x.lco;omega⟩,⟨x.on_.ice,by have:=x.lon;omega⟩,⟨x.group_.ice,by have:=x.lgr;omega⟩,⟨x.order_.ice,by have:=x.lod;omega⟩,rfl,by have:=x.lar;omega,us,x.args_.ice,pD.mono (CC d) x.rep⟩
theorem nY.columns(x:nY m0 m h w co on gr od args v us)(k:G0 m0 m){s:Sl}{n:Int}(c:bV m m' v.columns s 3 1 (co.map eI++[eI n]))(A:co.length<=1000000000):nY m0 m' h w (co++[n]) on gr od args {v with columns:=s} us/\G0 m0 m':=by
 have u:∀b i j,s.a=some ⟨b,i,none⟩->v.group.a≠some ⟨b,j,none⟩:=by
  intro b i j e d;rcases c.fresh b i e with f|⟨y,f⟩
  .obtain⟨z,g⟩:=cM.blk x.group_.row d;rw[f]at g;cases g
  .exact x.apart b y j f d
 exact⟨{x with columns_:=by rw[cv];exact x.columns_.up c (λb o e=>.inr (k b o e)),on_:=x.on_.off c (x.on_.ne x.columns_ bz),group_:=x.group_.off c (λb i j e d=>x.apart b j i d e),order_:=x.order_.off c (x.order_.ne x.columns_ bz),args_:=x.args_.off c (x.args_.ne x.columns_ bz),lco:=ce,apart:=u},k.grown c x.columns_⟩
theorem nY.group(x:nY m0 m h w co on gr od args v us)(k:G0 m0 m){s:Sl}{n:Int}(c:bV m m' v.group s 3 1 (gr.map eI++[eI n]))(A:gr.length<=1000000000):nY m0 m' h w co on (gr++[n]) od args {v with group:=s} us/\G0 m0 m':=by
 have g:∀b i j,v.columns.a=some ⟨b,i,none⟩->s.a≠some ⟨b,j,none⟩:=by
  intro b i j e u;rcases c.fresh b j u with d|⟨y,d⟩
  .obtain⟨z,f⟩:=cM.blk x.columns_.row e;rw[d]at f;cases f
  .exact x.apart b i y e d
 exact⟨{x with group_:=by rw[cv];exact x.group_.up c (λb o e=>.inr (k b o e)),on_:=x.on_.off c (x.on_.ne x.group_ bz),columns_:=x.columns_.off c x.apart,order_:=x.order_.off c (x.order_.ne x.group_ bz),args_:=x.args_.off c (x.args_.ne x.group_ bz),lgr:=ce,apart:=g},k.grown c x.group_⟩
theorem nY.onE(x:nY m0 m h w co on gr od args v us)(k:G0 m0 m){s:Sl}{p:Int×Int}(c:bV m m' v.on s 101 2 (on.map mJ++[mJ p]))(d:on.length<=1000000000):nY m0 m' h w co (on++[p]) gr od args {v with on:=s} us/\G0 m0 m':=
 ⟨{x with on_:=by rw[cv];exact x.on_.up c (λb o e=>.inr (k b o e)),columns_:=x.columns_.off c (x.columns_.ne x.on_ bz),group_:=x.group_.off c (x.group_.ne x.on_ bz),order_:=x.order_.off c (x.order_.ne x.on_ bz),args_:=x.args_.off c (x.args_.ne x.on_ bz),lon:=ce},k.grown c x.on_⟩
theorem nY.orderE(x:nY m0 m h w co on gr od args v us)(k:G0 m0 m){s:Sl}{p:Int×Bool}(c:bV m m' v.order s 103 2 (od.map pO++[pO p]))(d:od.length<2000000000):nY m0 m' h w co on gr (od++[p]) args {v with order:=s} us/\G0 m0 m':=
 ⟨{x with order_:=by rw[cv];exact x.order_.up c (λb o e=>.inr (k b o e)),columns_:=x.columns_.off c (x.columns_.ne x.order_ bz),group_:=x.group_.off c (x.group_.ne x.order_ bz),on_:=x.on_.off c (x.on_.ne x.order_ bz),args_:=x.args_.off c (x.args_.ne x.order_ bz),lod:=ce},k.grown c x.order_⟩
theorem pD.snoc{ps:dt}{vs:eu}(x:pD h ps vs){p:Query}{u:QV}(d:bR h p u):pD h (ps++[p]) (vs++[u]):=by
 induction ps generalizing vs with
 |nil=>obtain rfl:vs=[]:=x;exact⟨u,[],rfl,d,rfl⟩
 |cons q ps e=>
  obtain⟨y,c,rfl,f,g⟩:=x;exact⟨y,c++[u],rfl,f,e g⟩
theorem nY.argsE(x:nY m0 m h w co on gr od args v us)(k:G0 m0 m){s:Sl}{p:Query}{u:QV}(d:bR h p u)(c:bV m m' v.args s 38 21 (us.map QV.enc++[QV.enc u]))(f:args.length<=1000000000):nY m0 m' h w co on gr od (args++[p]) {v with args:=s} (us++[u])/\G0 m0 m':=
 ⟨{x with args_:=by rw[cv];exact x.args_.up c (λb o e=>.inr (k b o e)),columns_:=x.columns_.off c (x.columns_.ne x.args_ bz),group_:=x.group_.off c (x.group_.ne x.args_ bz),on_:=x.on_.off c (x.on_.ne x.args_ bz),order_:=x.order_.off c (x.order_.ne x.args_ bz),rep:=x.rep.snoc d,lar:=ce},k.grown c x.args_⟩
theorem pD.set{ps:dt}{vs:eu}(x:pD h ps vs){p:Query}{u:QV}(f:bR h p u):pD h (ps.set i p) (vs.set i u):=by
 induction ps generalizing vs i with
 |nil=>have e:vs=[]:=x;subst e;rfl
 |cons q ps g=>
  obtain⟨y,c,rfl,j,d⟩:=x;cases i with
  |zero=>exact⟨u,c,rfl,f,d⟩
  |succ i=>exact⟨y,c.set i u,rfl,j,g d⟩
theorem nY.put(x:nY m0 m h w co on gr od args v us)(k:G0 m0 m)(j:i<args.length):∃b,v.args.a=some ⟨b,0,none⟩/\i<v.args.len/\∃(cs:Array Value)(F:TypeId),sK m b (.cells cs F (0,0))/\0+i*21+21<=cs.size/\∀q u m',bR h q u->gI m m' b (.cells ⟨splice cs.toList (0+i*21) (QV.enc u)⟩ F (0,0))->nY m0 m' h w co on gr od (args.set i q) v (us.set i u)/\∀d o,m0 d=some o->m' d=m d:=by
 obtain⟨b,g,n,⟨y,f⟩,cs,F,z,A,B⟩:=x.args_.put (t:=i) (by rw[x.rep.length];exact j);refine⟨b,g,n,cs,F,z,A,λq u m' C c=>⟨{x with columns_:=x.columns_.upd f c bz,on_:=x.on_.upd f c bz,group_:=x.group_.upd f c bz,order_:=x.order_.upd f c bz,args_:=B u m' c,rep:=x.rep.set C,lar:=by have:=x.lar;simp;omega},λd o e=>c.other d λD=>?_⟩⟩;rw[D,x.args_.fresh b 0 g]at e;cases e
theorem nY.nums(x:nY m0 m h w co on gr od args v us)(a b c:Int):nY m0 m h w co on gr od args {v with op:=a,table:=b,limit:=c} us:={x with}
theorem nY.wher(x:nY m0 m h w co on gr od args v us){u:PV}(c:eA h p u):nY m0 m h p co on gr od args {v with where_:=u} us:={x with where_:=c}
theorem nY.none(x:nY m0 m h w co on gr od args v us):nY m0 m h w co on gr od [] {v with args:=cJ} []:=
 {x with args_:=dK.nil m0 m 38 21,rep:=rfl,lar:=by simp}
end
def HM(q:Query):Prop:=match q with|.mk _ _ w co on gr od _ args=>Lg w/\co.length<=1000000000/\on.length<=1000000000/\gr.length<=1000000000/\od.length<=1000000000/\args.length<=1000000000/\∀a∈args,HM a
 termination_by SizeOf.sizeOf q
theorem NU{op:Int}{on:dp}{args:dt}:
 HM (.mk op ta w co on gr od li args)↔Lg w/\co.length<=1000000000/\on.length<=1000000000/\gr.length<=1000000000/\od.length<=1000000000/\args.length<=1000000000/\∀a∈args,HM a:=by rw[HM.eq_def]
def ZL(b:Bool)(m:MH)(q:Query)(c:QV)(m':MH)(h':PH):Prop:=match b,q with
 |false,q=>bR h' q c/\m'=m
 |true,.mk op ta w co on gr od li args=>c.op=op/\c.table=ta/\c.limit=li/\(∃us,nY m m' h' w co on gr od args c us)/\∀b o,m b=some o->m' b=some o
def bcQ:Vc.Spec:=λc m h K=>∃(b:Bool)(v:QV)(q:Query),c=[aQ v]/\bR h q v/\(b=true->HM q)/\∀d m' h',PH.le h h'->ZL b m q d m' h'->K (aQ d) m' h'
def Fat(q:Query):Prop:=24<nW q\/8<Ej q\/¬O9 q
def QS(q c:Query):Prop:=QN c/\(O9 q->yZ c<=yZ q\/Fat c)
def bWJ(N:Nat):Vc.Spec:=λc m h K=>∃cb v q,c=[cP cb,aQ v]/\aI m h cb/\bR h q v/\HM q/\QN q/\SizeOf.sizeOf q<N/\∀d e m' h',PH.le h h'->bR h' d e->QS q d->aL m m' cb->aI m' h' cb->K (aQ e) m' h'
def bXQ:Vc.Spec:=λc m h K=>∃cb v q,c=[cP cb,aQ v]/\aI m h cb/\bR h q v/\HM q/\QN q/\∀d e m' h',PH.le h h'->bR h' d e->QS q d->aL m m' cb->aI m' h' cb->K (aQ e) m' h'
noncomputable def aHZ(v:QV):Ctx:=
 vM [(96,beZ),(49,bcX)] [(9,{A:=Nat×QV×MH×PH,st:=λ⟨i,w,m,h⟩=>bK 46 47 [(1,.at (.ptr 1 0)),(2,.at (.ptr 2 0)),(3,.at (.ptr 3 0)),(29,iv v.args.len),(30,iv i)] [(1,.cells 38 (v.enc.map .val)),(2,.cells 38 (oM.enc.map .val)),(3,.cells 38 (w.enc.map .val))] m h})] [] [] [1033,1034,1035,1036] [] false
noncomputable def bxX(N:Nat)(cb:Nat):Ctx:=
 vM [(12,C2),(13,G8),(49,bcQ),(50,YC),(51,bXZ),(14,bWJ N)]
  [(25,{A:=Nat×QV×MH×PH,st:=λ⟨i,w,m,h⟩=>bK 139 141 [(0,pv cb),(3,.at (.ptr 3 0)),(4,.at (.ptr 4 0)),(6,iv i)] [(3,.cells 38 (w.enc.map .val)),(4,.cells 38 (oM.enc.map .val))] m h}),
   (36,{A:=Nat×QV×MH×PH,st:=λ⟨i,w,m,h⟩=>bK 139 141 [(3,.at (.ptr 3 0)),(4,.at (.ptr 4 0)),(7,iv i)] [(3,.cells 38 (w.enc.map .val)),(4,.cells 38 (oM.enc.map .val))] m h}),
   (8,{A:=Nat×QV×MH×PH,st:=λ⟨i,w,m,h⟩=>bK 139 141 [(3,.at (.ptr 3 0)),(4,.at (.ptr 4 0)),(8,iv i)] [(3,.cells 38 (w.enc.map .val)),(4,.cells 38 (oM.enc.map .val))] m h})]
  [(6,{A:=QV×MH×PH,st:=λ⟨w,m,h⟩=>bK 139 141 [(0,pv cb),(3,.at (.ptr 3 0)),(4,.at (.ptr 4 0))] [(3,.cells 38 (w.enc.map .val)),(4,.cells 38 (oM.enc.map .val))] m h}),
   (5,{A:=QV×MH×PH,frz:=true,st:=λ⟨w,m,h⟩=>bK 139 141 [(3,.at (.ptr 3 0)),(4,.at (.ptr 4 0))] [(3,.cells 38 (w.enc.map .val)),(4,.cells 38 (oM.enc.map .val))] m h}),
   (36,{A:=Nat×QV×MH×PH,frz:=true,st:=λ⟨i,w,m,h⟩=>bK 139 141 [(3,.at (.ptr 3 0)),(4,.at (.ptr 4 0)),(7,iv i)] [(3,.cells 38 (w.enc.map .val)),(4,.cells 38 (oM.enc.map .val))] m h}),
   (8,{A:=Nat×QV×MH×PH,frz:=true,st:=λ⟨i,w,m,h⟩=>bK 139 141 [(3,.at (.ptr 3 0)),(4,.at (.ptr 4 0)),(8,iv i)] [(3,.cells 38 (w.enc.map .val)),(4,.cells 38 (oM.enc.map .val))] m h}),
   (39,{A:=QV×MH×PH,frz:=true,st:=λ⟨w,m,h⟩=>bK 139 141 [(3,.at (.ptr 3 0)),(4,.at (.ptr 4 0))] [(3,.cells 38 (w.enc.map .val)),(4,.cells 38 (oM.enc.map .val))] m h})] [] [1033,1034,1035,1036,100136,100045] [] false
abbrev IW(a:Nat->Option Obj)(b c:Nat)(d:List dj)(e:Sl->MH->(List dj)->Prop):Prop:=fX (λx f=>bV a f lH x b c d->∃(g:List dj),e x f g)
abbrev IV(a:(Nat×QV×MH×PH->Prop)->(Nat×QV×MH×PH)->Prop)(b:(Nat×QV×MH×PH->Prop)->(Nat×QV×MH×PH->Nat)->(Nat×QV×MH×PH)->Prop):Prop:=∃(x:Nat×QV×MH×PH->Prop)(d:Nat×QV×MH×PH->Nat),(∃(c:Nat×QV×MH×PH),a x c)/\∀(c:Nat×QV×MH×PH),b x d c
noncomputable abbrev iT(a:Nat×QV×MH×PH):QV:=a.2.1
noncomputable abbrev kD(a:Nat×QV×MH×PH):Nat->Nat->Option Value:=eK a.2
noncomputable abbrev pS(a:Nat×QV×MH×PH):Nat->Option Obj:=a.2.2.1
attribute [push_cast] IW IV iT kD pS
def Kq(v:QV)(m:MH)(h:PH)(K:dk):Prop:=
  D3 (λG s p H=>aA (bJ (dM v.where_) nK=bJ (dM G) (fD s)) (eA h p G) (bI h s H/\∀(J:PV)(d:PH),dD h d (eA d (ED H p) J) (∃(x:List dj),tH (cM m lH 3 1 x) (λy=>aA (cT 1 y) (kS m d (bD v.columns) 1 y) (aA (kH x y 8) (kC x y) (IW m 3 1 (x++y) (λT D u=>tH (cM D lH 101 2 u) (λf=>aA (cT 2 f) (kS D d (bD v.on) 2 f) (aA (kH u f 16) (kC u f) (IW D 101 2 (u++f) (λU E z=>tH (cM E lH 3 1 z) (λg=>aA (cT 1 g) (kS E d (bD v.group) 1 g) (aA (kH z g 8) (kC z g) (IW E 3 1 (z++g) (λV F A=>tH (cM F lH 103 2 A) (λj=>aA (cT 2 j) (kS F d (bD v.order) 2 j) (aA (kH A j 16) (kC A j) (fX (λL M=>
 bV F M lH L 103 2 (A++j)->IV (λI c=>aA (I c) eY (aA dX cA (aA (rP v) (aY c.1) (aA (cG v) fM (bG (oQ 38 (eO (iG v.op) (tF v) (pQ J (eO (xG T) (xG U) (eO (xG V) (xG L) (mO (xN v) LV)))))=sY (iT c)) (cW M c.2.2) (d=kD c)))))) (λI O c=>I c->aR (↑c.1:Int) (aH v.args) (bT (λb o=>aA (bX v.args.a b o) (0<=(↑c.1:Int)) ((↑c.1:Int)<aH v.args/\∃(B:QV),aK (pS c) (kD c) b (bC o c.1 21) B.enc/\jD (λP q=>aA (uK B P) (bR (kD c) q P) (∀(Q:QV)(n:PH),dD (kD c) n (bR n q Q) (u9 (aK (pS c) n b (bC o c.1 21) B.enc) (bB n b (bC o c.1 21) B.enc) (λC=>aA (cM (pS c) (bD (iT c).args) 38 21 C) (gS (jX C 1*280))
 (dH C/\fX (λR S=>bV (pS c) S (bD (iT c).args) R 38 21 (dY C Q.enc)->∃(e:Nat×QV×MH×PH),aA (I e) (O e<O c) (aA eY dX (aA cA (rP v) (aA (aU (aW c.1 1) e.1) (cG v) (Aa fM (oQ 38 (qQ (iT c) (xG R))=sY (iT e)) (cW S e.2.2) n (kD e)))))))))))))) (K (dE (iT c)) (pS c) (kD c))))))))))))))))))))))
abbrev Mw(a:(QV×MH×PH->Prop)->Prop)(b:(QV×MH×PH->Prop)->(QV×MH×PH)->Prop)(c:(QV×MH×PH)->Prop):Prop:=∃(x:QV×MH×PH->Prop),a x/\∀(d:QV×MH×PH),b x d->c d
abbrev MA(a:QV)(b:Int)(c:Nat->Nat->QV->Prop):Prop:=bT (λx d=>aA (bX a.args.a x d) (0<=b) (b<aH a.args/\∃(e:QV),c x d e))
abbrev rB(a:QV×MH×PH->Prop)(b:QV×MH×PH)(c:Prop)(d:Nat->Option Obj)(e:Nat->Nat->Option Value):Prop:=aA (a b) cA (aA eV c (aA fM (Av d e b.2.1 (eK b)) True))
abbrev B5(a:Nat->Option Obj)(b:Nat->Nat->Option Value)(c:(QV×MH×PH)->Prop):Prop:=vO a b->∃(x:QV×MH×PH),c x
noncomputable abbrev DW(a:QV×MH×PH):dz:=mO (xN a.1) (xG a.1.args)
abbrev Gi(a:QV×MH×PH)(b:dz)(c:QV×MH×PH):Prop:=oQ 38 (eO (iG a.1.op) (tF a.1) b)=sY c.1
abbrev IB(a:Nat)(b:Nat->Option Obj)(c:Nat->Nat->Option Value)(d:Int->MH->(List dj)->Prop):Prop:=uD a b c (λx f=>∀(e:MH),aT (aL b e x) (aI e c x) (∃(g:List dj),d f e g))
attribute [push_cast] Mw MA rB B5 DW Gi IB
def Vs(N:Nat)(cb:Nat)(v:QV)(m:MH)(h:PH)(K:dk):Prop:=
  ∃(b:Bool),jD (λQ q=>aA (uK v Q) (bR h q Q) ((gG b->HM q)/\∀(C:QV),gU (λH A=>dD h A (ZL b m q C H A) (Mw (λI=>eR (aH C.args) 0 (lT cb 2 H A (λc r=>∀(g:MH),aT (aL H g c) (aI g A c) (branch r (fS cb (aH C.args) g A (λk f=>Mw (λI1=>MA C k (λJ o y=>aK f A J (cF o k 21) y.enc/\∃(L:Nat),jD (λF D=>aA (bJ (bY cb) (dE y)=bJ (bY L) (dE F)) (aI f A L) (aA (bR A D F) (HM D) (aA (QN D) (lX D N) (∀(R:Query)(G:QV),gU (λu z=>dD A z (bR z R G) (aT (QS D R) (aL f u L) (j5 u z L (bT (λM O=>aA (bX C.args.a M O) (0<=k) (k<aH C.args/\gE (λP E=>aA (sK u M (fC P E 0)) (cF O k 21+21<=P.size)
 (∀(B:MH),aT (bL u B M (nR P (cF O k 21) G.enc) E) (vO B z) (∃(x:QV×MH×PH),rB I1 x (eB C x.1) B z))))))))))))))) (λI1 x=>I1 x) (λx=>K (dE x.1) x.2.1 (eK x)))) (∃(x:QV×MH×PH),aA (I x) (dN cb) (aA cA eV (aA (eB C x.1) fM (aA (cW g x.2) (A=eK x) True))))))) (∃(x:QV×MH×PH),aA (I x) (dN cb) (aA cA eV (aA (eB C x.1) fM (aA (cW H x.2) (A=eK x) True))))) (λI x=>I x) (λx=>Mw (λI=>fS cb 12 x.2.1 (eK x) (λk g=>cH (k==0) (uD cb g (eK x) (λc n=>∀(f:MH),aT (aL g f c) (aI f (eK x) c) (B5 f (eK x) (λd=>rB I d (oQ 38 (eO (iG n) (tF x.1) (qU x.1 (uV (rZ x.1) x.1.on x.1 (uY x.1) (DW x))))=sY d.1) f (eK x)))))
 (k==1) (uD cb g (eK x) (λc n=>∀(f:MH),aT (aL g f c) (aI f (eK x) c) (B5 f (eK x) (λd=>rB I d (oQ 38 (eO (iG x.1.op) (iG n) (qU x.1 (uV (rZ x.1) x.1.on x.1 (uY x.1) (DW x))))=sY d.1) f (eK x))))) (cH (k==2) (∃(c:Nat),vZ (λF p=>aA (bJ (bY cb) (dM x.1.where_)=bJ (bY c) (dM F)) (aI g (eK x) c) (aA (eA (eK x) p F) (Lg p) (sZ p/\∀(S:Pred)(G:PV),gU (λf z=>dD (eK x) z (eA z S G) (aT (sZ S) (aL g f c) (aT (aI f z c) (vO f z) (∃(d:QV×MH×PH),rB I d (Gi x (pQ G (uV (rZ x.1) x.1.on x.1 (uY x.1) (DW x))) d) f z)))))))) (k==3) (IB cb g (eK x) (λn f d=>aA (cM f (bD x.1.columns) 3 1 d) (yE d) (dH d/\
 ∀(s:Sl)(u:MH),aT (bV f u (bD x.1.columns) s 3 1 (dY d (cO n))) (vO u (eK x)) (∃(e:QV×MH×PH),rB I e (Gi x (qU x.1 (uV (xG s) x.1.on x.1 (uY x.1) (DW x))) e) u (eK x))))) (cH (k==4) (uD cb g (eK x) (λc n=>∀(f:MH),aT (aL g f c) (aI f (eK x) c) (IB cb f (eK x) (λU u d=>aA (cM u (bD x.1.on) 101 2 d) (gS (jX d 1*16)) (dH d/\∀(s:Sl)(B:MH),aT (bV u B (bD x.1.on) s 101 2 (dY d (kR (fB n) (fB U)))) (vO B (eK x)) (∃(e:QV×MH×PH),rB I e (Gi x (qU x.1 (uV (rZ x.1) s x.1 (uY x.1) (DW x))) e) B (eK x))))))) (k==5) (IB cb g (eK x) (λn f d=>aA (cM f (bD x.1.group) 3 1 d) (yE d) (dH d/\∀(s:Sl)(u:MH),aT
 (bV f u (bD x.1.group) s 3 1 (dY d (cO n))) (vO u (eK x)) (∃(e:QV×MH×PH),rB I e (Gi x (qU x.1 (eO (rZ x.1) (xG x.1.on) (eO (xG s) (uY x.1) (DW x)))) e) u (eK x))))) (cH (k==6) (fS cb 2 g (eK x) (λV f=>IV (λI1 d=>aA (I1 d) (dN cb) (aA cA eV (aA (aU (oA (iJ (12*V))) d.1) (eB x.1 (iT d)) (aA fM (cW f d.2.2) (bH (eK x) (kD d)))))) (λI1 u d=>I1 d->eR (↑d.1:Int) 0 (IB cb (pS d) (kD d) (λn B e=>aA (cM B (bD (iT d).order) 103 2 e) (gS (jX e 1*16)) (dH e/\fX (λs T=>bV B T (bD (iT d).order) s 103 2 (dY e (kR (fB n) wH))->∃(j:Nat×QV×MH×PH),aA (I1 j) (u j<u d) (aA (dN cb) cA (aA eV
 (aU (iJ ((↑d.1:Int)-1)) j.1) (aA (oQ 38 (eO (iG (iT d).op) (tF (iT d)) (qU (iT d) (uV (rZ (iT d)) (iT d).on (iT d) (xG s) (mO (xN (iT d)) (xG (iT d).args)))))=sY (iT j)) fM (bE (cW T j.2.2) (kD d) (kD j))))))))) (B5 (pS d) (kD d) (λe=>rB I e (eB (iT d) e.1) (pS d) (kD d)))))) (k==7) (uD cb g (eK x) (λc n=>∀(f:MH),aT (aL g f c) (aI f (eK x) c) (B5 f (eK x) (λd=>rB I d (Gi x (qU x.1 (uV (rZ x.1) x.1.on x.1 (uY x.1) (mO (iG n) (xG x.1.args)))) d) f (eK x))))) (cH (k==8) (∃(d:List dj),aA (cM g (bD x.1.args) 38 21 d) (gS (jX d 1*280)) (dH d/\∀(s:Sl)(f:MH),aT (bV g f (bD
 x.1.args) s 38 21 (dY d (uG (fB 1) eH))) (vO f (eK x)) (∃(e:QV×MH×PH),rB I e (oQ 38 (qQ x.1 (xG s))=sY e.1) f (eK x)))) (k==9) (B5 g (eK x) (λd=>rB I d (oQ 38 (qQ x.1 LV)=sY d.1) g (eK x))) (dJ k 10 (∃(I1:Nat×QV×MH×PH->Prop),(vO g (eK x)->∃(d:Nat×QV×MH×PH),aA (I1 d) cA (aA eV (aY d.1) (bG (eB x.1 (iT d)) fM (Av g (eK x) (pS d) (kD d)))))/\∀(d:Nat×QV×MH×PH),I1 d->IV (λI2 e=>aA (I2 e) cA (aA eV (bO d.1 e.1) (aA (eB (iT d) (iT e)) fM (aA (cW (pS d) e.2.2) (kD d=kD e) True)))) (λI2 f e=>I2 e->aR (↑e.1:Int) 8 (bU (kD e) 21 ((iT e).enc::iF (uG (fB 1) eH)) (λs z=>∃(j:Nat×QV×MH×
 PH),aA (I2 j) (f j<f e) (aA cA eV (aA (aU (aW e.1 1) j.1) (Mv 6 s (iT j)) (aA fM (cW (pS e) j.2.2) (bH z (kD j))))))) (B5 (pS e) (kD e) (λj=>rB I j (eB (iT e) j.1) (pS e) (kD e))))) (∃(I1:Nat×QV×MH×PH->Prop),(vO g (eK x)->∃(d:Nat×QV×MH×PH),aA (I1 d) cA (aA eV (aY d.1) (bG (eB x.1 (iT d)) fM (Av g (eK x) (pS d) (kD d)))))/\∀(d:Nat×QV×MH×PH),I1 d->IV (λI2 e=>aA (I2 e) cA (aA eV (bO d.1 e.1) (aA (eB (iT d) (iT e)) fM (aA (cW (pS d) e.2.2) (kD d=kD e) True)))) (λI2 f e=>I2 e->aR (↑e.1:Int) 4 (∃(J:Bool),jD (λF D=>aA (uK (iT e) F) (bR (kD e) D F) ((gG J
 ->HM D)/\∀(G:QV),gU (λu z=>dD (kD e) z (ZL J (pS e) D G u z) (bU z 21 ((iT e).enc::iF G.enc) (λs W=>∃(j:Nat×QV×MH×PH),aA (I2 j) (f j<f e) (aA cA eV (aA (aU (aW e.1 1) j.1) (Mv 6 s (iT j)) (aA fM (cW u j.2.2) (bH W (kD j))))))))))) (B5 (pS e) (kD e) (λj=>rB I j (eB (iT e) j.1) (pS e) (kD e)))))))))))) (λI d=>I d) (λd=>K (dE d.1) d.2.1 (eK d)))))))
def Kp(m m':MH):Prop:=∀b o,m b=some o->m' b=some o
theorem Kp.held(k:Kp m m'):G0 m m':=λb o e=>⟨o,k b o e⟩
theorem Kp.grown{c:MH}{s d:Sl}{E:TypeId}{f:List dj}(k:Kp m c)(x:bV c m' s d E sz f)(r:dK m c s E sz xs):Kp m m':=λb o e=>x.other b o (k b o e) λi g=>by rw[r.fresh b i g]at e;cases e
theorem bpZ{op:Int}{on:dp}{args:dt}(x:qD h op ta w co on gr od li args v)(hl:HM (.mk op ta w co on gr od li args))
 (hK:∀f us m' h',PH.le h h'->f.op=op->f.table=ta->f.limit=li->nY m m' h' w co on gr od args f us->(∀b o,m b=some o->m' b=some o)->K (aQ f) m' h'):Kq v m h K:=by
 dsimp only[Kq,push_cast];obtain⟨_,l1,l2,l3,l4,l5,_⟩:=NU.1 hl;have R:=x.args_.slen;refine⟨v.where_,⟨none,0,0⟩,w,[],rfl,x.where_,.nil _ _ _ _,λwv S c hw=>⟨[],cM.nil _ _ _,_,pH co,.imm (x.columns_.mono c).row,ce,ce,λs1 m1 T=>⟨[],cM.nil _ _ _,_,H7 on,.imm (x.on_.mono c).row,ce,ce,λs2 m2 L=>⟨[],cM.nil _ _ _,_,pH gr,.imm (x.group_.mono c).row,ce,ce,λs3 m3 B=>⟨[],cM.nil _ _ _,_,H6 od,.imm (x.order_.mono c).row,ce,ce,λs4 M C=>?_⟩⟩⟩⟩⟩;rw[K8]at hw;rw[nil_append]at T L B C;have D:Kp m m:=λ_ _ e=>e;have k1:Kp m m1:=D.grown T (dK.nil m m 3 1);have k2:Kp m m2:=k1.grown L (dK.nil m m1 101 2);have k3:Kp m m3:=k2.grown B (dK.nil m m2 3 1);have k4:Kp m M:=k3.grown C (dK.nil m m3 103 2);have up:∀{n F:MH}{s:Sl}{E:TypeId}{sz:Nat}{O:List dj},Kp m n->bV n F cJ s E sz O->dK m F s E sz O:=λk g=>(dK.nil m _ _ _).up g λb o e=>.inr (k.held b o e);have of:∀{n F:MH}{s t:Sl}{E E':TypeId}{sz U:Nat}{xs O:List dj},dK m n s E sz xs->bV n F cJ t E' U O->dK m F s E sz xs:=λr g=>r.off g λ_ _ _ _ e=>by cases e
 have c1:=up D T;have c2:=of c1 L
 have G:nY m M S w co on gr od [] ⟨v.op,v.table,wv,s1,s2,s3,s4,v.limit,cJ⟩ []:=
  {where_:=hw,columns_:=of (of c2 B) C,on_:=of (of (up k1 L) B) C,group_:=of (up k2 B) C,order_:=up k3 C,args_:=dK.nil m M 38 21,rep:=rfl,lco:=aC,lon:=aC,lgr:=aC,lod:=aC,lar:=bx,
   apart:=λb i j e H=>(by
    obtain⟨a1,h2⟩:=cM.blk c2.row e;rcases B.fresh b j H with P|⟨_,P⟩
    .rw[h2]at P;cases P
    .cases P)}
 refine⟨λz=>z.1<=args.length/\∃us,nY m z.2.2.1 z.2.2.2 w co on gr od (args.take z.1) z.2.1 us/\Kp m z.2.2.1/\PH.le S z.2.2.2/\z.2.1.op=op/\z.2.1.table=ta/\z.2.1.limit=li,λz=>args.length-z.1,⟨(0,_,M,S),⟨bx,[],G,k4,.refl _,x.op_,x.table_,x.limit_⟩,MT⟩,?_⟩;rintro⟨i,u,n,hx⟩ ⟨hi,us,A,Q,lex,V,H,W⟩;dsimp only at hi A Q lex V H W⊢
 have X:=A.rep.length;rw[length_take]at X;refine aE (λI=>?_) (λa2=>?_)
 .obtain⟨q,Y⟩:=eN R I;have a3:=(cn Y);obtain⟨b1,o1,y,ey,Z,a'⟩:=(x.args_.mono (c.trans lex)).at Y;refine⟨b1,o1,ey,aC,I,y,.imm Z,y,q,rfl,a',λf h' d a0=>⟨.imm (Z.mono d),Z.mono d,us.map QV.enc,A.args_.row,cd,cd,λs' m' hg=>?_⟩⟩;rw[fP aC];have J:=(A.mono d).argsE Q.held a0 hg ce;rw[show args.take i++[q]=args.take (i+1)by rw[db,Y];rfl]at J;exact⟨(i+1,{u with args:=s'},m',h'),⟨ck,us++[f],J.1,Q.grown hg A.args_,lex.trans d,V,H,W⟩,cj,MT⟩
 .rw[cu aC]at A;exact hK u us n hx (c.trans lex) V H W A Q
theorem WH:di 49 bcQ:=by
 have n:di 49 (λc m h K=>∃v q,c=[aQ v]/\bR h q v/\HM q/\∀d m' h',PH.le h h'->ZL true m q d m' h'->K (aQ d) m' h'):=by
  refine gO func49 ?_;rintro c m h K ⟨v,q,rfl,f,j,g⟩;obtain⟨op,ta,w,co,on,gr,od,li,args⟩:=q;refine⟨aHZ v,rfl,aD Qa (aD Qf aF),Kq v m h K,bu,?_⟩;exact bpZ f.parts j λd us m' h' le y z A B k=>g d m' h' le ⟨y,z,A,⟨us,B⟩,k⟩
 refine⟨n.1,λc o m h w K C u=>?_⟩;obtain⟨b,v,q,e,f,j,g⟩:=C;cases b with
 |true=>exact n.2 c o m h w K ⟨v,q,e,f,j rfl,g⟩ u
 |false=>exact Qf.2 c o m h w K ⟨v,q,e,f,λd h' le r=>g d m h' le ⟨r,rfl⟩⟩ u
theorem YO:sZ gT:=⟨xE,xE,trivial⟩
theorem axZ(t:Int):QN (.mk 1 t gT [] [] [] [] 0 []):=Hk.2 ⟨YO,λ_ h=>by cases h⟩
theorem aAZ{p:Query}(c:QN q)(d:QN p):QN (.mk 6 0 gT [] [] [] [] 0 [q,p]):=Hk.2 ⟨YO,λa h=>by
 simp at h;rcases h with rfl|rfl
 .exact c
 .exact d⟩
theorem N7(m:MH)(h:PH):Av m h m h:=⟨λ_ _ e=>e,.refl _,λ_ _ _ e=>.inl e⟩
theorem T9{p:Query}{w u:QV}{s:Sl}(c:bR h q w)(d:bR h p u)(le:PH.le h h')(rs:bN h' s 21 [QV.enc w,QV.enc u]):bR h' (.mk 6 0 gT [] [] [] [] 0 [q,p]) ⟨6,0,hZ,cJ,cJ,cJ,cJ,0,s⟩:=
 ⟨rfl,rfl,⟨rfl,rfl,rfl,rfl,bx,[],bN.nil _ _,rfl⟩,⟨bN.nil _ _,bx⟩,⟨bN.nil _ _,bx⟩,⟨bN.nil _ _,bx⟩,⟨bN.nil _ _,bx⟩,rfl,bx,[w,u],rs,w,[u],rfl,c.mono le,u,[],rfl,d.mono le,rfl⟩
def SpA(Q:Query)(op:Int)(args:dt):Prop:=O9 Q->max 1 (vL args)<=yZ Q\/∀t w co on gr od l,Fat (.mk op t w co on gr od l args)
theorem SpA.qs{Q:Query}{op t l:Int}{on:dp}{args:dt}(x:SpA Q op args)(n:QN (.mk op t w co on gr od l args)):QS Q (.mk op t w co on gr od l args):=
 ⟨n,λe=>(x e).imp (λh=>by rw[yZ];exact h) (λh=>h _ _ _ _ _ _ _)⟩
theorem OK:∀{l:dt}{q:Query},q∈l->nW q<=qH l/\Ej q<=EA l/\yZ q<=vL l
 |p::l,q,h=>by
  simp only[qH,EA,vL];rcases mem_cons.1 h with rfl|h
  .omega
  .have:=OK h;omega
theorem Y4:∀{l:dt}{k:Nat}{a b:Query},l[k]? =some a->yZ b<=yZ a->vL (l.set k b)<=vL l
 |p::l,0,a,b,h,c=>by
  simp only[getElem?_cons_zero,cw]at h;subst h;simp only[set_cons_zero,vL];omega
 |p::l,k+1,a,b,h,c=>by
  simp only[getElem?_cons_succ]at h;have:=Y4 h c;simp only[set_cons_succ,vL];omega
theorem bJJ{op f:Int}{on:dp}{args:dt}{k:Nat}{a c:Query}(j:args[k]? =some a)(h:QS a c):SpA (.mk op ta w co on gr od li args) f (args.set k c):=λe=>by
 have o:=(cn j);have n:c∈args.set k c:=cr (getElem?_set_self o);rcases h.2 ((CX.1 e).2 a (cr j))with d|d|d|d
 .have:=Y4 j d;left;rw[yZ];omega
 .right;intro t w co on gr od l;left;have:=(OK n).1;simp only[nW];omega
 .right;intro t w co on gr od l;right;left;have:=(OK n).2.1;simp only[Ej];omega
 .right;intro t w co on gr od l;right;right;exactλg=>d ((CX.1 g).2 c n)
theorem bKQ{op:Int}{on:dp}{args:dt}{c:Query}:SpA (.mk op ta w co on gr od li args) op (args++[c]):=λe=>.inr λt w co on gr od l=>.inr (.inr λg=>by
 have f:=(CX.1 e).1;have d:=(CX.1 g).1;rw[ct,length_singleton]at d;omega)
theorem Y1(q p:Query):nW (.mk 6 0 gT [] [] [] [] 0 [q,p])=1+(nW q+nW p)/\Ej q+1<=Ej (.mk 6 0 gT [] [] [] [] 0 [q,p]):=by
 simp only[nW,qH,Ej,EA];omega
theorem YZ(q:Query):1<=nW q/\1<=Ej q:=by cases q;simp only[nW,Ej];omega
theorem Zp:∀N,di 14 (bWJ N)
 |0=>by
  refine eC (fn:=Tryz.f14) (c:=cL Tryz.f14) func14 rfl bz ?_;rintro a3 m h K ⟨cb,v,q,rfl,_,_,_,_,hN,_⟩;omega
 |N+1=>by
  refine gO func14 ?_;rintro a3 m h K ⟨cb,v,q,rfl,hc,hr,hl,a4,hN,hK⟩;refine⟨bxX N cb,rfl,aD D9 (aD sV (aD WH (aD ao (aD bk (aD (Zp N) aF))))),Vs N cb v m h K,bu,?_⟩;dsimp only[Vs,push_cast];have a':=@tQ q;obtain⟨Q0,hQ⟩:∃Q0,q=Q0:=⟨_,rfl⟩
  rw[hQ]at hK;obtain⟨op,ta,w,co,on,gr,od,li,args⟩:=q;have B:∀o,SpA Q0 o args:=λo _=>.inl (by rw[<-hQ,yZ];exact Nat.le_refl _);obtain⟨lw,l1,l2,l3,l4,l5,lq⟩:=NU.1 hl;obtain⟨P,Q⟩:=Hk.1 a4;refine⟨true,v,_,rfl,hr,λ_=>hl,λy m1 j D R=>?_⟩;obtain⟨e1,e2,e3,⟨us,hn⟩,kp⟩:=R;obtain⟨b5,Y⟩:=hc.blk;have a5:m cb≠none:=by rw[Y];simp
  have c1:aI m1 j cb:=hc.keep (by rw[Y];exact kp cb _ Y) D;have k1:Kept m m1 cb:=λb o e _=>kp b o e;have b6:=hn.rep.length;have b7:y.args.len=args.length:=by have:=cM.slen hn.args_.row;simp at this;omega
  have fin:∀{E:MH}{I:PH}{w:Pred}{co gr:dm}{on:dp}{od:dr}{args:dt}{u:QV}{us:eu},nY m E I w co on gr od args u us->sZ w->(∀a∈args,QN a)->SpA Q0 u.op args->Kept m E cb->aI E I cb->PH.le h I->vO E I->(∃f,bR (lB m E I) f u/\QS Q0 f)/\aL m (iQ m E) cb/\aI (iQ m E) (lB m E I) cb/\PH.le h (lB m E I):=λx pn an sp k c le d=>⟨⟨_,x.ice d,sp.qs (Hk.2 ⟨pn,an⟩)⟩,keep_other k,Kk c a5 d,le.trans (CC d)⟩
  refine⟨λz=>y=z.1/\j=z.2.2/\nY m z.2.1 j w co on gr od args y us/\Kept m z.2.1 cb/\aI z.2.1 j cb,aE (λa0=>⟨cb,2,rfl,aC,aC,c1,λr m2 o2 c2=>aB (λ_=>?_) (λ_=>⟨(y,m2,j),⟨rfl,rfl,hn.move o2 c1,k1.on o2,c2⟩,MT⟩)⟩) (λ_=>⟨(y,m1,j),⟨rfl,rfl,hn,k1,c1⟩,MT⟩),?_⟩
  .have n2:=hn.move o2 c1;have S:=k1.on o2;refine⟨cb,_,rfl,c2,λk m3 k0 kn o3 H=>?_⟩;have L:=n2.move o3 c2;have O:=S.on o3;have hk:k.toNat<args.length:=by omega
   obtain⟨a,ha⟩:∃a,args[k.toNat]? =some a:=⟨_,cq hk⟩
   have hm:=cr ha;have:=a' (q:=a) hm;obtain⟨u,hu,ru⟩:=L.rep.get ha;obtain⟨b,eb,rd⟩:=cM.rd (h:=j) L.args_.row (i:=k.toNat) (e:=QV.enc u) (by rw[getElem?_map,hu];rfl);refine⟨λz=>(∃f,bR z.2.2 f z.1/\QS Q0 f)/\aL m z.2.1 cb/\aI z.2.1 z.2.2 cb/\PH.le h z.2.2,⟨b,0,eb,k0,aC,u,by rw[Nat.zero_add];exact rd,cb,u,a,rfl,H,ru,lq a hm,Q a hm,aC,λf v' g h4 A r4 a2 C G=>?_⟩,?_⟩
   .have T:=(L.mono A).move C H;have k4:=O.on C;obtain⟨b2,a6,b4,cs,F,ma,a9,put⟩:=T.put (k4.held G) (i:=k.toNat) hk;refine⟨b2,0,a6,k0,aC,cs,F,ma,a9,λU hu d=>?_⟩;obtain⟨V,W⟩:=put f v' U r4 hu;exact⟨(y,iQ m U,lB m U h4),fin V P (λb hb=>(mem_or_eq_of_mem_set hb).elim (Q b) (λe=>e▸a2.1)) (by rw[<-hQ];exact bJJ ha a2) (λb' o e ne=>by rw[W b' o e];exact k4 b' o e ne) (G.keep (W cb _ Y) (.refl _)) (D.trans A) d,FT⟩
   .rintro⟨u,E,I⟩ ⟨⟨f,M,X⟩,o,c,le⟩;exact hK f u E I le M X o c
  .rintro⟨_,m2,_⟩ ⟨rfl,rfl,n2,S,c2⟩;dsimp only at n2 S c2⊢
   refine⟨λz=>(∃f,bR z.2.2 f z.1/\QS Q0 f)/\aL m z.2.1 cb/\aI z.2.1 z.2.2 cb/\PH.le h z.2.2,⟨cb,12,rfl,c2,λk m3 k0 kn o3 H=>?_⟩,?_⟩
   .have L:=n2.move o3 c2;have O:=S.on o3;have num:∀(a b c:Int){g:MH}(_:aL m3 g cb)(_:aI g j cb)(d:vO g j),(∃f,bR (lB m g j) f {y with op:=a,table:=b,limit:=c}/\QS Q0 f)/\aL m (iQ m g) cb/\aI (iQ m g) (lB m g j) cb/\PH.le h (lB m g j):=λa b c _ C G d=>fin ((L.move C H).nums a b c) P Q (B _) (O.on C) G D d;refine aB (λ_=>⟨cb,rfl,H,λn g C G d=>⟨({y with op:=n},iQ m g,lB m g j),num n y.table y.limit C G d,FT⟩⟩) (λ_=>?_);refine aB (λ_=>⟨cb,rfl,H,λn g C G d=>⟨({y with table:=n},iQ m g,lB m g j),num y.op n y.limit C G d,FT⟩⟩) (λ_=>?_);refine aB (λ_=>⟨cb,y.where_,w,rfl,H,L.where_,lw,P,λp' w' g h4 A r4 b0 C G d=>⟨({y with where_:=w'},iQ m g,lB m g h4),fin (((L.mono A).move C H).wher r4) b0 Q (B _) (O.on C) G (D.trans A) d,FT⟩⟩) (λ_=>?_);refine aB (λ_=>⟨cb,rfl,H,λn g C G=>?_⟩) (λ_=>?_)
    .have T:=L.move C H;have k4:=O.on C;exact⟨_,T.columns_.row,ce,ce,λs U J d=>⟨({y with columns:=s},iQ m U,lB m U j),fin (T.columns (k4.held G) J l1).1 P Q (B _) (k4.grown T.columns_ J) (G.keep (bV.at_cb J T.columns_ G bz) (.refl _)) D d,FT⟩⟩
    refine aB (λ_=>⟨cb,rfl,H,λn g C G=>⟨cb,rfl,G,λn2 U o5 c5=>?_⟩⟩) (λ_=>?_)
    .have V:=(L.move C H).move o5 G;have k5:=(O.on C).on o5;exact⟨_,V.on_.row,ce,ce,λs m6 J d=>⟨({y with on:=s},iQ m m6,lB m m6 j),fin (V.onE (p:=(n,n2)) (k5.held c5) J l2).1 P Q (B _) (k5.grown V.on_ J) (c5.keep (bV.at_cb J V.on_ c5 bz) (.refl _)) D d,FT⟩⟩
    refine aB (λ_=>⟨cb,rfl,H,λn g C G=>?_⟩) (λ_=>?_)
    .have T:=L.move C H;have k4:=O.on C;exact⟨_,T.group_.row,ce,ce,λs U J d=>⟨({y with group:=s},iQ m U,lB m U j),fin (T.group (k4.held G) J l3).1 P Q (B _) (k4.grown T.group_ J) (G.keep (bV.at_cb J T.group_ G bz) (.refl _)) D d,FT⟩⟩
    refine aB (λ_=>⟨cb,2,rfl,H,λS g k0 kn C G=>?_⟩) (λ_=>?_)
    .have ek:IntKind.i64.wrap (1+IntKind.i64.wrap (12*S))=(((1+12*S).toNat:Nat):Int):=by
      rw[dR (n:=12*S) aC aC,dR aC aC];omega
     rw[ek];refine⟨λz=>z.1<=13/\j=z.2.2.2/\∃Z,nY m z.2.2.1 j w co on gr Z args z.2.1 us/\Kept m z.2.2.1 cb/\aI z.2.2.1 j cb/\Z.length+z.1<=1000000013,λz=>z.1,⟨((1+12*S).toNat,y,g,j),⟨by show(1+12*S).toNat<=13;omega,rfl,od,L.move C H,O.on C,G,ck⟩,MT⟩,?_⟩;rintro⟨i,u,E,_⟩ ⟨hi,rfl,Z,nx,kx,cx,b1⟩;dsimp only at hi nx kx cx b1⊢
     refine aE (λa0=>⟨cb,rfl,cx,λn U o5 c5=>?_⟩) (λ_ d=>⟨(u,iQ m E,lB m E j),fin nx P Q (B _) kx cx D d,FT⟩);have V:=nx.move o5 cx;have k5:=kx.on o5
     have hw:IntKind.i64.wrap ((i:Int)-1)=((i-1:Nat):Int):=by
      rw[show(i:Int)-1=((i-1:Nat):Int)by omega];exact dR aC aC
     rw[hw];refine⟨_,V.order_.row,ce,ce,λs m6 J=>⟨(i-1,{u with order:=s},m6,j),⟨ck,rfl,Z++[(n,false)],(V.orderE (p:=(n,false)) (k5.held c5) J aC).1,k5.grown V.order_ J,c5.keep (bV.at_cb J V.order_ c5 bz) (.refl _),ce⟩,ck,MT⟩⟩
    refine aB (λ_=>⟨cb,rfl,H,λn g C G d=>⟨({y with limit:=n},iQ m g,lB m g j),num y.op y.table n C G d,FT⟩⟩) (λ_=>?_);refine aB (λ_=>?_) (λ_=>?_)
    .exact⟨_,L.args_.row,ce,ce,λs g J d=>⟨({y with args:=s},iQ m g,lB m g j),fin (L.argsE (u:=⟨1,0,hZ,cJ,cJ,cJ,cJ,0,cJ⟩) (O.held H) (Bd j 0) J l5).1 P (λb hb=>(mem_append.1 hb).elim (Q b) (λe=>(mem_singleton.1 e)▸axZ 0)) (by rw[<-hQ,show y.op=op from e1];exact bKQ) (O.grown L.args_ J) (H.keep (bV.at_cb J L.args_ H bz) (.refl _)) D d,FT⟩⟩
    refine aB (λ_ d=>⟨({y with args:=cJ},iQ m m3,lB m m3 j),fin L.none P (λ_ h=>by cases h) (λ_=>.inl (by simp only[vL];exact Fh Q0)) O H D d,FT⟩) (λ_=>?_);refine aB (λ_=>?_) (λ_=>?_)
    .refine⟨λz=>z.1=0/\(∃f,bR z.2.2.2 f z.2.1/\QS Q0 f)/\aL m z.2.2.1 cb/\aI z.2.2.1 z.2.2.2 cb/\PH.le h z.2.2.2,λd=>⟨(0,y,iQ m m3,lB m m3 j),⟨rfl,fin L P Q (B _) O H D d⟩,FT⟩,?_⟩;rintro⟨_,u,E,I⟩ ⟨rfl,M,o,c,le⟩;refine⟨λz=>z.1<=8/\(∃f,bR z.2.2.2 f z.2.1/\QN f/\z.1+1<=Ej f)/\aL m z.2.2.1 cb/\aI z.2.2.1 z.2.2.2 cb/\PH.le h z.2.2.2,λz=>8-z.1,⟨(0,u,E,I),⟨bx,M.elim λf e=>⟨f,e.1,e.2.1,by have:=(YZ f).2;show 0+1<=Ej f;omega⟩,o,c,le⟩,MT⟩,?_⟩;rintro⟨i,u,E,I⟩ ⟨hi,⟨f,M,X,sz⟩,o,c,le⟩;dsimp only at hi M sz o c le⊢
     refine aE (λa0=>λs h4 A rs=>?_) (λb3 d=>⟨(u,E,I),⟨⟨f,M,X,λ_=>.inr (.inr (.inl aC))⟩,o,c,le⟩,by repeat' (first|exact N7 _ _|exact trivial|refine⟨?_,?_⟩|rfl)⟩);rw[fP aC];exact⟨(i+1,_,E,h4),⟨ck,⟨_,T9 M (Bd I 0) A rs,aAZ X (axZ 0),by have:=(Y1 f (.mk 1 0 gT [] [] [] [] 0 [])).2;show i+1+1<=Ej _;omega⟩,o,c.mono A,le.trans A⟩,cj,MT⟩
    .refine⟨λz=>z.1=0/\(∃f,bR z.2.2.2 f z.2.1/\QS Q0 f)/\aL m z.2.2.1 cb/\aI z.2.2.1 z.2.2.2 cb/\PH.le h z.2.2.2,λd=>⟨(0,y,iQ m m3,lB m m3 j),⟨rfl,fin L P Q (B _) O H D d⟩,FT⟩,?_⟩;rintro⟨_,u,E,I⟩ ⟨rfl,M,o,c,le⟩;refine⟨λz=>z.1<=4/\(∃f,bR z.2.2.2 f z.2.1/\QN f/\2^(z.1+1)<=nW f+1)/\aL m z.2.2.1 cb/\aI z.2.2.1 z.2.2.2 cb/\PH.le h z.2.2.2,λz=>4-z.1,⟨(0,u,E,I),⟨bx,M.elim λf e=>⟨f,e.1,e.2.1,by have:=(YZ f).1;show 2<=nW f+1;omega⟩,o,c,le⟩,MT⟩,?_⟩;rintro⟨i,u,E,I⟩ ⟨hi,⟨f,M,X,sz⟩,o,c,le⟩;dsimp only at hi M sz o c le⊢
     refine aE (λa0=>⟨false,u,f,rfl,M,λe=>(by cases e),λv2 g h3 a1 R s h4 A rs=>?_⟩) (λb3 d=>⟨(u,E,I),⟨⟨f,M,X,λ_=>.inr (.inl (by have e4:i=4:=aC;subst e4;simp at sz;omega))⟩,o,c,le⟩,by repeat' (first|exact N7 _ _|exact trivial|refine⟨?_,?_⟩|rfl)⟩);obtain⟨r2,rfl⟩:=R;rw[fP aC];exact⟨(i+1,_,_,h4),⟨ck,⟨_,T9 (M.mono a1) r2 A rs,aAZ X X,by have:=(Y1 f f).1;show 2^(i+1+1)<=nW _+1;rw[this,Nat.pow_succ];omega⟩,o,(c.mono a1).mono A,(le.trans a1).trans A⟩,cj,MT⟩
   .rintro⟨u,E,I⟩ ⟨⟨f,M,X⟩,o,c,le⟩;exact hK f u E I le M X o c
theorem aqJ:di 14 bXQ:=jE Zp λ_ _ _ _⟨cb,v,q,e,c,d,f,g,j⟩=>⟨SizeOf.sizeOf q+1,cb,v,q,e,c,d,f,g,aC,j⟩
theorem azQ{k:dm}(c:fA s=0)(h:uQ q=true)(d:bZ s [] q=(k,0)):fR s [] q=(k,0):=by
 unfold fR
 grind
theorem jV.new(c:jV m)(f:m cb=none)(o:aL m m' cb):jV m':=by
 obtain⟨T,d,e⟩:=c;refine⟨T,d,?_⟩;rw[o.other 1 (λg=>cg)];exact e
theorem Ul:∀q:Query,HJ q->O9 q->HM q
 |.mk op ta w co on gr od li args,h,a=>by
  rw[HJ.eq_def]at h;rw[O9.eq_def]at a;obtain⟨k,d⟩:=h;obtain⟨f,e⟩:=a;have:arity op<=2:=by unfold arity;repeat' split<;>omega
  exact NU.2 ⟨k.wher,k.columns,k.on,k.group,k.order,aC,λb c=>Ul b (d b c) (e b c)⟩
 termination_by q=>SizeOf.sizeOf q
 decreasing_by
  have:=sizeOf_lt_of_mem c;simp only[Query.mk.sizeOf_spec];omega
theorem bjQ(h:(fR s ps q).2=0):HM q:=by
 have:=A6 q (pJ h).2.2.2;exact Ul q this.1 this.2
def xH(s t:Sl):Prop:=∀b i j,s.a=some ⟨b,i,none⟩->t.a≠some ⟨b,j,none⟩
structure JK(m0 m:MH)(t:Sl)(us:dq)(l:dl):Prop where
 row:dK m0 m t 94 1 (us.map eS)
 len:us.length=l.length
 at_:∀(j:Nat) u r,us[j]? =some u->l[j]? =some r->dK m0 m u 27 3 (r.map VV.enc)
structure Pb(m0 m:MH)(w:Sl)(ts:dq)(uss:List dq)(st:List dl):Prop where
 row:dK m0 m w 53 1 (ts.map eS)
 len:ts.length=st.length
 ulen:uss.length=st.length
 at_:∀(i:Nat) t us l,ts[i]? =some t->uss[i]? =some us->st[i]? =some l->JK m0 m t us l
 apT:ts.Pairwise xH
 apR:uss.flatten.Pairwise xH
def YK:Vc.Spec:=λc m h K=>∃(s:Sl)(r:dn),c=[cS s]/\kS m h s 3 (r.map VV.enc)/\r.length<=1000000/\∀d m',bV m m' cJ d 27 3 (r.map VV.enc)->K (cS d) m' h
def ZZ:Vc.Spec:=λd m h K=>∃f c,d=[VT f]/\Leaves h f c/\c.length<=1000/\(∀l∈c,l.length<=1000000/\∀r∈l,r.length<=1000000)/\∀w ts e m',Pb m m' w ts e c->Kp m m'->K (VT w) m' h
noncomputable def f52w_ctx(sl:Sl)(h:PH):Ctx:=
 vM [(55,YK)] [(3,{A:=Nat×Sl×MH,st:=λ⟨i,w,m⟩=>bK 36 37 [(2,.at (.ptr 2 0)),(3,.at (.ptr 3 0)),(10,sv sl),(11,iv sl.len),(12,iv i)] [(2,.cells 25 [.val (.slice none 0 0)]),(3,.cells 25 [.val (.slice w.a w.len w.cap)])] m h}),
  (7,{A:=Nat×Sl×Sl×Nat×Sl×MH,st:=λ⟨j,t,u,i,w,m⟩=>bK 36 37 [(2,.at (.ptr 2 0)),(3,.at (.ptr 3 0)),(6,sv t),(10,sv sl),(11,iv sl.len),(12,iv i),(16,sv u),(17,iv u.len),(18,iv j)] [(2,.cells 25 [.val (.slice none 0 0)]),(3,.cells 25 [.val (.slice w.a w.len w.cap)])] m h})] [] [] [1053,1023] [] false
def af(s:Sl)(m:MH)(h:PH)(K:dk):Prop:=
  ∃(x:List dj),tH (cM m lH 27 3 x) (λy=>aA (cT 3 y) (kS m h (bD s) 3 y) (aA (kH x y 32) (kC x y) (fX (λc d=>bV m d lH c 27 3 (x++y)->K (fD c) d h))))
abbrev IC(a:dz)(b:Sl):Prop:=oQ 25 a=oQ 25 (lY b)
noncomputable abbrev yT(a:Nat×Sl×Sl×Nat×Sl×MH):Sl:=a.2.2.1
noncomputable abbrev Gs(a:Nat×Sl×Sl×Nat×Sl×MH):Sl:=a.2.2.2.2.1
noncomputable abbrev BY(a:Nat×Sl×Sl×Nat×Sl×MH):Nat->Option Obj:=a.2.2.2.2.2
abbrev Jc(a:dn):Prop:=a.length<=1000000
attribute [push_cast] IC yT Gs BY Jc
def aq(sl:Sl)(m:MH)(h:PH)(K:dk):Prop:=
  ∃(I:Nat×Sl×MH->Prop)(g:Nat×Sl×MH->Nat),(∃(x:Nat×Sl×MH),aA (I x) dX (aA cA (aG sl) (aA (a7 sl) (aY x.1) (aA oY (IC AP x.2.1) (bE (m=x.2.2) h h)))))/\∀(x:Nat×Sl×MH),I x->aR (↑x.1:Int) (aH sl) (cK sl.a (↑x.1:Int) sl (λb o y=>aK x.2.2 h b (bC o x.1 1) (aM y)/\∃(I1:Nat×Sl×Sl×Nat×Sl×MH->Prop)(j:Nat×Sl×Sl×Nat×Sl×MH->Nat),(∃(c:Nat×Sl×Sl×Nat×Sl×MH),aA (I1 c) dX (aA cA (sQn=YW c.2.1) (aA (aG sl) (a7 sl) (aA (bO x.1 c.2.2.2.1) (bF y (yT c)) (aA (dA y (yT c)) (aY c.1) (aA oY (IC (lY x.2.1) (Gs c)) (bE (x.2.2=BY c) h h)))))))/\∀(c:Nat×Sl×Sl×Nat×Sl×MH),I1 c->aR (↑c.1:Int) (aH (yT c)) (cK (yT c).a (↑c.1:Int)
 (yT c) (λA B n=>aK (BY c) h A (bC B c.1 1) (aM n)/\pL (λs r=>aA (p9 n s) (kS (BY c) h s 3 (j6 r)) (Jc r/\IW (BY c) 27 3 (j6 r) (λC f e=>aA (cM f (bD c.2.1) 94 1 e) (iS e) (dH e/\fX (λu z=>bV f z (bD c.2.1) u 94 1 (dY e (aM C))->∃(d:Nat×Sl×Sl×Nat×Sl×MH),aA (I1 d) (j d<j c) (aA dX cA (aA (bF u d.2.1) (aG sl) (aA (a7 sl) (bO c.2.2.2.1 d.2.2.2.1) (aA (bF (yT c) (yT d)) (dA (yT c) (yT d)) (aA (aU (aW c.1 1) d.1) oY (bG (IC (lY (Gs c)) (Gs d)) (z=BY d) (h=h)))))))))))))) (∃(e:List dj),aA (cM (BY c) (bD (Gs c)) 53 1 e) (iS e) (dH e/\fX (λs f=>bV
 (BY c) f (bD (Gs c)) s 53 1 (dY e (aM c.2.1))->∃(d:Nat×Sl×MH),aA (I d) (g d<g x) (aA dX cA (aA (aG sl) (a7 sl) (aA (aU (aW c.2.2.2.1 1) d.1) oY (bG (IC (lY s) d.2.1) (f=d.2.2) (h=h)))))))))) (K (pN (aM x.2.1)) x.2.2 h)
theorem dK.nilg{m0:MH}{s d:Sl}{E E':TypeId}{c:Nat}{f:List dj}(r:dK m0 m s E sz xs)(x:bV m m' cJ d E' c f):dK m0 m' s E sz xs:=r.off x λ_ _ _ _ e=>by cases e
theorem JK.imp{m0:MH}{t:Sl}{us:dq}{l:dl}(x:JK m0 m t us l)(d:dK m0 m t 94 1 (us.map eS)->dK m0 m' t 94 1 (us.map eS))(e:∀u r,u∈us->dK m0 m u 27 3 r->dK m0 m' u 27 3 r):JK m0 m' t us l:=
 ⟨d x.row,x.len,λj u r c f=>e u _ (cr c) (x.at_ j u r c f)⟩
theorem Pb.imp{m0:MH}{w:Sl}{ts:dq}{c:List dq}{st:List dl}(x:Pb m0 m w ts c st)(f:dK m0 m w 53 1 (ts.map eS)->dK m0 m' w 53 1 (ts.map eS))(g:∀t xs,t∈ts->dK m0 m t 94 1 xs->dK m0 m' t 94 1 xs)(j:∀u r,u∈c.flatten->dK m0 m u 27 3 r->dK m0 m' u 27 3 r):Pb m0 m' w ts c st:=
 ⟨f x.row,x.len,x.ulen,λi t us l d e n=>(x.at_ i t us l d e n).imp (g t _ (cr d)) (λu r o=>j u r (mem_flatten.2 ⟨us,cr e,o⟩)),x.apT,x.apR⟩
theorem JK.of{m0:MH}{t:Sl}{us:dq}{l:dl}(x:JK m0 m t us l){u:Sl}(d:u∈us):∃xs,dK m0 m u 27 3 xs:=by
 obtain⟨j,c⟩:=mem_iff_getElem?.1 d;have e:=(cn c);have f:=x.len;exact⟨_,x.at_ j u _ c (cq aC)⟩
theorem Pb.tab{m0:MH}{w:Sl}{ts:dq}{c:List dq}{st:List dl}(x:Pb m0 m w ts c st){t:Sl}(e:t∈ts):∃xs,dK m0 m t 94 1 xs:=by
 obtain⟨j,d⟩:=mem_iff_getElem?.1 e;have f:=(cn d);have g:=x.len;have n:=x.ulen;exact⟨_,(x.at_ j t _ _ d (cq aC) (cq aC)).row⟩
theorem Pb.of{m0:MH}{w:Sl}{ts:dq}{c:List dq}{st:List dl}(x:Pb m0 m w ts c st){u:Sl}(e:u∈c.flatten):∃xs,dK m0 m u 27 3 xs:=by
 obtain⟨us,f,g⟩:=mem_flatten.1 e;obtain⟨j,d⟩:=mem_iff_getElem?.1 f;have n:=(cn d);have o:=x.len;have y:=x.ulen;exact(x.at_ j _ us _ (cq aC) d (cq aC)).of g
theorem dK.apartN{m0:MH}{u f:Sl}{E E':TypeId}{d:Nat}{g:List dj}(r:dK m0 m u E sz xs)(x:bV m m' cJ f E' d g):xH u f:=λb i j e n=>by
 obtain⟨o,h⟩:=cM.blk r.row e;rcases x.fresh b j n with c|⟨_,c⟩
 .rw[h]at c;cases c
 .cases c
theorem dK.apartG{m0:MH}{u t f:Sl}{E E':TypeId}{d:Nat}{g:List dj}(r:dK m0 m u E sz xs)(n:xH u t)(x:bV m m' t f E' d g):xH u f:=λb i j e o=>by
 obtain⟨y,h⟩:=cM.blk r.row e;rcases x.fresh b j o with c|⟨k,c⟩
 .rw[h]at c;cases c
 .exact n b i k e c
theorem Pb.nil(m0 m:MH):Pb m0 m cJ [] [] []:=⟨dK.nil m0 m 53 1,rfl,rfl,λi t us l e=>by simp at e,.nil,.nil⟩
theorem JK.nil(m0 m:MH):JK m0 m cJ [] []:=⟨dK.nil m0 m 94 1,rfl,λj u r e=>by simp at e⟩
theorem bI.src{s:Sl}{r:dn}(d:bI h s r):kS m h s 3 (r.map VV.enc):=by
 obtain⟨f,g,c,j⟩:=d.ex
 have e:f=r:=by
  refine ext_getElem? λi=>?_;cases e:r[i]? with
  |none=>rw[getElem?_eq_none_iff]at e⊢;omega
  |some x=>obtain⟨v,n,rfl⟩:=j i x e;exact n
 subst e;exact .imm g
theorem bl{s:Sl}{r:dn}(d:kS m h s 3 (r.map VV.enc))(f:r.length<=1000000)(e:∀c m',bV m m' cJ c 27 3 (r.map VV.enc)->K (cS c) m' h):af s m h K:=by
 dsimp only[af,push_cast];exact⟨[],cM.nil _ _ _,_,Bf r,d,ce,ce,λc m' g=>e c m' (by rw[nil_append]at g;exact g)⟩
theorem au:di 55 YK:=by
 refine gO func55 ?_;rintro c m h K ⟨s,r,rfl,d,e,f⟩;refine⟨vM [] [] [] [] [1094] [] false,rfl,aF,af s m h K,bu,?_⟩;exact bl d e f
theorem bm:di 52 ZZ:=by
 refine gO func52 ?_;rintro b0 m h K ⟨sl,C,rfl,hl,n1,n2,hK⟩;refine⟨f52w_ctx sl h,rfl,aD au aF,aq sl m h K,bu,?_⟩;dsimp only[aq,push_cast];have a':=aZ.slen hl;refine⟨λx=>x.1<=C.length/\∃ts c,Pb m x.2.2 x.2.1 ts c (C.take x.1)/\Kp m x.2.2,λx=>C.length-x.1,⟨(0,cJ,m),⟨bx,[],[],Pb.nil m m,λ_ _ e=>e⟩,MT⟩,?_⟩;rintro⟨i,w,mx⟩ ⟨hi,ts,c,d,kx⟩;dsimp only at hi d kx⊢
 refine aE (λS=>?_) (λb3=>?_)
 .obtain⟨l,D⟩:=eN a' S;have b4:=(cn D);obtain⟨nl,nr⟩:=n2 l (cr D);obtain⟨b1,o1,y,ey,rd,hy⟩:=aZ.at hl D;have a0:=aZ.slen hy;refine⟨b1,o1,ey,aC,S,y,.imm rd,λz=>y=z.2.2.1/\i=z.2.2.2.1/\w=z.2.2.2.2.1/\z.1<=l.length/\∃us,Pb m z.2.2.2.2.2 w ts c (C.take i)/\JK m z.2.2.2.2.2 z.2.1 us (l.take z.1)/\Kp m z.2.2.2.2.2/\(∀t∈ts,xH t z.2.1)/\(c.flatten++us).Pairwise xH,λz=>l.length-z.1,⟨(0,cJ,y,i,w,mx),⟨rfl,rfl,rfl,bx,[],d,JK.nil m mx,kx,(λ_ _ _ _ _ _ e=>by cases e),(by rw[append_nil];exact d.apR)⟩,MT⟩,?_⟩;rintro⟨j,t,_,_,_,my⟩ ⟨rfl,rfl,rfl,hj,us,d,R,T,E,M⟩;dsimp only at hj d R T E M⊢
  have a1:=R.len;have a2:=d.len;rw[length_take]at a1 a2;refine aE (λH=>?_) (λb'=>?_)
  .obtain⟨r,Y⟩:=eN a0 H;have U:=(cn Y);obtain⟨b2,o2,v,ev,a3,hv⟩:=aZ.at hy Y;refine⟨b2,o2,ev,aC,H,v,.imm a3,v,r,rfl,hv.src,nr r (cr Y),λs' m1 F=>?_⟩;have V:=d.imp (λr=>r.nilg F) (λ_ _ _ r=>r.nilg F) (λ_ _ _ r=>r.nilg F);have n:=R.imp (λr=>r.nilg F) (λ_ _ _ r=>r.nilg F);have k1:=T.grown F (dK.nil m my 27 3);have W:=(dK.nil m my 27 3).up F (λb o e=>.inr (T.held b o e))
   have a4:∀u∈c.flatten++us,xH u s':=λu hu=>by
    rcases mem_append.1 hu with h|h
    .obtain⟨_,f⟩:=d.of h;exact f.apartN F
    .obtain⟨_,f⟩:=R.of h;exact f.apartN F
   refine⟨us.map eS,n.row.row,cd,cd,λt' Z I=>?_⟩;have a5:=V.imp (λr=>r.off I (r.ne n.row bz)) (λJ _ h0 r=>r.off I (E J h0)) (λ_ _ _ r=>r.off I (r.ne n.row bz));rw[fP aC];refine⟨(j+1,t',y,i,w,Z),⟨rfl,rfl,rfl,ck,us++[s'],a5,⟨?_,?_,λk u r' A B=>?_⟩,k1.grown I n.row,λJ h0=>?_,?_⟩,cj,MT⟩
   .rw[cv];exact n.row.up I (λb o e=>.inr (k1.held b o e))
   .show(us++[s']).length=(l.take (j+1)).length;rw[length_take];simp;omega
   .have B:(l.take j++[r])[k]? =some r':=by rw[show l.take j++[r]=l.take (j+1)by rw[db,Y];rfl];exact B
    rcases Nat.lt_or_ge k us.length with O|O
    .rw[getElem?_append_left O]at A;rw[getElem?_append_left (by rw[length_take];omega)]at B;have f:=n.at_ k u r' A B;exact f.off I (f.ne n.row bz)
    .rw[getElem?_append_right O]at A;rw[getElem?_append_right (by rw[length_take];omega)]at B;have P:k-us.length=0:=by have:=(cn A);simp at this;omega
     rw[P]at A;rw[length_take,show k-min j l.length=0 by omega]at B;simp only[getElem?_cons_zero,cw]at A B;subst A B;exact W.off I (W.ne n.row bz)
   .obtain⟨_,f⟩:=V.tab h0;exact f.apartG (E J h0) I
   .rw[<-append_assoc,pairwise_append];exact⟨M,bx,λa ha b hb=>by rw[mem_singleton.1 hb];exact a4 a ha⟩
  .have U:j=l.length:=by omega
   subst U;rw[take_length]at R;refine⟨ts.map eS,d.row.row,cd,cd,λw' Z g=>?_⟩;have a6:=d.ulen;rw[length_take]at a6;have L:∀{J:Sl}{G:dq}{X:dl},JK m my J G X->JK m Z J G X:=λx=>x.imp (λr=>r.off g (r.ne d.row bz)) (λ_ _ _ r=>r.off g (r.ne d.row bz));have a9:C.take (i+1)=C.take i++[l]:=by rw[db,D];rfl
   rw[fP aC];refine⟨(i+1,w',Z),⟨ck,ts++[t],c++[us],⟨?_,?_,?_,λk J G X A B Q=>?_,?_,?_⟩,T.grown g d.row⟩,cj,MT⟩
   .rw[cv];exact d.row.up g (λb o e=>.inr (T.held b o e))
   .show(ts++[t]).length=(C.take (i+1)).length;rw[length_take];simp;omega
   .show(c++[us]).length=(C.take (i+1)).length;rw[length_take];simp;omega
   .have Q:(C.take i++[l])[k]? =some X:=by rw[<-a9];exact Q
    rcases Nat.lt_or_ge k ts.length with O|O
    .rw[getElem?_append_left O]at A;rw[getElem?_append_left aC]at B;rw[getElem?_append_left (by rw[length_take];omega)]at Q;exact L (d.at_ k J G X A B Q)
    .rw[getElem?_append_right O]at A;have P:k-ts.length=0:=by have:=(cn A);simp at this;omega
     rw[getElem?_append_right aC,show k-c.length=0 by omega]at B;rw[getElem?_append_right (by rw[length_take];omega),length_take,show k-min i C.length=0 by omega]at Q;rw[P]at A;simp only[getElem?_cons_zero,cw]at A B Q;subst A B Q;exact L R
   .exact pairwise_append.2 ⟨d.apT,bx,λa ha b hb=>by rw[mem_singleton.1 hb];exact E a ha⟩
   .show(c++[us]).flatten.Pairwise xH;rw[flatten_append,flatten_cons,flatten_nil,append_nil];exact M
 .rw[cu aC]at d;exact hK w ts c mx d kx
def bfQ:Vc.Spec:=λc m h K=>∃cb,c=[cP cb]/\aI m h cb/\∀v m',nL v.kind->nL v.int->aL m m' cb->aI m' h cb->K (aV v) m' h
def bdX:Vc.Spec:=λc m h K=>∃cb n,c=[cP cb,cI n]/\aI m h cb/\0<=n/\n<=1000/\∀l s m' h',PH.le h h'->bI h' s l->(∀v∈l,nL v.kind/\nL v.int)->l.length<=1000->aL m m' cb->aI m' h' cb->K (cS s) m' h'
noncomputable def f53_ctx(cb:Nat)(h:PH):Ctx:=
 dG [(54,bfQ)] [(2,{A:=Nat×dn×MH,st:=λ⟨i,l,m⟩=>bK 16 18 [(0,pv cb),(1,iv i),(5,.at (.lst 14))] [(14,.lst 27 3 (l.map VV.enc))] m h})] [] [] false
def bEQ:Vc.Spec:=λf m h K=>∃cb g d,f=[cP cb,VT g]/\aI m h cb/\Leaves h g d/\V7 d/\d.length<=900/\(∀l∈d,l.length<=900000/\∀r∈l,0<r.length/\r.length<=900000)/\
 ∀e c m' h',PH.le h h'->Leaves h' e c->V7 c->c.length<=d.length+1->(∀n,(∀l∈d,l.length<=n)->∀l∈c,l.length<=n+1)->(∀l∈c,∀r∈l,r.length<=1000000)->aL m m' cb->aI m' h' cb->K (VT e) m' h'
noncomputable def bwZ(cb:Nat):Ctx:=
 vM [(12,C2),(13,G8),(52,ZZ),(53,bdX),(54,bfQ),(55,YK)] []
  [(5,{A:=Sl×MH×PH,st:=λ⟨w,m,h⟩=>bK 118 120 [(0,pv cb),(3,.at (.ptr 3 0)),(4,.at (.ptr 4 0))] [(3,.cells 25 [.val (.slice w.a w.len w.cap)]),(4,.cells 25 [.val (.slice none 0 0)])] m h}),
   (10,{A:=Nat×Sl×Sl×MH×PH,st:=λ⟨i,t,w,m,h⟩=>bK 118 120 [(0,pv cb),(3,.at (.ptr 3 0)),(4,.at (.ptr 4 0)),(5,iv i),(6,sv t)] [(3,.cells 25 [.val (.slice w.a w.len w.cap)]),(4,.cells 25 [.val (.slice none 0 0)])] m h}),
   (4,{A:=Sl×MH×PH,frz:=true,st:=λ⟨w,m,h⟩=>bK 118 120 [(3,.at (.ptr 3 0)),(4,.at (.ptr 4 0))] [(3,.cells 25 [.val (.slice w.a w.len w.cap)]),(4,.cells 25 [.val (.slice none 0 0)])] m h}),
   (9,{A:=Sl×MH×PH,frz:=true,st:=λ⟨w,m,h⟩=>bK 118 120 [(3,.at (.ptr 3 0)),(4,.at (.ptr 4 0))] [(3,.cells 25 [.val (.slice w.a w.len w.cap)]),(4,.cells 25 [.val (.slice none 0 0)])] m h}),
   (21,{A:=Sl×MH×PH,frz:=true,st:=λ⟨w,m,h⟩=>bK 118 120 [(3,.at (.ptr 3 0)),(4,.at (.ptr 4 0))] [(3,.cells 25 [.val (.slice w.a w.len w.cap)]),(4,.cells 25 [.val (.slice none 0 0)])] m h})] [] [0,1023,1053,1094] [] false
def av(cb:Nat)(m:MH)(h:PH)(K:dk):Prop:=
  fS cb 5 m h (λk c=>aR (oA k) 3 (K (pN (IY (oA k))) c h) (F7 cb (oA k) c h (λv d=>K (fT v) d h)))
def aw(cb:Nat)(n:Int)(m:MH)(h:PH)(K:dk):Prop:=
  ∃(I:Nat×dn×MH->Prop)(f:Nat×dn×MH->Nat),(∃(x:Nat×dn×MH),aA (I x) (dN cb) (aA (aU n x.1) (eL 14) (bG (kN 27 3 (cD 27 3 (j6 x.2.1))) (m=x.2.2) (h=h))))/\∀(x:Nat×dn×MH),I x->eR (↑x.1:Int) 0 (∃(c:Nat),aA (iY (bY cb) (bY c)) (aI x.2.2 h c) (∀(v:VV)(e:MH),aT (nL v.kind) (nL v.int) (aT (aL x.2.2 e c) (aI e h c) (aA (gS (jX (j6 x.2.1) 1*32)) (dH (j6 x.2.1)) (∃(d:Nat×dn×MH),aA (I d) (f d<f x) (aA (dN cb) (aU (iJ ((↑x.1:Int)-1)) d.1) (aA (eL 14) (cD 27 3 (dY (j6 x.2.1) v.enc)=cD 27 3 (j6 d.2.1)) (aA (e=d.2.2) (h=h) True)))))))) (bU h 3 (j6 x.2.1) (λs g=>K (fD s) x.2.2 g))
abbrev ID(a:(Sl×MH×PH->Prop)->Prop)(b:dk):Prop:=∃(x:Sl×MH×PH->Prop),a x/\∀(c:Sl×MH×PH),x c->b (pN (aM c.1)) (iO c) (gJ c)
abbrev AB(a:MH->Prop)(b:Nat->Nat->Option Value)(c:Sl×MH×PH->Prop)(d:(Sl×MH×PH)->Prop):Prop:=∀(x:MH),aT (a x) (vO x b) (∃(e:Sl×MH×PH),aA (c e) cA (aA eV (d e) (aA oY (Av x b (iO e) (gJ e)) True)))
abbrev z8(a:dz)(b:Sl×MH×PH):Prop:=oQ 25 a=oQ 25 (lY b.1)
abbrev mL(a b:Sl×MH×PH):Prop:=z8 (lY a.1) b
abbrev IX(a:Nat×Sl×Sl×MH×PH)(b:Int)(c:Nat->Nat->Prop):Prop:=bT (λx d=>aA (bX (kG a).a x d) (0<=b) (b<aH (kG a)/\c x d))
noncomputable abbrev Gq(a:Nat×Sl×Sl×MH×PH):Int:=iJ (aH (kG a)-1)
attribute [push_cast] ID AB z8 mL IX Gq
def Vp(cb:Nat)(sl:Sl)(m:MH)(h:PH)(K:dk):Prop:=
  xO (λs S=>aA (DZ (lV sl)=DZ (lV s)) (Leaves h s S) (aA (nV S.length) (wF S (λl=>wA l 1000000/\sQ l (λr=>Jc r))) (∀(w:Sl)(t:dq)(u:List dq)(M:MH),aT (Pb m M w t u S) (Kp m M) (∃(I:Sl×MH×PH->Prop),dJ (aH w) 0 (ID (λI1=>∃(x:List dj),aA (cM M (bD w) 53 1 x) (iS x) (dH x/\∀(F:Sl),AB (λJ=>bV M J (bD w) F 53 1 (dY x iA)) h I1 (λd=>z8 (lY F) d))) K) (lT cb 6 M h (λc r=>∀(J:MH),aT (aL M J c) (aI J h c) (branch r (ID (λI1=>∃(x:List dj),aA (cM J (bD w) 53 1 x) (iS x) (dH x/\∀(F:Sl),AB (λO=>bV J O (bD w) F 53 1 (dY x iA)) h I1 (λd=>z8 (lY F) d))) K) (∃(x:Sl×MH×PH),
 aA (I x) (dN cb) (aA cA eV (aA (z8 (lY w) x) oY (aA (gH J x) (h=gJ x) True)))))))/\∀(x:Sl×MH×PH),I x->fS cb (aH x.1) (iO x) (gJ x) (λk J=>cK x.1.a k x.1 (λb o y=>aK J (gJ x) b (cF o k 1) (aM y)/\∃(I1:Nat×Sl×Sl×MH×PH->Prop),dJ (aH y) 0 (ID (λI2=>fS cb 4 J (gJ x) (λe O=>PY (λc n=>aA (bA (cQp cb 0) e=bA (cQp c 0) n) (aI O (gJ x) c) (aA (cC n) (n<=1000) (∀(l:dn)(F:Sl),gU (λz T=>dD (gJ x) T (bI T F l) (aT (∀(v:VV),List.Mem v l->nL v.kind/\nL v.int) (rY l) (aT (aL O z c) (aI z T c) (bT (λg j=>aA (bX x.1.a g j) (0<=k) (k<aH x.1/\bU T 1 (iF (aM F)) (λU h2=>gE (λC E=>aA (sK z g (fC C E 0)) (fE
 (cF j k 1) C) (AB (λf=>bL z f g (nR C (cF j k 1) (aM U)) E) h2 I2 (λd=>mL x d))))))))))))))) K) (∃(d:Nat×Sl×Sl×MH×PH),aA (I1 d) (dN cb) (aA cA eV (aA (aU k d.1) (bF y (kG d)) (aA (mL x (qX d)) oY (bE (gH J (qX d)) (gJ x) (fJ d))))))/\∀(d:Nat×Sl×Sl×MH×PH),I1 d->fS cb (aH (kG d)) (iO (qX d)) (fJ d) (λe O=>ID (λI2=>fS cb 5 O (fJ d) (λV z=>cH (V==0) (cK (kG d).a e (kG d) (λg j A=>aA (aK z (fJ d) g (cF j e 1) (aM A)) (aK z (fJ d) g (cF j e 1) (aM A)) (∃(c:Nat),aA (iY (bY cb) (bY c)) (aI z (fJ d) c) (∀(v:VV)(f:MH),aT (nL v.kind) (nL v.int) (aT (aL z f c) (aI f (fJ
 d) c) (u9 (aK f (fJ d) g (cF j e 1) (aM A)) (aK f (fJ d) g (cF j e 1) (aM A)) (λD=>aA (cM f (bD A) 27 3 D) (gS (jX D 1*32)) (dH D/\fX (λF B=>bV f B (bD A) F 27 3 (dY D v.enc)->IX d e (λG H=>gE (λC E=>aA (sK B G (fC C E 0)) (fE (cF H e 1) C) (AB (λR=>bL B R G (nR C (cF H e 1) (aM F)) E) (fJ d) I2 (λX=>mL (qX d) X))))))))))))) (V==1) (cK (kG d).a e (kG d) (λg j A=>aK z (fJ d) g (cF j e 1) (aM A)/\cK (kG d).a e (kG d) (λG H L=>aA (aK z (fJ d) G (cF H e 1) (aM L)) (aK z (fJ d) g (cF j e 1) (aM A)) (aK z (fJ d) G (cF H e 1) (aM L)/\fS cb (aH L) z (fJ d) (fun
 W f=>aA (aK f (fJ d) g (cF j e 1) (aM A)) (aK f (fJ d) G (cF H e 1) (aM L)) (aA (aK f (fJ d) g (cF j e 1) (aM A)) (aK f (fJ d) G (cF H e 1) (aM L)) (∃(c:Nat),aA (iY (bY cb) (bY c)) (aI f (fJ d) c) (∀(v:VV)(B:MH),aT (nL v.kind) (nL v.int) (aT (aL f B c) (aI B (fJ d) c) (aA (aK B (fJ d) g (cF j e 1) (aM A)) (aK B (fJ d) G (cF H e 1) (aM L)) (bT (λP Q=>aA (bX A.a P Q) (0<=W) (W<aH A/\gE (λC E=>aA (sK B P (fC C E 0)) (cF Q W 3+3<=C.size) (AB (λR=>bL B R P (nR C (cF Q W 3) v.enc) E) (fJ d) I2 (λD=>mL (qX d) D)))))))))))))))) (cH (V==2) (cK (kG d).a e (kG d) (λg j A=>aK z (fJ
 d) g (cF j e 1) (aM A)/\pL (λF r=>aA (p9 A F) (kS z (fJ d) F 3 (j6 r)) (Jc r/\fX (λU f=>bV z f lH U 27 3 (j6 r)->u9 (aK f (fJ d) g (cF j e 1) (aM A)) (aK f (fJ d) g (cF j e 1) (aM A)) (λD=>aA (cM f (bD (kG d)) 94 1 D) (iS D) (dH D/\fX (λY B=>bV f B (bD (kG d)) Y 94 1 (dY D (aM U))->aK B (fJ d) g (cF j e 1) (aM A)/\bT (λG H=>aA (bX (qX d).1.a G H) (0<=(↑d.1:Int)) ((↑d.1:Int)<aH (qX d).1/\gE (λc E=>aA (sK B G (fC c E 0)) (fE (bC H d.1 1) c) (AB (λR=>bL B R G (nR c (bC H d.1 1) (aM Y)) E) (fJ d) I2 (λX=>mL (qX d) X))))))))))))) (V==3) (cK (kG d).a
 (Gq d) (kG d) (λg j A=>aK z (fJ d) g (cF j (Gq d) 1) (aM A)/\cK (kG d).a 0 (kG d) (λG H L=>aK z (fJ d) G (cZ H) (aM L)/\IX d 0 (λP Q=>gE (λc E=>aA (sK z P (fC c E 0)) (fE (cZ Q) c) (∀(f:MH),bL z f P (nR c (cZ Q) (aM A)) E->IX d (Gq d) (λZ o4=>gE (λC E1=>aA (sK f Z (fC C E1 0)) (fE (cF o4 (Gq d) 1) C) (AB (λB=>bL f B Z (nR C (cF o4 (Gq d) 1) (aM L)) E1) (fJ d) I2 (λD=>mL (qX d) D)))))))))) (IX d e (λg j=>gE (λc E=>aA (sK z g (fC c E 0)) (fE (cF j e 1) c) (AB (λf=>bL z f g (nR c (cF j e 1) iA) E) (fJ d) I2 (λD=>mL (qX d) D)))))))) K)))))))
theorem ax:di 54 bfQ:=by
 refine gO func54 ?_;rintro f m h K ⟨cb,rfl,g,c⟩;refine⟨dG [(12,C2),(95,Lb)] [] [] [] false,rfl,aD D9 (aD CS aF),av cb m h K,bu,?_⟩;dsimp only[av,push_cast];refine⟨cb,5,rfl,g,λk D E F d e=>?_⟩;have j:IntKind.i64.wrap (1+k)=1+k:=dR aC aC;rw[j];refine aE (λn=>c ⟨_,0,⟨⟨[]⟩⟩⟩ _ (kO (by show-8000000<=1+k;omega) (by show 1+k<=8000000;omega)) xE d e) (λo=>⟨cb,_,rfl,e,λv u y z A B=>?_⟩);have C:=(z (by unfold KOk;omega)).2;exact c v u (by rw[C];exact kO aC aC) y.int_ (d.trans A) B
theorem bo:di 53 bdX:=by
 refine gO func53 ?_;rintro g m h K ⟨cb,n,rfl,j,L,M,y⟩;refine⟨f53_ctx cb h,rfl,aD ax aF,aw cb n m h K,bu,?_⟩;dsimp only[aw,push_cast];refine⟨λx=>x.1+x.2.1.length=n.toNat/\(∀v∈x.2.1,nL v.kind/\nL v.int)/\aL m x.2.2 cb/\aI x.2.2 h cb,λx=>x.1,⟨(n.toNat,[],m),⟨bx,bx,.refl _ _,j⟩,by rw[show n=(n.toNat:Int)by omega];exact MT⟩,?_⟩;rintro⟨i,l,z⟩ ⟨A,f,o,c⟩;dsimp only at A f o c⊢
 refine aE (λB=>⟨cb,rfl,c,λv C D E F G=>?_⟩) (λ_ s H d rs=>y l s z H d ⟨⟨l,rs,rfl,λi x e=>⟨x,e,rfl⟩⟩,aC⟩ f aC o (c.mono d))
 have I:IntKind.i64.wrap ((i:Int)-1)=((i-1:Nat):Int):=by
  rw[show(i:Int)-1=((i-1:Nat):Int)by omega];exact dR aC aC
 rw[I];refine⟨cd,cd,(i-1,l++[v],C),⟨ce,λu J=>?_,o.trans F,G⟩,ck,by rw[cv];exact MT⟩;rcases mem_append.1 J with h|h
 .exact f u h
 .rw[mem_singleton.1 h];exact⟨D,E⟩
theorem xH.symm{s t:Sl}(h:xH s t):xH t s:=λb i j e c=>h b j i c e
theorem N8{g:List dq}(h:g.flatten.Pairwise xH){j n o:Nat}{us y:dq}{u u':Sl}(z:g[i]? =some us)(A:us[j]? =some u)(B:g[n]? =some y)(C:y[o]? =some u')(I:i≠n\/j≠o):xH u u':=by
 rw[pairwise_flatten]at h;obtain⟨J,G⟩:=h;have c:=List.getElem?_eq_some_iff.1 z;have d:=List.getElem?_eq_some_iff.1 B;have e:=List.getElem?_eq_some_iff.1 A;have f:=List.getElem?_eq_some_iff.1 C;rcases Nat.lt_trichotomy i n with D|E|F
 .have:=(pairwise_iff_getElem.1 G) i n c.1 d.1 D;rw[c.2,d.2]at this;exact this u (cr A) u' (cr C)
 .subst E;rw[z]at B;cases B;have H:=pairwise_iff_getElem.1 (J us (cr z));rcases Nat.lt_trichotomy j o with L|O|M
  .have:=H j o e.1 f.1 L;rw[e.2,f.2]at this;exact this
  .omega
  .have:=H o j f.1 e.1 M;rw[e.2,f.2]at this;exact this.symm
 .have:=(pairwise_iff_getElem.1 G) n i d.1 c.1 F;rw[c.2,d.2]at this;exact(this u' (cr C) u (cr A)).symm
theorem dK.putG{m0 n:MH}{w:Sl}{E:TypeId}{t:Nat}(x:dK m0 n w E sz xs)(g:t<xs.length):∃b,w.a=some ⟨b,0,none⟩/\t<w.len/\(∃c,n b=some (.cells c E (0,0)))/\∃(cs:Array Value)(F:TypeId),sK n b (.cells cs F (0,0))/\0+t*sz+sz<=cs.size/\∀e m',cT sz (xs.set t e)->e.length=sz->gI n m' b (.cells ⟨splice cs.toList (0+t*sz) e⟩ F (0,0))->dK m0 m' w E sz (xs.set t e):=by
 rcases x.row.ex with⟨rfl,e⟩|⟨b,d,c,rfl,G,u,y,z,A⟩
 .rw[e]at g;simp at g
 .have B:c.toList.length=d*sz:=by rw[Array.length_toList];exact z
  have H:t*sz+sz<=d*sz:=by
   have:=Nat.mul_le_mul_right sz (show t+1<=d by omega);rw[Nat.succ_mul]at this;exact this
  have f:∀e∈xs,e.length=sz:=x.row.rows.len;refine⟨b,rfl,g,⟨c,G⟩,c,E,⟨G⟩,aC,λe m' C o I=>⟨⟨C,.inr ⟨b,d,⟨splice c.toList (0+t*sz) e⟩,bx,I.at_,ce,y,?_,?_⟩⟩,x.fresh⟩⟩
  .show(splice c.toList (0+t*sz) e).length=d*sz;rw[yB _ _ _ (by rw[o];omega)];exact B
  .show(splice c.toList (0+t*sz) e).take _=_;have J:xs.length*sz<=d*sz:=Nat.mul_le_mul_right sz u
   have L:t*sz+sz<=xs.length*sz:=by
    have:=Nat.mul_le_mul_right sz (show t+1<=xs.length by omega);rw[Nat.succ_mul]at this;exact this
   rw[length_set,EO _ _ _ _ (by rw[o];omega) aC];have M:xs[t]? =some xs[t]:=cq g;have j:=Go.Vc.flatten_set (off:=0) (l:=e) f M (by rw[o,f _ (getElem_mem g)];omega)
   have D:splice xs[t] 0 e=e:=by
    unfold splice;simp[o,f _ (getElem_mem g)]
   rw[Nat.add_zero,D]at j;rw[A,Nat.zero_add];exact j
def Tg(m0 m:MH)(h:PH)(u:Sl)(r:dn):Prop:=dK m0 m u 27 3 (r.map VV.enc)\/bI h u r
def Em(m0 m:MH)(h:PH)(t:Sl)(l:dl):Prop:=∃us:dq,(dK m0 m t 94 1 (us.map eS)\/bN h t 1 (us.map eS))/\us.length=l.length/\∀(j:Nat) u r,us[j]? =some u->l[j]? =some r->Tg m0 m h u r
def L6(m0 m:MH)(h:PH)(w:Sl)(st:List dl):Prop:=∃ts:dq,dK m0 m w 53 1 (ts.map eS)/\ts.length=st.length/\∀(i:Nat) t l,ts[i]? =some t->st[i]? =some l->Em m0 m h t l
section
variable{m0 m m':MH}{h h':PH}{w t u:Sl}{r:dn}{l:dl}{st:List dl}{i:Nat}
theorem Tg.ice(x:Tg m0 m h u r)(d:vO m h)(c:r.length<=2000000):bI (lB m0 m h) u r:=by
 rcases x with x|x
 .exact⟨⟨r,x.ice,rfl,λi v e=>⟨v,e,rfl⟩⟩,aC⟩
 .exact bI.mono x (CC d)
theorem Em.ice(x:Em m0 m h t l)(d:vO m h)(z:l.length<=2000000)(f:∀r∈l,r.length<=2000000):Rows (lB m0 m h) t l:=by
 obtain⟨us,g,n,o⟩:=x;refine⟨⟨us,g.elim (λx=>x.ice) (λx=>x.mono (CC d)),n.symm,λj r c=>?_⟩,aC⟩;have y:=(cn c);have e:us[j]? =some us[j]:=cq aC;exact⟨us[j],e,(o j _ r e c).ice d (f r (cr c))⟩
theorem L6.ice(x:L6 m0 m h w st)(d:vO m h)(z:st.length<=2000000)(f:∀l∈st,l.length<=2000000/\∀r∈l,r.length<=2000000):Leaves (lB m0 m h) w st:=by
 obtain⟨ts,g,n,o⟩:=x;refine⟨⟨ts,g.ice,n.symm,λj l c=>?_⟩,aC⟩;have y:=(cn c);have e:ts[j]? =some ts[j]:=cq aC;exact⟨ts[j],e,(o j _ l e c).ice d (f l (cr c)).1 (f l (cr c)).2⟩
theorem JK.any{us:dq}(x:JK m0 m t us l):Em m0 m h t l:=⟨us,.inl x.row,x.len,λj u r c d=>.inl (x.at_ j u r c d)⟩
theorem Em.nil(m0 m:MH)(h:PH):Em m0 m h cJ []:=⟨[],.inl (dK.nil m0 m 94 1),rfl,λj u r e=>by simp at e⟩
theorem L6.set{ts:dq}(n:dK m0 m' w 53 1 ((ts.set i t).map eS))(c:ts.length=st.length)(y:i<st.length)(hx:∀(k:Nat) d e,k≠i->ts[k]? =some d->st[k]? =some e->Em m0 m' h d e)(o:Em m0 m' h t l):L6 m0 m' h w (st.set i l):=by
 refine⟨ts.set i t,n,by simp[c],λk d e f g=>?_⟩;by_cases j:k=i
 .subst j;rw[getElem?_set_self aC]at f g;cases f;cases g;exact o
 .rw[getElem?_set_ne (Ne.symm j)]at f g;exact hx k d e j f g
end
theorem dK.updA{m0:MH}{s t:Sl}{E:TypeId}{o:Obj}(r:dK m0 m s E sz xs)(d:xH s t)(f:t.a=some ⟨b,0,none⟩)(g:gI m m' b o):dK m0 m' s E sz xs:=
 ⟨cM.keep r.row λc i e=>g.other c λj=>d c i 0 e (by rw[f,j]),r.fresh⟩
theorem Bv{m0:MH}{o:Obj}(k:Kept m0 m cb)(d:m0 b=none)(f:gI m m' b o):Kept m0 m' cb:=λc g e ne=>by
 rw[f.other c λj=>by rw[j,d]at e;cases e];exact k c g e ne
theorem Bz{m0:MH}{o:Obj}(c:aI m h cb)(d:m0 cb≠none)(f:m0 b=none)(g:gI m m' b o):aI m' h cb:=c.keep (g.other cb λe=>d (by rw[e];exact f)) (.refl _)
theorem biJ{st:List dl}{l:dl}(d:∀n,(∀l∈st,l.length<=n)->l.length<=n+1):∀n,(∀l∈st,l.length<=n)->∀l'∈st.set i l,l'.length<=n+1:=λn c l' h=>by
 rcases mem_or_eq_of_mem_set h with h|rfl
 .have:=c l' h;omega
 .exact d n c
theorem Hl{ts:dq}(h:ts.Pairwise xH){k:Nat}{t e:Sl}(j:ts[i]? =some t)(n:ts[k]? =some e)(o:k≠i):xH e t:=by
 have c:=List.getElem?_eq_some_iff.1 j;have d:=List.getElem?_eq_some_iff.1 n;have f:=pairwise_iff_getElem.1 h;rcases Nat.lt_or_ge k i with g|g
 .have:=f k i d.1 c.1 g;rw[c.2,d.2]at this;exact this
 .have:=f i k c.1 d.1 aC;rw[c.2,d.2]at this;exact this.symm
theorem Pb.rowSet{m0 B g:MH}{w T u':Sl}{ts us:dq}{c:List dq}{st:List dl}{l:dl}{r':dn}{j:Nat}(x:Pb m0 B w ts c st)(A:ts[i]? =some T)(E:c[i]? =some us)(F:st[i]? =some l)(O:dK m0 g w 53 1 (ts.map eS))(P:dK m0 g T 94 1 ((us.set j u').map eS))(Q:Tg m0 g h u' r')
 (R:∀n xs,xH n T->dK m0 B n 94 1 xs->dK m0 g n 94 1 xs)(G:∀(k d:Nat) o C xs,c[k]? =some o->o[d]? =some C->(k≠i\/d≠j)->dK m0 B C 27 3 xs->dK m0 g C 27 3 xs):L6 m0 g h w (st.set i (l.set j r')):=by
 have S:=(cn F)
 have self:ts.set i T=ts:=by
  refine ext_getElem? λk=>?_;by_cases z:k=i
  .subst z;rw[getElem?_set_self (cn A),A]
  .rw[getElem?_set_ne (Ne.symm z)]
 refine L6.set (ts:=ts) (t:=T) (by rw[self];exact O) x.len S (λk n U z H I=>?_) ?_
 .have V:=x.ulen;have W:=(cn I);have J:c[k]? =some c[k]:=cq aC;have y:=x.at_ k n _ U H J I;exact⟨_,.inl (R n _ (Hl x.apT A H z) y.row),y.len,λd u r e f=>.inl (G k d _ u _ J e (.inl z) (y.at_ d u r e f))⟩
 .have y:=x.at_ i T us l A E F;refine⟨_,.inl P,by simp[y.len],λd u r e f=>?_⟩;by_cases D:d=j
  .subst D;have L:=(cn e);have M:=(cn f);rw[length_set]at L M;rw[getElem?_set_self L]at e;rw[getElem?_set_self M]at f;cases e;cases f;exact Q
  .rw[getElem?_set_ne (Ne.symm D)]at e f;exact .inl (G i d us u _ E e (.inr D) (y.at_ d u r e f))
theorem Bg{us:dq}{j:Nat}{u:Sl}:cT 1 ((us.map eS).set j (eS u)):=by
 rw[<-map_set];exact qF _
theorem dK.rdk{m0:MH}{w T:Sl}{E:TypeId}{ts:dq}(r:dK m0 m w E 1 (ts.map eS))(e:ts[i]? =some T)(d:w.a=some ⟨b,0,none⟩):aK m h b (0+(i:Int).toNat*1) [fF T]:=by
 obtain⟨f,c,rd⟩:=cM.rd (h:=h) (i:=i) (e:=eS T) r.row (by rw[getElem?_map,e];rfl);rw[d]at c;simp only[cw,Addr.mk.injEq]at c;rw[Nat.zero_add];show aK m h b (i*1) (eS T);rw[c.1];exact rd
theorem dK.sget{m0:MH}{w T:Sl}{E:TypeId}{ts:dq}(r:dK m0 m w E 1 (ts.map eS))(e:ts[i]? =some T):∃b,w.a=some ⟨b,0,none⟩/\(i:Int)<(w.len:Int):=by
 obtain⟨c,d,_⟩:=cM.rd (h:=λ_ _=>none) (i:=i) (e:=eS T) r.row (by rw[getElem?_map,e];rfl);have f:=cM.slen r.row;have g:=(cn e);rw[length_map]at f;exact⟨c,d,aC⟩
theorem bKZ{m0:MH}{t f u:Sl}{us:dq}{n:Sl}{j:Nat}(r:dK m0 m t 94 1 (us.map eS))(g:bV m m' t f 94 1 (us.map eS++[[fF n]]))(e:us[j]? =some u)(o:t.a=some ⟨b,0,none⟩):aK m' h b (0+(j:Int).toNat*1) [fF u]:=by
 rcases g.old with c|c
 .have d:dK (λ_=>none) m' f 94 1 ((us++[n]).map eS):=⟨by rw[cv];exact g.row,λ_ _ _=>rfl⟩
  exact d.rdk (by rw[getElem?_append_left (cn e)];exact e) (by rw[c];exact o)
 .have d:dK m0 m' t 94 1 (us.map eS):=⟨r.row.keep λz i A=>by
   obtain⟨B,y⟩:=cM.blk r.row A;rw[y,c z _ y],r.fresh⟩
  exact d.rdk e o
theorem Pb.rowPut{m0 B n:MH}{w T:Sl}{ts us:dq}{g:List dq}{st:List dl}{l:dl}{j:Nat}(x:Pb m0 B w ts g st)(G:ts[i]? =some T)(H:g[i]? =some us)(I:st[i]? =some l)(M:j<us.length)
 (O:dK m0 n w 53 1 (ts.map eS))(J:∀y xs,dK m0 B y 94 1 xs->dK m0 n y 94 1 xs)(P:∀(k z:Nat) e o xs,g[k]? =some e->e[z]? =some o->(k≠i\/z≠j)->dK m0 B o 27 3 xs->dK m0 n o 27 3 xs):
 ∃b,T.a=some ⟨b,0,none⟩/\j<T.len/\m0 b=none/\∃(cs:Array Value)(F:TypeId),sK n b (.cells cs F (0,0))/\0+j*1<cs.size/\∀(u':Sl)(r':dn)(A:MH)(h:PH),(dK m0 n u' 27 3 (r'.map VV.enc)\/bI h u' r')->gI n A b (.cells ⟨splice cs.toList (0+j*1) [fF u']⟩ F (0,0))->L6 m0 A h w (st.set i (l.set j r')):=by
 have L:=J T _ (x.at_ i T us l G H I).row;obtain⟨b,C,D,⟨Q,c⟩,cs,F,E,R,kP⟩:=L.putG (t:=j) (cm M);refine⟨b,C,D,L.fresh b 0 C,cs,F,E,aC,λu' r' A h S d=>x.rowSet (u':=u') (j:=j) G H I (O.upd c d bz) ?_ ?_ (λy xs U f=>(J y xs f).updA U C d) (λk z e o xs V W X f=>(P k z e o xs V W X f).upd c d bz)⟩
 .rw[map_set];exact kP [fF u'] A Bg rfl d
 .exact S.elim (λf=>.inl (f.upd c d bz)) .inr
theorem PF{α:Type}{l:List α}{a:α}(e:l[i]? =some a):l.set i a=l:=by
 refine ext_getElem? λk=>?_;by_cases c:k=i
 .subst c;rw[getElem?_set_self (cn e),e]
 .rw[getElem?_set_ne (Ne.symm c)]
theorem aqZ:di 15 bEQ:=by
 refine gO func15 ?_;rintro i9 m h K ⟨cb,sl,st,rfl,hc,hl,hv,n1,n2,hK⟩;refine⟨bwZ cb,rfl,aD D9 (aD sV (aD bm (aD bo (aD ax (aD au aF))))),Vp cb sl m h K,by kernel_rfl,?_⟩;dsimp only[Vp,push_cast];refine⟨sl,st,rfl,hl,aC,λl hm=>⟨by have:=(n2 l hm).1;omega,λr U=>by have:=((n2 l hm).2 r U).2;omega⟩,λw ts a0 m1 hw kp=>?_⟩;obtain⟨j1,d5⟩:=hc.blk;have L:m cb≠none:=by rw[d5];simp
 have c1:aI m1 h cb:=hc.keep (by rw[d5];exact kp cb _ d5) (.refl _);have k1:Kept m m1 cb:=λb o e _=>kp b o e;have d':=hw.len;have j2:=hw.ulen;have g':w.len=st.length:=by have:=cM.slen hw.row.row;simp at this;omega
 obtain⟨Q,hQ⟩:∃Q:Sl×MH×PH->Prop,Q=λz=>∃st',Leaves z.2.2 z.1 st'/\V7 st'/\st'.length<=st.length+1/\(∀n,(∀l∈st,l.length<=n)->∀l∈st',l.length<=n+1)/\(∀l∈st',∀r∈l,r.length<=1000000)/\aL m z.2.1 cb/\aI z.2.1 z.2.2 cb/\PH.le h z.2.2:=⟨_,rfl⟩
 have done:∀z,Q z->K (VT z.1) z.2.1 z.2.2:=λz hz=>by
  rw[hQ]at hz;obtain⟨st',h1,h2,h3,h4,h8,h5,h6,h7⟩:=hz;exact hK z.1 st' z.2.1 z.2.2 h7 h1 h2 h3 h4 h8 h5 h6
 have fin:∀{R:MH}{hx:PH}{u:Sl}{st':List dl},L6 m R hx u st'->V7 st'->st'.length<=st.length+1->(∀n,(∀l∈st,l.length<=n)->∀l∈st',l.length<=n+1)->(∀l∈st',∀r∈l,r.length<=1000000)->Kept m R cb->aI R hx cb->PH.le h hx->vO R hx->Q (u,iQ m R,lB m R hx):=λx sv q1 q2 q3 k c le d=>by
  rw[hQ];exact⟨_,x.ice d aC (λl hm=>⟨by have:=q2 900000 (λl hl=>(n2 l hl).1) l hm;omega,λr U=>by have:=q3 l hm r U;omega⟩),sv,q1,q2,q3,keep_other k,Kk c L d,le.trans (CC d)⟩
 have d2:∀{R mz:MH}{s':Sl},Pb m R w ts a0 st->Kept m R cb->aI R h cb->bV R mz w s' 53 1 (ts.map eS++[[sJ]])->vO mz h->Q (s',iQ m mz,lB m mz h):=λx k c g d=>by
  refine fin (st':=st++[[]]) ⟨ts++[cJ],by rw[map_append];exact x.row.up g (λb o e=>.inr ((k.held c) b o e)),by simp[d'],λi t l P W=>?_⟩ (λl hm=>?_) (by simp) (λn hn l hm=>?_) (λl hm r U=>?_) (k.grown x.row g) (c.keep (bV.at_cb g x.row c (by decide)) (.refl _)) (.refl _) d
  .rcases Nat.lt_or_ge i ts.length with hi|hi
   .rw[getElem?_append_left hi]at P;rw[getElem?_append_left aC]at W;have e3:a0[i]? =some a0[i]:=getElem?_eq_getElem aC;exact((x.at_ i t _ l P e3 W).imp (m':=_) (λr=>r.off g (r.ne x.row (by decide))) (λ_ _ _ r=>r.off g (r.ne x.row (by decide)))).any
   .rw[getElem?_append_right hi]at P;rw[getElem?_append_right aC]at W;have M:i-ts.length=0:=by have:=(List.getElem?_eq_some_iff.1 P).1;simp at this;omega
    rw[M]at P;rw[show i-st.length=0 by omega]at W;simp only[getElem?_cons_zero,Option.some.injEq]at P W;subst P W;exact Em.nil _ _ _
  .rcases mem_append.1 hm with h|h
   .exact hv l h
   .rw[mem_singleton.1 h];intro r U;cases U
  .rcases mem_append.1 hm with h|h
   .have:=hn l h;omega
   .rw[mem_singleton.1 h];simp
  .rcases mem_append.1 hm with h|h
   .have:=((n2 l h).2 r U).2;omega
   .rw[mem_singleton.1 h]at U;cases U
 refine⟨λz=>w=z.1/\h=z.2.2/\Pb m z.2.1 w ts a0 st/\Kept m z.2.1 cb/\aI z.2.1 h cb/\0<st.length,aB (λ_=>?_) (λhe=>⟨cb,6,rfl,aC,aC,c1,λr m2 o2 c2=>?_⟩),?_⟩
 .exact⟨Q,⟨ts.map eS,hw.row.row,by rw[length_map];omega,by rw[length_map];omega,λs' m2 g d=>⟨(s',iQ m m2,lB m m2 h),d2 hw k1 c1 g d,FT⟩⟩,done⟩
 .have d3:0<st.length:=by rw[g']at he;simp at he;exact length_pos_iff.2 he
  have kf:∀{s:Sl}{E:TypeId}{sz:Nat}{xs:List dj},E≠83->dK m m1 s E sz xs->dK m m2 s E sz xs:=λhE r=>r.on o2 c1 hE;have b6:=hw.imp (m':=m2) (kf (by decide)) (λ_ _ _=>kf (by decide)) (λ_ _ _=>kf (by decide));refine aB (λ_=>?_) (λ_=>⟨(w,m2,h),⟨rfl,rfl,b6,k1.on o2,c2,d3⟩,MT⟩);exact⟨Q,⟨ts.map eS,b6.row.row,by rw[length_map];omega,by rw[length_map];omega,λs' m3 g d=>⟨(s',iQ m m3,lB m m3 h),d2 b6 (k1.on o2) c2 g d,FT⟩⟩,done⟩
 .rintro⟨_,m2,_⟩ ⟨rfl,rfl,b6,k2,c2,d3⟩;dsimp only at b6 k2 c2⊢
  have mv:∀{ma mb:MH}{hx:PH},aL ma mb cb->aI ma hx cb->Pb m ma w ts a0 st->Pb m mb w ts a0 st:=λo c x=>x.imp (λr=>r.on o c (by decide)) (λ_ _ _ r=>r.on o c (by decide)) (λ_ _ _ r=>r.on o c (by decide));refine⟨cb,_,rfl,c2,λk m3 k0 kn o3 c3=>?_⟩;obtain⟨i,rfl⟩:∃i:Nat,k=i:=⟨k.toNat,aC⟩
  have hi:i<st.length:=by omega
  have b9:=mv o3 c2 b6;have k3:=k2.on o3;obtain⟨T,P⟩:∃T,ts[i]? =some T:=⟨_,getElem?_eq_getElem aC⟩
  obtain⟨us,W⟩:∃us,a0[i]? =some us:=⟨_,getElem?_eq_getElem aC⟩
  obtain⟨l,e3⟩:∃l,st[i]? =some l:=⟨_,getElem?_eq_getElem hi⟩
  have a5:l∈st:=mem_of_getElem? e3;have f':=b9.at_ i T us l P W e3;have f0:us.length=l.length:=f'.len;have f1:T.len=l.length:=by have:=cM.slen f'.row.row;rw[length_map]at this;omega
  obtain⟨b,hb,g0⟩:=b9.row.sget P;have nl:=(n2 l a5).1
  have S:∀{R:MH}{hx:PH}{l':dl},L6 m R hx w (st.set i l')->(∀r∈l',r.length<=900001/\∀v∈r,nL v.kind/\nL v.int)->l'.length<=l.length+1->Kept m R cb->aI R hx cb->PH.le h hx->vO R hx->Q (w,iQ m R,lB m R hx):=λx q1 q2 k c le d=>by
   refine fin x (λl0 M=>?_) (by simp) (biJ λn hn=>by have:=hn l a5;omega) (λl0 M r U=>?_) k c le d
   .rcases mem_or_eq_of_mem_set M with h|rfl
    .exact hv l0 h
    .exactλr U=>(q1 r U).2
   .rcases mem_or_eq_of_mem_set M with h|rfl
    .have:=((n2 l0 h).2 r U).2;omega
    .have:=(q1 r U).1;omega
  have Y:∀r∈l,r.length<=900001/\∀v∈r,nL v.kind/\nL v.int:=λr U=>⟨by have:=((n2 l a5).2 r U).2;omega,hv l a5 r U⟩
  have a9:∀{j:Nat}{r':dn},(r'.length<=900001/\∀v∈r',nL v.kind/\nL v.int)->∀r∈l.set j r',r.length<=900001/\∀v∈r,nL v.kind/\nL v.int:=λU r h=>by
   rcases mem_or_eq_of_mem_set h with h|rfl
   .exact Y r h
   .exact U
  refine⟨b,0,hb,aC,g0,T,b9.row.rdk P hb,λz=>z=(i,T,w,m3,h)/\l≠[],aB (λhe=>?_) (λL=>⟨(i,T,w,m3,h),⟨rfl,λe=>?_⟩,MT⟩),?_⟩
  .refine⟨Q,⟨cb,4,rfl,c3,λn m4 n0 nn o4 c4=>⟨cb,n,rfl,c4,n0,aC,λr s m5 h5 g3 g4 g5 i1 o5 c5=>?_⟩⟩,done⟩;have I:=mv o5 c4 (mv o4 c3 b9);obtain⟨b',f2,i2,⟨d7,A⟩,cs,F,O,Z,kP⟩:=I.row.putG (t:=i) (by rw[length_map];omega);refine⟨b',0,f2,aC,aC,λs1 h6 d9 g8=>⟨cs,F,O,by show 0+i*1<cs.size;omega,λm6 u6 d6=>⟨(w,iQ m m6,lB m m6 h6),?_,FT⟩⟩⟩;have M:=I.row.fresh b' 0 f2;refine S (l':=[r]) (L6.set (ts:=ts) (t:=s1) (by rw[map_set];exact kP [fF s1] m6 Bg rfl u6) d' hi (λk0 t0 l0 hk g1 g2=>?_) ⟨[s],.inr g8,rfl,λj u r' V a2=>?_⟩) (λr' c'=>?_) (by simp) (Bv ((k3.on o4).on o5) M u6) (Bz (c5.mono d9) L M u6) (g3.trans d9) d6
   .have f3:=(List.getElem?_eq_some_iff.1 g2).1;have y:=I.at_ k0 t0 _ l0 g1 (getElem?_eq_getElem aC) g2;exact(y.imp (m':=m6) (λf=>f.upd A u6 (by decide)) (λ_ _ _ f=>f.upd A u6 (by decide))).any
   .have c0:j=0:=by have:=(List.getElem?_eq_some_iff.1 V).1;simp at this;omega
    subst c0;simp only[getElem?_cons_zero,Option.some.injEq]at V a2;subst V a2;exact .inr (bI.mono g4 d9)
   .rw[mem_singleton.1 c'];exact⟨aC,g5⟩
  .rw[f1,e]at L;simp at L
  .rintro _ ⟨rfl,g9⟩;dsimp only;have j3:0<l.length:=length_pos_iff.2 g9;refine⟨cb,_,rfl,c3,λk m4 j0 jn o4 c4=>⟨Q,?_,done⟩⟩;obtain⟨j,rfl⟩:∃j:Nat,k=j:=⟨k.toNat,aC⟩
   have hj:j<l.length:=by omega
   refine⟨cb,5,rfl,c4,λq m5 q0 qn o5 c5=>?_⟩;have I:=mv o5 c4 (mv o4 c3 b9);have k5:=(k3.on o4).on o5;have C:=I.at_ i T us l P W e3;obtain⟨u,J⟩:∃u,us[j]? =some u:=⟨_,getElem?_eq_getElem aC⟩
   obtain⟨r,e5⟩:∃r,l[j]? =some r:=⟨_,getElem?_eq_getElem hj⟩
   have d0:r∈l:=mem_of_getElem? e5;obtain⟨h9,nr⟩:=(n2 l a5).2 r d0;have f4:=C.at_ j u r J e5;have i3:u.len=r.length:=by have:=cM.slen f4.row;rw[length_map]at this;omega
   obtain⟨b2,a',b0⟩:=C.row.sget J;have rd:∀{R:MH}{hx:PH}{c8:dq}{u':Sl}{j':Nat},dK m R T 94 1 (c8.map eS)->c8[j']? =some u'->aK R hx b2 (0+(j':Int).toNat*1) [fF u']:=λf e=>f.rdk e a';refine aB (λ_=>?_) (λ_=>aB (λ_=>?_) (λ_=>aB (λ_=>?_) (λ_=>aB (λ_=>?_) (λ_=>?_))))
   .refine⟨b2,0,a',aC,b0,u,rd C.row J,rd C.row J,cb,rfl,c5,λv m6 v1 v2 o6 c6=>?_⟩;have D:=mv o6 c5 I;have B:=D.at_ i T us l P W e3;have b7:=B.at_ j u r J e5;have k6:=k5.on o6;refine⟨rd B.row J,rd B.row J,_,b7.row,by rw[length_map];omega,by rw[length_map];omega,λs' m7 g7=>?_⟩;have c7:aI m7 h cb:=c6.keep (bV.at_cb g7 b7 c6 (by decide)) (.refl _);obtain⟨b3,G,b5,M,cs,F,O,Z,kP⟩:=D.rowPut P W e3 (j:=j) aC (D.row.off g7 (D.row.ne b7 (by decide))) (λt0 xs f=>f.off g7 (f.ne b7 (by decide))) (λk j' c8 u0 xs V a2 a3 f=>f.off g7 (N8 D.apR V a2 W J a3));have f7:dK m m7 s' 27 3 ((r++[v]).map VV.enc):=by rw[map_append];exact b7.up g7 (λb o e=>.inr ((k6.held c6) b o e))
    exact⟨b3,0,G,aC,aC,cs,F,O,Z,λX H d8=>⟨(w,iQ m X,lB m X h),S (kP s' (r++[v]) X h (.inl f7) H) (a9 ⟨by simp;omega,λv' e0=>(mem_append.1 e0).elim (λh=>hv l a5 r d0 v' h) (λh=>by rw[mem_singleton.1 h];exact⟨v1,v2⟩)⟩) (by simp) (Bv (k6.grown b7 g7) M H) (Bz c7 L M H) (.refl _) d8,FT⟩⟩
   .refine⟨b2,0,a',aC,b0,u,rd C.row J,b2,0,a',aC,b0,u,rd C.row J,rd C.row J,rd C.row J,cb,_,rfl,c5,λp m6 p0 pn o6 c6=>?_⟩;obtain⟨p,rfl⟩:∃p':Nat,p=p':=⟨p.toNat,aC⟩
    have D:=mv o6 c5 I;have B:=(D.at_ i T us l P W e3).row;refine⟨rd B J,rd B J,rd B J,rd B J,cb,rfl,c6,λv m7 v1 v2 o7 c7=>?_⟩;have d1:=mv o7 c6 D;have b8:=d1.at_ i T us l P W e3;have f5:=b8.at_ j u r J e5;have k7:=(k5.on o6).on o7;refine⟨rd b8.row J,rd b8.row J,?_⟩;obtain⟨b3,G,b5,⟨d7,A⟩,cs,F,O,Z,kP⟩:=f5.putG (t:=p) (by rw[length_map];omega);have M:=f5.fresh b3 0 G;refine⟨b3,0,G,aC,aC,cs,F,O,Z,λX H d8=>⟨(w,iQ m X,lB m X h),S (d1.rowSet (u':=u) (j:=j) (r':=r.set p v) P W e3 (d1.row.upd A H (by decide)) (by rw[PF J];exact b8.row.upd A H (by decide)) (.inl ?_) (λt0 xs _ f=>f.upd A H (by decide)) (λk j' c8 u0 xs V a2 a3 f=>f.updA (N8 d1.apR V a2 W J a3) G H)) (a9 ⟨by simp;omega,λv' e0=>?_⟩) (by simp) (Bv k7 M H) (Bz c7 L M H) (.refl _) d8,FT⟩⟩
    .rw[map_set];exact kP (VV.enc v) X (by rw[<-map_set];exact Bf _) rfl H
    .rcases mem_or_eq_of_mem_set e0 with h|rfl
     .exact hv l a5 r d0 v' h
     .exact⟨v1,v2⟩
   .refine⟨b2,0,a',aC,b0,u,rd C.row J,u,r,rfl,(by cases r with
     |nil=>simp at h9
     |cons a r=>exact cM.src f4.row),aC,λs' m6 g6=>?_⟩
    have D:=I.imp (m':=m6) (λf=>f.nilg g6) (λ_ _ _ f=>f.nilg g6) (λ_ _ _ f=>f.nilg g6);have B:=D.at_ i T us l P W e3;have s6:=(dK.nil m m5 27 3).up g6 (λb o e=>.inr ((k5.held c5) b o e));have k6:=k5.grown (dK.nil m m5 27 3) g6;have c6:aI m6 h cb:=c5.keep (bV.at_cb g6 (dK.nil m m5 27 3) c5 (by decide)) (.refl _);refine⟨rd B.row J,rd B.row J,_,B.row.row,by rw[length_map];omega,by rw[length_map];omega,λt' m7 g7=>⟨bKZ B.row g7 J a',?_⟩⟩;have b8:dK m m7 t' 94 1 ((us++[s']).map eS):=by rw[map_append];exact B.row.up g7 (λb o e=>.inr ((k6.held c6) b o e))
    have k7:=k6.grown B.row g7;have c7:aI m7 h cb:=c6.keep (bV.at_cb g7 B.row c6 (by decide)) (.refl _);have d4:=D.row.off g7 (D.row.ne B.row (by decide));obtain⟨b3,G,b5,⟨d7,A⟩,cs,F,O,Z,kP⟩:=d4.putG (t:=i) (by rw[length_map];omega);have M:=d4.fresh b3 0 G;refine⟨b3,0,G,aC,aC,cs,F,O,by show 0+i*1<cs.size;omega,λX H d8=>⟨(w,iQ m X,lB m X h),S (l':=l++[r]) (L6.set (ts:=ts) (t:=t') (by rw[map_set];exact kP [fF t'] X Bg rfl H) d' hi (λk0 t0 l0 hk g1 g2=>?_) ⟨us++[s'],.inl (b8.upd A H (by decide)),by simp[f0],λj' u' r' V a2=>.inl ?_⟩) (λr' c'=>?_) (by simp) (Bv k7 M H) (Bz c7 L M H) (.refl _) d8,FT⟩⟩
    .have f3:=(List.getElem?_eq_some_iff.1 g2).1;have y:=D.at_ k0 t0 _ l0 g1 (getElem?_eq_getElem aC) g2;exact(y.imp (m':=X) (λf=>(f.off g7 (Hl D.apT P g1 hk)).upd A H (by decide)) (λ_ _ _ f=>(f.off g7 (f.ne B.row (by decide))).upd A H (by decide))).any
    .rcases Nat.lt_or_ge j' us.length with e6|e6
     .rw[getElem?_append_left e6]at V;rw[getElem?_append_left aC]at a2;have f:=B.at_ j' u' r' V a2;exact(f.off g7 (f.ne B.row (by decide))).upd A H (by decide)
     .rw[getElem?_append_right e6]at V;rw[getElem?_append_right aC]at a2;have z0:j'-us.length=0:=by have:=(List.getElem?_eq_some_iff.1 V).1;simp at this;omega
      rw[z0]at V;rw[show j'-l.length=0 by omega]at a2;simp only[getElem?_cons_zero,Option.some.injEq]at V a2;subst V a2;exact(s6.off g7 (s6.ne B.row (by decide))).upd A H (by decide)
    .rcases mem_append.1 c' with h|h
     .exact Y r' h
     .rw[mem_singleton.1 h];exact Y r d0
   .have i':IntKind.i64.wrap ((T.len:Int)-1)=((l.length-1:Nat):Int):=by
     rw[f1,show(l.length:Int)-1=((l.length-1:Nat):Int)by omega];exact dR aC aC
    rw[i'];obtain⟨uL,V⟩:∃u,us[l.length-1]? =some u:=⟨_,getElem?_eq_getElem aC⟩
    obtain⟨u0,a2⟩:∃u,us[0]? =some u:=⟨_,getElem?_eq_getElem aC⟩
    obtain⟨rL,a3⟩:∃r,l[l.length-1]? =some r:=⟨_,getElem?_eq_getElem aC⟩
    obtain⟨r0,a4⟩:∃r,l[0]? =some r:=⟨_,getElem?_eq_getElem aC⟩
    obtain⟨b3,G,b5,⟨d7,A⟩,cs,F,O,Z,kP⟩:=C.row.putG (t:=0) (by rw[length_map];omega);have M:=C.row.fresh b3 0 G;refine⟨b2,0,a',aC,aC,uL,rd C.row V,b2,0,a',aC,aC,u0,rd C.row a2,b3,0,G,aC,aC,cs,F,O,aC,λm6 u6=>?_⟩;have B:dK m m6 T 94 1 ((us.set 0 uL).map eS):=by rw[map_set];exact kP [fF uL] m6 Bg rfl u6
    obtain⟨b4,e7,i4,⟨i5,a6⟩,f6,F4,f8,i8,e8⟩:=B.putG (t:=l.length-1) (by rw[length_map,length_set];omega);have f9:=B.fresh b4 0 e7;refine⟨b4,0,e7,aC,aC,f6,F4,f8,by show 0+(l.length-1)*1<f6.size;omega,λX H d8=>⟨(w,iQ m X,lB m X h),S (l':=(l.set 0 rL).set (l.length-1) r0) (L6.set (ts:=ts) (t:=T) (by rw[PF P];exact(I.row.upd A u6 (by decide)).upd a6 H (by decide)) d' hi (λk0 t0 l0 hk g1 g2=>?_) ⟨(us.set 0 uL).set (l.length-1) u0,.inl ?_,by simp[f0],λj' u' r' c1 c2=>.inl ?_⟩) (λr' c'=>?_) (by simp) (Bv (Bv k5 M u6) f9 H) (Bz (Bz c5 L M u6) L f9 H) (.refl _) d8,FT⟩⟩
    .have f3:=(List.getElem?_eq_some_iff.1 g2).1;have y:=I.at_ k0 t0 _ l0 g1 (getElem?_eq_getElem aC) g2;have ap:=Hl I.apT P g1 hk;exact(y.imp (m':=X) (λf=>(f.updA ap G u6).updA ap e7 H) (λ_ _ _ f=>(f.upd A u6 (by decide)).upd a6 H (by decide))).any
    .rw[map_set];exact e8 [fF u0] X Bg rfl H
    .have b1:=(List.getElem?_eq_some_iff.1 c1).1;have i0:=(List.getElem?_eq_some_iff.1 c2).1;rw[length_set,length_set]at b1 i0;have c9:∀{j0:Nat},us[j0]? =some u'->l[j0]? =some r'->dK m X u' 27 3 (r'.map VV.enc):=λe e'=>((C.at_ _ u' r' e e').upd A u6 (by decide)).upd a6 H (by decide);by_cases e9:j'=l.length-1
     .rw[e9,getElem?_set_self (by rw[length_set];omega)]at c1;rw[e9,getElem?_set_self (by rw[length_set];omega)]at c2;cases c1;cases c2;exact c9 a2 a4
     .rw[getElem?_set_ne (Ne.symm e9)]at c1 c2;by_cases c0:j'=0
      .rw[c0,getElem?_set_self aC]at c1;rw[c0,getElem?_set_self aC]at c2;cases c1;cases c2;exact c9 V a3
      .rw[getElem?_set_ne (Ne.symm c0)]at c1 c2;exact c9 c1 c2
    .rcases mem_or_eq_of_mem_set c' with h|rfl
     .exact a9 (Y rL (mem_of_getElem? a3)) r' h
     .exact Y _ (mem_of_getElem? a4)
   .obtain⟨b3,G,b5,M,cs,F,O,Z,kP⟩:=I.rowPut P W e3 (j:=j) aC I.row (λt0 xs f=>f) (λk j' c8 u0 xs V a2 a3 f=>f);exact⟨b3,0,G,aC,aC,cs,F,O,Z,λm6 u6 d6=>⟨(w,iQ m m6,lB m m6 h),S (kP cJ [] m6 h (.inl (dK.nil _ _ _ _)) u6) (a9 ⟨by simp,λv hv=>by cases hv⟩) (by simp) (Bv k5 M u6) (Bz c5 L M u6) (.refl _) d6,FT⟩⟩
def beJ:Vc.Spec:=λc m h K=>c=[]/\jV m/\K (cB true) m h
def aHX(n:Int)(m:MH)(h:PH)(K:dk):Prop:=
  K (pN (uH 4 n)) m h
abbrev MD(a:oL)(b:Query)(c:List dl)(d:Prop):Prop:=aT ((fR a [] b).2=0) (mY a c=0) d
attribute [push_cast] MD
def Ot(m:MH)(h:PH)(K:dk):Prop:=
  bU h 2 (z6 (ByteArray.mk (Array.mk Mx)) 4::iF (z6 (ByteArray.mk (Array.mk (cQ 112 (cQ 114 (cQ 111 (cQ 106 (cQ 101 (cQ 99 (rV 116))))))))) 4)) (λs T=>∃(n:Int),rQ 1 n/\∃(G:Int),rQ 10 G/\∃(H:Int),rQ 2 H/\∃(I:Int),rQ 10 I/\∃(J:Int),rQ 3 J/\∃(L:Int),rQ 20 L/\bU T 3 (uH 4 n::iF (uH 4 G)) (λU V=>bU V 3 (uH 4 H::iF (uH 4 I)) (λW X=>bU X 3 (uH 4 J::iF (uH 4 L)) (λY Z=>bU Z 1 (aM U::aM W::iF (aM Y)) (λs4 h5=>bU h5 5 (iF (a8 (Value.string (ByteArray.mk (Array.mk (cQ 116 (cQ 97 (cQ 115 (cQ 107 (rV 115)))))))) (fF s) (a8 (fB 1) sJ iA))) (λs5 h6=>bU h6 1 (iF (aM s4)) (λs6 h7=>bU h7 1 (iF (cO 1))
 (λs7 h8=>bU h8 2 (iF (kR eH Cv)) (λM h9=>bU h9 21 (iF (uG (fB 1) eH)) (λs9 a=>wG (λv D=>xO (λO z=>jD (λw q=>aA (pN (kR eH (fF s5))::bJ (lV s6) (pN (Dj (fB 9) eH sJ sJ (fF s7) (fF M) (fB 1) (aM s9)))=cV v::bJ (lV O) (dE w)) (iP a D v) (aA (CE a O z) (bR a q w) (aA (jV m) (MD D q z (beX z q)) (jT (λd c=>dD a c (Rows c d (Ia D z q).1) (dJ (Ia D z q).2 0 (dJ (aH d) 2 (cK d.a 0 d (λb o y=>aK m c b (cZ o) (aM y)/\bT (λe f=>aA (bX y.a e f) ((0:Int)<=0) (0<aH y/\∃(g:VV),aA (aK m c e (cZ f) g.enc) (jB c b (cZ o) y) (bB c e (cZ f) g.enc/\yF 2 (λn6=>∃(r:Bool),iX (mK 27 g.enc (uH 4 n6) r)
 r (cK d.a 1 d (λE F j=>aK m c E (cE F) (aM j)/\bT (λA B=>aA (bX j.a A B) ((0:Int)<=0) (0<aH j/\∃(C:VV),aA (aK m c A (cZ B) C.enc) (jB c b (cZ o) y) (aA (bB c e (cZ f) g.enc) (jB c E (cE F) j) (bB c A (cZ B) C.enc/\∃(P:Int),rQ 3 P/\∃(Q:Bool),iX (mK 27 C.enc (uH 4 P) Q) Q (cK d.a 0 d (λb4 o4 R=>aK m c b4 (cZ o4) (aM R)/\cK d.a 1 d (λb5 o5 S=>aA (aK m c b5 (cE o5) (aM S)) (jB c b (cZ o) y) (aA (bB c e (cZ f) g.enc) (jB c E (cE F) j) (bB c A (cZ B) C.enc/\IE M R S c (λo6 a6 b6=>K (zU (iZ o6 a6 b6==1)) m c)))))) (aA (jB c b (cZ o) y) (bB c e (cZ f) g.enc) (aA (jB c E (cE F) j)
 (bB c A (cZ B) C.enc) (K aX m c))))))))) (aA (jB c b (cZ o) y) (bB c e (cZ f) g.enc) (aA (jB c b (cZ o) y) (bB c e (cZ f) g.enc) (K aX m c))))))))) (K aX m c)) (K aX m c)))))))))))))))))))
theorem aiJ:di 63 ZO:=by
 refine gO func63 ?_;rintro c m h K ⟨n,rfl,d⟩;refine⟨dG [] [] [] [] false,rfl,aF,aHX n m h K,bu,?_⟩;exact d
def CT(n:Int):VV:=⟨4,n,⟨#[]⟩⟩
def bS:oL:=⟨0,[⟨⟨⟨[116,97,115,107,115]⟩⟩,[⟨⟨⟨[105,100]⟩⟩,4⟩,⟨⟨⟨[112,114,111,106,101,99,116]⟩⟩,4⟩],1,[],[]⟩]⟩
def bSt:List dl:=[[[CT 1,CT 10],[CT 2,CT 10],[CT 3,CT 20]]]
def a2X:Query:=.mk 1 0 gT [] [] [] [] 0 []
def bQ:Query:=.mk 9 0 gT [] [] [1] [(0,true)] 1 [a2X]
theorem bDZ:fA bS=0:=axX bz (λt c=>by simp[bS]at c;subst c;exact⟨bx,rfl,rfl⟩) bz bz (by
 refine A0 ⟨⟨?_,?_,?_,?_,A0 ⟨⟨?_,?_,?_⟩,⟨?_,?_,?_⟩,trivial⟩⟩,trivial⟩
 all_goals first|rfl|(simp;done)|decide)
theorem Wx{k:dm}(h:bZ s ps q=(k,0))(c:vB k gr od li)(d:k.length<=12):bZ s ps (.mk 9 0 gT [] [] gr od li [q])=(k,0):=by
 rw[Kf bz h];unfold iE;rw[if_neg (by simp[arity,eT])];dsimp only;rw[if_neg bz,if_neg bz,if_neg bz,if_neg bz,if_neg bz,if_pos rfl,if_pos c,MV d]
theorem a2Z:bZ bS [] bQ=([4,4],0):=by
 have e:jS bS 0=[4,4]:=rfl
 have h:bZ bS [] a2X=([4,4],0):=by
  have:=NX (s:=bS) (ps:=[]) (t:=0) bz bz (by rw[e];decide);rw[e]at this;exact this
 exact Wx h ⟨A0 ⟨⟨bz,bx⟩,trivial⟩,A0 ⟨by show HQ _ _=true;decide,trivial⟩,bz,bz,bz⟩ bz
theorem bWQ:fR bS [] bQ=([4,4],0):=azQ bDZ (by rfl) a2Z
theorem bSQ:mY bS bSt=0:=by
 unfold mY;rw[if_neg (by simp[bDZ]),if_neg bz,if_neg bz,if_pos];intro i t l e f
 match i,e,f with
 |0,e,f=>
  simp[bS]at e;simp[bSt]at f;subst e f;refine⟨λr j=>?_,λi r y d c=>?_⟩
  .simp at j;have o:∀n,tK 1 4 0 (CT n)=true/\tK 1 4 1 (CT n)=true:=λn=>by simp[tK,CT,avJ]
   rcases j with rfl|rfl|rfl
   all_goals
    refine zI.2 ⟨rfl,λi g=>?_⟩
    match i,g with
    |0,_=>exact(o _).1
    |1,_=>exact(o _).2
    |i+2,g=>simp at g;omega
  .match i,d,c with
   |0,d,c=>simp at d c;subst d c;decide
   |1,d,c=>simp at d c;subst d c;decide
   |i+2,d,c=>simp at c
 |i+1,e,f=>simp[bS]at e
theorem bVJ:L0 bSt bQ=[[CT 2,CT 10],[CT 3,CT 20]]:=by rfl
theorem vals_oj{s:Sl}{l:dn}(r:bN h s 3 (l.map VV.enc))(d:l.length<=1000):bI h s l:=⟨⟨l,r,rfl,λi x c=>⟨x,c,rfl⟩⟩,aC⟩
theorem aoZ:di 20 beJ:=by
 refine Ht func20 ?_;rintro a1 m h K ⟨rfl,ht,hK⟩;refine⟨dG [(63,ZO),(18,a6X),(64,C3)] [] [] [] false,rfl,aD aiJ (aD Q6 (aD Ko aF)),Ot m h (lQ h K),bu,?_⟩;show Ot m h (lQ h K);dsimp only[Ot,push_cast];intro s1 h1 M r1;refine⟨1,rfl,10,rfl,2,rfl,10,rfl,3,rfl,20,rfl,?_⟩;intro s2 h2 O r2 s3 h3 P r3 s4 h4 Q r4 s5 h5 R r5 s6 h6 S r6 s7 h7 T r7 s8 h8 U r8 J h9 V r9 sa d A ra;have l9:=V.trans A;have l8:=U.trans l9;have l7:=T.trans l8;have l6:=S.trans l7;have l5:=R.trans l6;have l4:=Q.trans l5;have l3:=P.trans l4;have l2:=O.trans l3;have rs:bR d a2X ⟨1,0,hZ,cJ,cJ,cJ,cJ,0,cJ⟩:=Bd d 0;have so:jU d J [(0,true)]:=⟨r9.mono A,bx⟩
 have rq:bR d bQ ⟨9,0,hZ,cJ,cJ,s8,J,1,sa⟩:=qD.rep ⟨rfl,rfl,FJ d,sB d,vE d,⟨r8.mono l9,bx⟩,so,rfl,CJ (v:=⟨1,0,hZ,cJ,cJ,cJ,cJ,0,cJ⟩) ra rs⟩;have rt:Le d ⟨⟨⟨[116,97,115,107,115]⟩⟩,[⟨⟨⟨[105,100]⟩⟩,4⟩,⟨⟨⟨[112,114,111,106,101,99,116]⟩⟩,4⟩],1,[],[]⟩ ⟨⟨⟨[116,97,115,107,115]⟩⟩,s1,1,cJ,cJ⟩:=⟨rfl,JA (l:=[⟨_,_⟩,⟨_,_⟩]) (r1.mono l2) bx,rfl,aZ.nil _ _ _ _,aZ.nil _ _ _ _⟩
 have rS:iP d bS ⟨0,s6⟩:=⟨rfl,⟨⟨[⟨⟨⟨[116,97,115,107,115]⟩⟩,s1,1,cJ,cJ⟩],r6.mono l7,rfl,λi x e=>by
  match i,e with
  |0,e=>simp[bS]at e;subst e;exact⟨_,rfl,rt⟩
  |i+1,e=>simp[bS]at e⟩,by simp[bS]⟩⟩
 have v1:bI d s2 [CT 1,CT 10]:=vals_oj (r2.mono l3) bx;have v2:bI d s3 [CT 2,CT 10]:=vals_oj (r3.mono l4) bx;have v3:bI d s4 [CT 3,CT 20]:=vals_oj (r4.mono l5) bx
 have rr:Rows d s5 [[CT 1,CT 10],[CT 2,CT 10],[CT 3,CT 20]]:=⟨⟨[s2,s3,s4],r5.mono l6,rfl,λi x e=>by
  match i,e with
  |0,e=>simp at e;subst e;exact⟨_,rfl,v1⟩
  |1,e=>simp at e;subst e;exact⟨_,rfl,v2⟩
  |2,e=>simp at e;subst e;exact⟨_,rfl,v3⟩
  |i+3,e=>simp at e⟩,bx⟩
 have W:CE d s7 bSt:=⟨⟨⟨[s5],r7.mono l8,rfl,λi x e=>by
  match i,e with
  |0,e=>simp[bSt]at e;subst e;exact⟨_,rfl,rr⟩
  |i+1,e=>simp[bSt]at e⟩,by simp[bSt]⟩,by simp[bSt],λl B r n v hv=>by
   simp[bSt]at B;subst B;simp at n;rcases n with rfl|rfl|rfl<;>simp at hv<;>rcases hv with rfl|rfl<;>exact⟨by constructor<;>decide,by constructor<;>decide⟩⟩
 have C:Ia bS bSt bQ=([[CT 2,CT 10],[CT 3,CT 20]],0):=by
  unfold Ia;rw[bWQ,if_neg bx,if_neg (by simp[bSQ]),bVJ]
 refine⟨⟨0,s6⟩,bS,s7,bSt,⟨9,0,hZ,cJ,cJ,s8,J,1,sa⟩,bQ,rfl,rS,W,rq,ht,λ_ _=>⟨3,bz,λl B=>by simp[bSt]at B;subst B;simp,bz⟩,λs' L D n=>?_⟩;rw[C]at n⊢
 dsimp only at n⊢
 have o:=aZ.slen n;have o:s'.len=2:=o;obtain⟨X,Y,E,F,c,y⟩:=aZ.at n (i:=0) rfl;obtain⟨Z,o2,G,H,f,z⟩:=aZ.at n (i:=1) rfl;obtain⟨b3,o3,x1,a',g,e3⟩:=aZ.at y (i:=0) rfl;obtain⟨b4,o4,x2,a0,j,e4⟩:=aZ.at z (i:=0) rfl;subst e3 e4;have n1:E.len=2:=aZ.slen y;have n2:G.len=2:=aZ.slen z;have I:∀v:VV,Tv v v=true:=λv=>by simp[Tv]
 have c:bB L X (Y+0) [fF E]:=c;have f:bB L Z (o2+1) [fF G]:=f;have g:bB L b3 (o3+0) (VV.enc (CT 2)):=cm g
 have j:bB L b4 (o4+0) (VV.enc (CT 3)):=cm j
 have hc:iZ [(0,true)] [CT 2,CT 10] [CT 3,CT 20]=1:=bz
 refine aB (λ_=>aB (λ_=>⟨X,Y,F,aC,aC,E,.imm c,b3,o3,a',aC,aC,CT 2,.imm g,c,g,2,rfl,_,Eg (CT 2) (CT 2),aB (λ_=>⟨Z,o2,H,aC,aC,G,.imm f,b4,o4,a0,aC,aC,CT 3,.imm j,c,g,f,j,3,rfl,_,Eg (CT 3) (CT 3),aB (λ_=>⟨X,Y,F,aC,aC,E,.imm c,Z,o2,H,aC,aC,G,.imm f,c,g,f,j,J,E,G,[(0,true)],_,_,rfl,so.mono D,y,z,?_⟩) (λe=>?_)⟩) (λe=>?_)⟩) (λe=>?_)) (λe=>?_)
 .rw[hc];exact .out (Sub.refl m) ((M.trans l2).trans D) hK
 .rw[I]at e;cases e
 .rw[I]at e;cases e
 .rw[o]at e;cases e
 .cases e
def bYQ:Vc.Spec:=λc m h K=>∃cb s key ks e,c=[cP cb,cS s,cI key,cI e]/\aI m h cb/\Ints h s ks/\ks.length<=1000/\(∀k∈ks,k=3\/k=4\/k=5)/\∀d r m' h',PH.le h h'->bI h' d r->Tn key ks r->aL m m' cb->aI m' h' cb->K (cS d) m' h'
def StateM:Vc.Spec:=λc m h K=>∃cb v s e,c=[cP cb,aS v,cI e]/\aI m h cb/\iP h s v/\zS s/\∀st d m' h',PH.le h h'->CE h' d st->OW s st->aL m m' cb->aI m' h' cb->K (VT d) m' h'
noncomputable def aHJ(cb:Nat)(key c:Int)(s:Sl):Ctx:=dG [(13,G8),(95,Lb)] [(3,{A:=Nat×dn×MH×PH,st:=λ⟨i,l,m,h⟩=>bK 59 63 [(0,pv cb),(2,iv key),(3,iv c),(9,.at (.lst 24)),(12,sv s),(13,iv s.len),(14,iv i)] [(24,.lst 27 3 (l.map VV.enc))] m h})]
 [(7,{A:=Nat×Int×dn×Bool×MH×PH,st:=λ⟨i,k,l,b,m,h⟩=>bK 59 63 [(0,pv cb),(2,iv key),(3,iv c),(9,.at (.lst 24)),(10,iv i),(11,iv k),(12,sv s),(13,iv s.len),(14,iv i),(25,bv b)] [(24,.lst 27 3 (l.map VV.enc))] m h}),
  (9,{A:=Nat×Int×dn×Bool×MH×PH,st:=λ⟨i,k,l,b,m,h⟩=>bK 59 63 [(0,pv cb),(2,iv key),(3,iv c),(9,.at (.lst 24)),(10,iv i),(11,iv k),(12,sv s),(13,iv s.len),(14,iv i),(41,bv b)] [(24,.lst 27 3 (l.map VV.enc))] m h})] [] false
noncomputable def aXZ(cb:Nat)(c:Int)(v:bW):Ctx:=vM [(12,C2),(46,zT),(45,bYQ),(48,ZW),(47,bYZ)] [(3,{A:=Nat×Sl×MH×PH,st:=λ⟨i,s,m,h⟩=>bK 51 54 [(0,pv cb),(2,iv c),(4,.at (.ptr 4 0)),(6,.at (.ptr 6 0)),(7,.at (.ptr 7 0)),(18,iv v.tables.len),(19,iv i)] [(4,.cells 43 (v.enc.map .val)),(6,.cells 25 [.val cJ.val]),(7,.cells 25 [.val (.slice s.a s.len s.cap)])] m h}),
 (6,{A:=Nat×Int×Sl×MH×PH,st:=λ⟨i,n,s,m,h⟩=>bK 51 54 [(0,pv cb),(2,iv c),(4,.at (.ptr 4 0)),(6,.at (.ptr 6 0)),(7,.at (.ptr 7 0)),(8,iv i),(9,iv n),(18,iv v.tables.len),(19,iv i)] [(4,.cells 43 (v.enc.map .val)),(6,.cells 25 [.val cJ.val]),(7,.cells 25 [.val (.slice s.a s.len s.cap)])] m h})] [] [] [2023] [] false
noncomputable abbrev AQ(a:Nat×dn×MH×PH):List dj:=j6 a.2.1
noncomputable abbrev uI(a:Nat×dn×MH×PH):Nat->Nat->Option Value:=a.2.2.2
abbrev DC(a:Nat×Int×dn×Bool×MH×PH->Prop)(b:Nat)(c d:Int)(e:Nat)(g:Int)(i:Sl)(j k l:(Nat×Int×dn×Bool×MH×PH)->Prop):Prop:=∃(x:Nat×Int×dn×Bool×MH×PH),aA (a x) (dN b) (aA (jR c) (jR d) (aA (eL 24) (bO e x.1) (aA (dQ g x.2.1) (aG i) (aA (a7 i) (bO e x.1) (aA (j x) (k x) (l x))))))
noncomputable abbrev rW(a:Nat×Int×dn×Bool×MH×PH):Bool×MH×PH:=a.2.2.2
noncomputable abbrev uU(a:Nat×Int×dn×Bool×MH×PH):List dj:=j6 a.2.2.1
noncomputable abbrev oJ(a:Nat×Int×dn×Bool×MH×PH):Nat->Nat->Option Value:=(rW a).2.2
abbrev My(a:Nat×Int×dn×Bool×MH×PH)(b:(Nat×dn×MH×PH)->Prop)(c:(Nat×dn×MH×PH)->Nat)(d e:Nat)(g i:Int)(j:Sl)(k:(Nat×dn×MH×PH)->Prop):Prop:=aA (gS (jX (uU a) 1*32)) (dH (uU a)) (∃(x:Nat×dn×MH×PH),aA (b x) (c x<d) (aA (dN e) (jR g) (aA (jR i) (eL 24) (aA (aG j) (a7 j) (k x)))))
noncomputable abbrev B0(a:Nat×Int×dn×Bool×MH×PH):Nat->Option Obj:=(rW a).2.1
attribute [push_cast] AQ uI DC rW uU oJ My B0
def Qg(cb:Nat)(s:Sl)(key g:Int)(m:MH)(h:PH)(K:dk):Prop:=
  ∃(I:Nat×dn×MH×PH->Prop)(n:Nat×dn×MH×PH->Nat),(∃(x:Nat×dn×MH×PH),aA (I x) (dN cb) (aA (jR key) (jR g) (aA (eL 24) (aG s) (aA (a7 s) (aY x.1) (bG (kN 27 3 (cD 27 3 (AQ x))) (cW m x.2.2) (h=uI x))))))/\∀(x:Nat×dn×MH×PH),I x->aR (↑x.1:Int) (aH s) (eU s.a 0 (↑x.1:Int) s (λb o y=>aK x.2.2.1 (uI x) b (bC o x.1 1) (cO y)/\∃(I1:Nat×Int×dn×Bool×MH×PH->Prop),fY (↑x.1:Int) key (fW g 1 (lT cb 5 x.2.2.1 (uI x) (λc r=>∀(j:MH),aT (aL x.2.2.1 j c) (aI j (uI x) c) (DC I1 cb key g x.1 y s (λd=>iW r (rW d).1) (λd=>cD 27 3 (AQ x)=cD 27 3 (uU d)) (λd=>bE (cW j (rW d).2) (uI x) (oJ d))))) (DC I1 cb key g
 x.1 y s (λd=>xL (rW d).1) (λd=>cD 27 3 (AQ x)=cD 27 3 (uU d)) (λd=>bE (cW x.2.2.1 (rW d).2) (uI x) (oJ d)))) (DC I1 cb key g x.1 y s (λd=>xL (rW d).1) (λd=>cD 27 3 (AQ x)=cD 27 3 (uU d)) (λd=>bE (cW x.2.2.1 (rW d).2) (uI x) (oJ d)))/\∀(d:Nat×Int×dn×Bool×MH×PH),hU (I1 d) (rW d).1 (My d (λe=>I e) (λe=>n e) (n x) cb key g s (λe=>Aa (aU (aW d.1 1) e.1) (cD 27 3 (dY (uU d) (IY 2))=cD 27 3 (AQ e)) (cW (B0 d) e.2.2) (oJ d) (uI e))) (∃(I2:Nat×Int×dn×Bool×MH×PH->Prop),fY (↑d.1:Int) key (dJ g 3 (lT cb 5 (B0 d) (oJ d) (λc r=>∀(j:MH),aT (aL (B0 d) j c) (aI j
 (oJ d) c) (DC I2 cb key g d.1 d.2.1 s (λe=>iW r (rW e).1) (λe=>cD 27 3 (uU d)=cD 27 3 (uU e)) (λe=>bE (cW j (rW e).2) (oJ d) (oJ e))))) (DC I2 cb key g d.1 d.2.1 s (λe=>xL (rW e).1) (λe=>cD 27 3 (uU d)=cD 27 3 (uU e)) (λe=>bE (cW (B0 d) (rW e).2) (oJ d) (oJ e)))) (DC I2 cb key g d.1 d.2.1 s (λe=>xL (rW e).1) (λe=>cD 27 3 (uU d)=cD 27 3 (uU e)) (λe=>bE (cW (B0 d) (rW e).2) (oJ d) (oJ e)))/\∀(e:Nat×Int×dn×Bool×MH×PH),hU (I2 e) (rW e).1 (My e (λf=>I f) (λf=>n f) (n x) cb key g s (λf=>Aa (aU (aW e.1 1) f.1) (cD 27 3 (dY (uU e) (IY 1))=cD 27 3
 (AQ f)) (cW (B0 e) f.2.2) (oJ e) (uI f))) (F7 cb e.2.1 (B0 e) (oJ e) (λv j=>My e (λf=>I f) (λf=>n f) (n x) cb key g s (λf=>Aa (aU (aW e.1 1) f.1) (cD 27 3 (dY (uU e) v.enc)=cD 27 3 (AQ f)) (cW j f.2.2) (oJ e) (uI f))))))) (bU (uI x) 3 (AQ x) (λz A=>K (fD z) x.2.2.1 A))
noncomputable abbrev nD(a:Nat×Int×Sl×MH×PH):Sl×MH×PH:=a.2.2
attribute [push_cast] nD
def KV(cb:Nat)(g:Int)(v:bW)(m:MH)(h:PH)(K:dk):Prop:=
  aA (cC (iV v)) (iV v<=iV v) (aA (sA (iV v*24)) (sA (iV v)) (fX (λs L=>qJ m L h s 53 1 (B6 (iV v) iA)->∃(I:Nat×Sl×MH×PH->Prop)(M:Nat×Sl×MH×PH->Nat),(∃(x:Nat×Sl×MH×PH),aA (I x) (dN cb) (aA (jR g) eV (aA (eP 6) (eP 7) (aA (jK v) (aY x.1) (aA (bM v) oY (aA (z8 (lY s) x.2) (gH L x.2) (bH h (gJ x.2))))))))/\∀(x:Nat×Sl×MH×PH),I x->aR (↑x.1:Int) (aH v.tables) (fS cb 5 (iO x.2) (gJ x.2) (λk Z=>∃(I1:Nat×Int×Sl×MH×PH->Prop)(O:Nat×Int×Sl×MH×PH->Nat),(∃(d:Nat×Int×Sl×MH×PH),aA (I1 d) (dN cb) (aA (jR g) eV (aA (eP 6) (eP 7) (aA (bO x.1 d.1) (dQ k d.2.1) (aA (jK v) (bO x.1 d.1) (aA (bM v) oY (bG (mL x.2
 (nD d)) (gH Z (nD d)) (gJ x.2=gJ (nD d)))))))))/\∀(d:Nat×Int×Sl×MH×PH),I1 d->eR d.2.1 0 (eU (lN v) 0 (↑d.1:Int) v.tables (λb o y=>aA (aK (iO (nD d)) (gJ (nD d)) b (bC o d.1 5+2) (cO y)) (bB (gJ (nD d)) b (bC o d.1 5+2) (cO y)) (DD (mF (cV v) d.1) (gJ (nD d)) (λs1 F=>∃(c:Nat)(P:Sl)(Q:Int)(z:dm)(m5:Int),aA (bY cb::fD s1::bA (fQ y) g=bY c::fD P::bA (fQ Q) m5) (aI (iO (nD d)) F c) (aA (Ints F P z) (iC z) ((∀(f:Int),List.Mem f z->f=3\/f=4\/f=5)/\∀(G:Sl)(r:dn),gU (λA B=>dD F B (bI B G r) (aT (Tn Q z r) (aL (iO (nD d)) A c) (j5 A B c (II v d.1 G B (λs4 j=>wG
 (λR S=>bT (λt n=>∃(T:Nat)(u:dq)(U:Sl)(C:Nat)(V:zN)(D:dl),pL (λW f=>pL (λX E=>aA (cV v::lV (nD d).1::fQ (↑d.1:Int)::dW s4 (fD G)=cV R::pN (nT (Value.slice (wI t) n T))::fQ (↑C:Int)::dW W (fD X)) (iP j S R) (aA (MG S C V) (auQ A t u) (aA (n=u.length) (u[C]? =Option.some U) (aA (Rows j U D) (nV D.length) (aA (sQ D (λr3=>rY r3)) (bI j W f) (aA (bI j X E) (0<E.length) (rY E/\∀(Y:Sl),gU (λH J=>dD j J (Rows J Y (Bh V f E false D)) (aT (auQ H t (List.set u C Y)) (aL A H t) (∃(e:Nat×Int×Sl×MH×PH),aA (I1 e) (O e<O d) (aA (dN cb) (jR g) (aA eV (eP 6) (aA (eP 7) (bO d.1 e.1) (aA (dQ (iJ (d.2.1-
 1)) e.2.1) (jK v) (aA (bO d.1 e.1) (bM v) (aA oY (z8 (vH (At.val (Value.slice (wI t) n T))) (nD e)) (aA (gH H (nD e)) (J=gJ (nD e)) True))))))))))))))))))))))))))))))) (∃(e:Nat×Sl×MH×PH),aA (I e) (M e<M x) (aA (dN cb) (jR g) (aA eV (eP 6) (aA (eP 7) (jK v) (aA (aU (aW d.1 1) e.1) (bM v) (aA oY (mL (nD d) e.2) (bE (gH (iO (nD d)) e.2) (gJ (nD d)) (gJ e.2)))))))))) (K (pN (aM x.2.1)) (iO x.2) (gJ x.2)))))
theorem WJ:di 45 bYQ:=by
 refine gO func45 ?_;rintro Z m h K ⟨cb,s,key,ks,V,rfl,hc,W,hl,hk,hK⟩;refine⟨aHJ cb key V s,rfl,aD sV (aD CS aF),Qg cb s key V m h K,bu,?_⟩;dsimp only[Qg,push_cast];have I:=W.slen;refine⟨λz=>z.2.2.2=h/\z.1<=ks.length/\Tn key (ks.take z.1) z.2.1/\aL m z.2.2.1 cb/\aI z.2.2.1 h cb,λz=>ks.length-z.1,⟨(0,[],m,h),⟨rfl,bx,⟨bx,bx,λj u k h=>by simp at h⟩,.refl _ _,hc⟩,MT⟩,?_⟩;rintro⟨i,l,n,h'⟩ ⟨X,hi,d,J,C⟩;dsimp only at X hi d J C⊢
 subst X;have a':l.length=i:=by rw[d.1,length_take];omega
 refine aE (λL=>?_) (λa0 s' h2 D M=>?_)
 .obtain⟨k,E⟩:=eN I L;obtain⟨b,o,ea,rd⟩:=W.at' E;have O:=hk k (cr E);have P:∀(u:VV)(m':MH),L7 u->tK key k i u=true->aL n m' cb->aI m' h' cb->h'=h'/\i+1<=ks.length/\Tn key (ks.take (i+1)) (l++[u])/\aL m m' cb/\aI m' h' cb:=λu m' Q hf o c=>⟨rfl,aC,d.snoc E Q hf,J.trans o,c⟩
  have f:ks.length-(i+1)<ks.length-i:=by omega
  have R:IntKind.i64.wrap ((i:Int)+1)=((i+1:Nat):Int):=fP aC;refine⟨b,o,ea,aC,aC,k,.imm rd,λz=>∃b m',z=(i,k,l,b,m',h')/\(b=true->key<=(i:Int))/\aL n m' cb/\aI m' h' cb,aE (λg=>aB (λ_=>⟨cb,5,rfl,aC,aC,C,λr y A B=>⟨_,⟨r,y,rfl,λ_=>g,A,B⟩,MT⟩⟩) (λ_=>⟨_,⟨false,n,rfl,(λe=>by cases e),.refl _ _,C⟩,MT⟩)) (λ_=>⟨_,⟨false,n,rfl,(λe=>by cases e),.refl _ _,C⟩,MT⟩),?_⟩;rintro _ ⟨b1,y,rfl,S,A,B⟩;dsimp only;refine aB (λe=>⟨cd,cd,(i+1,l++[⟨2,0,⟨#[]⟩⟩],y,h'),P _ y (TF 2) (UD (.inr rfl) (S e)) A B,f,by rw[R,cv];exact MT⟩) (λ_=>?_);refine⟨λz=>∃b m',z=(i,k,l,b,m',h')/\(b=true->key<=(i:Int))/\aL n m' cb/\aI m' h' cb,aE (λg=>aB (λ_=>⟨cb,5,rfl,aC,aC,B,λr F G H=>⟨_,⟨r,F,rfl,λ_=>g,A.trans G,H⟩,MT⟩⟩) (λ_=>⟨_,⟨false,y,rfl,(λe=>by cases e),A,B⟩,MT⟩)) (λ_=>⟨_,⟨false,y,rfl,(λe=>by cases e),A,B⟩,MT⟩),?_⟩;rintro _ ⟨b2,F,rfl,T,G,H⟩;dsimp only;refine aB (λe=>⟨cd,cd,(i+1,l++[⟨1,0,⟨#[]⟩⟩],F,h'),P _ F (TF 1) (UD (.inl rfl) (T e)) G H,f,by rw[R,cv];exact MT⟩) (λ_=>⟨cb,k,rfl,H,λu Y Q U o4 c4=>?_⟩);refine⟨cd,cd,(i+1,l++[u],Y,h'),P _ Y Q (agX O U) (G.trans o4) c4,f,?_⟩;rw[R,cv];exact MT
 .rw[cu aC]at d;exact hK s' l n h2 D ⟨⟨l,M,rfl,λi x E=>⟨x,E,rfl⟩⟩,aC⟩ d J (C.mono D)
theorem Ye:di 11 StateM:=by
 refine bkZ func11 ?_;rintro d' m h K ⟨cb,v,s,mo,rfl,hc,hs,hp,hK⟩;refine⟨aXZ cb mo v,rfl,aD D9 (aD GC (aD WJ (aD Kr (aD ajJ aF)))),KV cb mo v m h (eX h K),bu,?_⟩;show KV cb mo v m h (eX h K);dsimp only[KV,push_cast];have b4:=hs.tables.slen;obtain⟨a5,b5⟩:=T4 hp;have h8:=Hh a5;have b6:=xI a5;have d0:0<s.tables.length:=length_pos_iff.2 b5;refine⟨aC,aC,aC,aC,λV m1 H=>?_⟩;rw[show((v.tables.len:Int)).toNat=s.tables.length by omega]at H
 obtain⟨I,D,C,G,J,_,_,a6,R⟩:∃b D C,V=⟨some ⟨b,0,none⟩,s.tables.length,D⟩/\m1 b=some (.cells C 53 (0,0))/\s.tables.length<=D/\D<=maxLen/\C.size=D*1/\C.toList.take (s.tables.length*1)=(replicate s.tables.length [sJ]).flatten:=by
  rcases H.row.ex with⟨_,e⟩|⟨b,D,C,L,S,e3,e4,e5,e6⟩
  .have:=congrArg List.length e;rw[length_replicate,length_nil]at this;omega
  .rw[length_replicate]at L e3 e6;exact⟨b,D,C,L,S,e3,e4,e5,e6⟩
 have a0:s.tables.length<=D:=by assumption
 have W:dZ m h I:=H.fresh I 0 (by rw[G])
 have F:I≠cb:=λe=>by
  obtain⟨cs,S⟩:=hc.blk;rw[<-e,W.m_]at S;cases S
 have X:∀b,b≠I->m1 b=m b:=λb hb=>H.other b λi e=>by
  rw[G]at e;injection e with e;injection e with L S;exact hb L.symm
 have a9:aI m1 h cb:=hc.keep (X cb (Ne.symm F)) (.refl _)
 have b':TSt h s m1 I (replicate s.tables.length ⟨none,0,0⟩) (replicate s.tables.length []):=by
  refine⟨⟨C,J,by rw[length_replicate];omega,?_⟩,bx,bx,λj u l M E=>?_,λj t l ht E=>?_,λl E=>?_,λl E=>?_⟩
  .rw[length_replicate, <-Nat.mul_one s.tables.length,R,Nat.mul_one,map_replicate];generalize s.tables.length=k
   induction k with
   |zero=>rfl
   |succ k ih=>rw[replicate_succ,flatten_cons,ih,replicate_succ];rfl
  .have M:=cr M;have E:=cr E;rw[eq_of_mem_replicate M,eq_of_mem_replicate E];exact aZ.nil _ _ _ _
  .rw[eq_of_mem_replicate (cr E)];exact⟨λr hr=>by simp at hr,λi r r' e=>by simp at e⟩
  .rw[eq_of_mem_replicate E];intro r hr;simp at hr
  .rw[eq_of_mem_replicate E];simp
 clear R a6 J C;refine⟨λz=>z.1<=s.tables.length/\z.2.1=V/\PH.le h z.2.2.2/\aI z.2.2.1 z.2.2.2 cb/\(∀b,b≠I->b≠cb->z.2.2.1 b=m b)/\∃us st,TSt z.2.2.2 s z.2.2.1 I us st/\∀j l,z.1<=j->st[j]? =some l->l=[],λz=>s.tables.length-z.1,⟨(0,V,m1,h),⟨bx,rfl,.refl _,a9,λb h1 _=>X b h1,_,_,b',λj l _ e=>eq_of_mem_replicate (cr e)⟩,MT⟩,?_⟩;clear b' a9;rintro⟨i,a1,m2,h2⟩ ⟨hi,L,T,c2,o2,us,st,f,g⟩;dsimp only at hi L T c2 o2 f g⊢
 rw[L];clear L a1;refine aE (λb7=>?_) (λd1=>?_)
 .obtain⟨tab,A⟩:=eN b4 b7;have a2:=cr A;obtain⟨tk,tc,d2,b8⟩:=PQ hp a2;have b0:=(cn A)
  have O:st[i]? =some []:=by
   have:=getElem?_eq_getElem (l:=st) (i:=i) (by rw[f.slen];exact b0);rw[this,g i _ (Nat.le_refl _) this]
  refine⟨cb,5,rfl,c2,λk m3 k0 k1 o3 c3=>?_⟩;refine⟨λz=>z.1=i/\z.2.2.1=V/\z.2.1<=4/\PH.le h z.2.2.2.2/\aI z.2.2.2.1 z.2.2.2.2 cb/\(∀b,b≠I->b≠cb->z.2.2.2.1 b=m b)/\∃us st l,TSt z.2.2.2.2 s z.2.2.2.1 I us st/\st[i]? =some l/\((l.length:Int)<=4-z.2.1)/\0<=z.2.1/\∀j l,i+1<=j->st[j]? =some l->l=[],λz=>z.2.1.toNat,⟨(i,k,V,m3,h2),⟨rfl,rfl,ck,T,c3,λb h1 h2=>by show m3 b=m b;rw[o3.other b h2];exact o2 b h1 h2,us,st,[],f.mono (.refl _) (o3.other I F),O,ce,k0,λj l hj=>g j l aC⟩,MT⟩,?_⟩;clear o3 c3 m3 k0 k1 f g O us st k o2 c2 m2;rintro⟨i',n,a1,m3,h3⟩ ⟨L,S,b9,B,c3,o3,us,st,l,f,E,c',b1,g⟩;dsimp only at L S b9 B c3 o3 f E c' b1 g⊢
  rw[L,S];clear L S i' a1;refine aE (λhn=>?_) (λhn=>?_)
  .obtain⟨b,o,y,ea,rd,hy⟩:=aZ.at (hs.mono B).tables A;have c0:jS s (i:Int)=tab.columns.map pF.kind:=by rw[jS,if_neg aC,Int.toNat_natCast,A]
   refine⟨b,o,ea,aC,aC,tab.key,.imm (by rw[<-hy.key];exact bB.part rd 2 1),by rw[<-hy.key];exact bB.part rd 2 1,v,s,i,rfl,hs.mono B,b6,λks h4 P b2=>?_⟩;rw[c0]at b2;refine⟨cb,ks,tab.key,_,mo,rfl,c3.mono P,b2,cd,λk hk=>?_,λsr row m5 h5 U Y Z o5 c5=>?_⟩
   .obtain⟨c,hc,rfl⟩:=mem_map.1 hk;exact b8 c hc
   have d3:row.length=tab.columns.length:=by rw[Z.1,length_map]
   refine⟨v,s,i,sr,row,rfl,hs.mono ((B.trans P).trans U),Y,aC,λsk h6 Q a'=>?_⟩;rw[y9 A]at a';have a3:=f.mono ((P.trans U).trans Q) (o5.other I F);obtain⟨u,M⟩:∃u,us[i]? =some u:=⟨_,cq (by rw[f.ulen];exact b0)⟩
   have c1:=cr E;refine⟨v,s,I,s.tables.length,D,us,u,i,tab,l,sk,mA tab row,sr,row,by rw[G],hs.mono (((B.trans P).trans U).trans Q),A,a3.tbl,f.ulen.symm,M,a3.rows i u l M E,by have:=f.few l c1;omega,λr hr=>?_,a',bI.mono Y Q,aC,aC,λu' m7 h7 a4 c4 c6 o7=>?_⟩
   .have:=(GA ((f.ok i tab l A E).1 r hr)).1;omega
   have hw:IntKind.i64.wrap (n-1)=n-1:=dR aC aC;have c7:=Me (t:=tab) (key:=mA tab row) (row:=row) (l:=l) (d:=false);simp at c7;refine⟨(i,n-1,V,m7,h7),⟨rfl,rfl,ck,(((B.trans P).trans U).trans Q).trans a4,(c5.mono (Q.trans a4)).keep (o7.other cb (Ne.symm F)) (.refl _),λb h1 h2=>by show m7 b=m b;rw[o7.other b h1,o5.other b h2];exact o3 b h1 h2,us.set i u',st.set i _,_,a3.put a4 A E c6 c4 Z aC,getElem?_set_self (cn E),by show(_:Int)<=4-(n-1);omega,ck,λj l' hj e=>?_⟩,by show(n-1).toNat<n.toNat;omega,?_⟩
   .rw[getElem?_set_ne aC]at e;exact g j l' hj e
   .rw[hw,G];exact MT
  .refine⟨(i+1,V,m3,h3),⟨ck,rfl,B,c3,o3,us,st,f,g⟩,cj,?_⟩;rw[fP aC];exact MT
 .obtain⟨C,J,a6,R⟩:=f.tbl;refine eX.iceB J T λh3 B b3=>hK st V _ h3 (T.trans B) ⟨⟨⟨us,⟨by rw[G,length_map];exact f.ulen.symm,.inr ⟨I,0,by rw[G],λj e hj=>⟨λn x hx=>?_⟩⟩,by rw[G];exact a0⟩,by rw[f.slen,f.ulen],λj l E=>?_⟩,by rw[f.slen];omega⟩,by rw[f.slen];omega,f.val⟩ ⟨f.slen,f.few,f.ok,f.val⟩ ⟨λb hb=>?_⟩ ?_
  .rw[getElem?_map,Option.map_eq_some_iff]at hj;obtain⟨u,M,rfl⟩:=hj;have hn:n=0:=by have:=(cn hx);simp[eS]at this;omega
   subst hn
   have hx:u.val=x:=by
    simp[eS]at hx;exact hx
   subst hx;have e:(C.toList.take us.length)[j]? =some u.val:=by rw[R,getElem?_map,M];rfl
   rw[getElem?_take,if_pos (cn M),dd]at e;rw[b3,show 0+j*1+0=j by omega];exact e
  .have c8:=(cn E);have c9:j<us.length:=by rw[f.ulen, <-f.slen];exact c8
   have M:us[j]? =some us[j]:=cq c9;exact⟨_,M,aZ.mono (f.rows j _ l M E) B λr t hv=>bI.mono hv B⟩
  .by_cases e:b=I
   .subst e;simp[W.m_]
   .simp only[e,if_false];exact o2 b e hb
  .refine aI.keep c2 ?_ B;simp[Ne.symm F]
structure BC(l k:dl):Prop where
 mem:∀x,x∈k↔x∈l
 len:k.length=l.length
 srt:k.Pairwise λx y=>eJ x y<=0
def Tf(N:Nat):Vc.Spec:=λc m h K=>∃s l,c=[cS s]/\Rows h s l/\l.length<N/\l.length<=8000000/\∀d h' k,PH.le h h'->Rows h' d k->BC l k->K (cS d) m h'
def ZD:Vc.Spec:=λc m h K=>∃s l,c=[cS s]/\Rows h s l/\l.length<=8000000/\(∀r∈l,r.length<=1000)/\∀d h',PH.le h h'->Rows h' d (uR l)->K (cS d) m h'
noncomputable def aQJ(N:Nat)(s:Sl)(m:MH):Ctx:=
 dG [(65,C4),(200,Tf N)] [(5,{A:=Sl×Sl×dq×PH,st:=λ⟨a,b,us,h⟩=>bK 63 64 [(3,sv a),(4,sv b),(5,.at (.lst 25))] [(25,.lst 94 1 (us.map eS))] m h})] [(4,{A:=Sl×Sl×PH,st:=λ⟨a,b,h⟩=>bK 63 64 [(0,sv s),(3,sv a),(4,sv b)] [] m h})] [] false
noncomputable def aXQ(m:MH):Ctx:=
 dG [(65,C4),(55,Tq),(200,Tf 8000001)] [(3,{A:=Nat×Sl×dq×PH,st:=λ⟨i,t,us,h⟩=>bK 34 35 [(3,.at (.lst 31)),(7,sv t),(8,iv t.len),(9,iv i)] [(31,.lst 94 1 (us.map eS))] m h})] [] [] false
noncomputable abbrev nA(a:Sl):Int:=iJ (Int.tdiv (aH a) 2)
abbrev BQ(a:ei)(b:PH)(c:Nat)(d:dl->Sl->PH->dl->Prop):Prop:=Fe (λx e=>aA (a=jZ x) (Rows b x e) (aA (e.length<c) (tG e) (jT (λg f=>∀(j:dl),dD b f (Rows f g j) (d e g f j)))))
abbrev wP(a:Sl):Prop:=a.len<=a.cap
noncomputable abbrev kE(a:Sl×Sl×dq×PH):Sl:=a.2.1
noncomputable abbrev iN(a:Sl×Sl×dq×PH):Nat->Nat->Option Value:=a.2.2.2
noncomputable abbrev mG(a:Sl×Sl×dq×PH):List dj:=j7 a.2.2.1
abbrev IZ(a:Sl×Sl×dq×PH)(b c:Nat)(d:Sl)(e:(Sl×Sl×dq×PH)->Prop):Prop:=aA (jB (iN a) b (cZ c) d) (iS (mG a)) (dH (mG a)/\∃(x:Sl×Sl×dq×PH),e x)
attribute [push_cast] nA BQ wP kE iN mG IZ
def QY(N:Nat)(s:Sl)(m:MH)(h:PH)(K:dk):Prop:=
  aR (aH s) 2 (∃(y:List dj),aA (cT 1 y) (bN h (bD s) 1 y) (aA (wT y 24) (wU y) (oB h y K m))) (∃(I:Sl×Sl×PH->Prop),aA (kF ((2:Int)=0)) (kF ((2:Int)=0)) (aA (aA (cC (nA s)) (AR (nA s) s) (aA (BQ (DZ (CV.val (Value.slice s.a (nA s).toNat s.cap))) h N (λl e B k=>BC l k->aA (cC (nA s)) (nA s<=aH s) (wP s/\∀(A:Sl),tA 1 (bD s) (nA s).toNat A->BQ (jZ A) B N (λC D E F=>BC C F->∃(x:Sl×Sl×PH),aA (I x) (aG s) (aA (bF e x.1) (bF D x.2.1) (bE (m=m) E x.2.2)))))) (cC (nA s)) (aA (nA s<=aH s) (wP s) (∀(e:Sl),tA 1 (bD s) (nA s).toNat e->BQ (DZ (CV.val (Value.slice s.a (nA s).toNat s.cap))) h N (λl A B k=>BC
 l k->BQ (jZ e) B N (λC D E F=>BC C F->∃(x:Sl×Sl×PH),aA (I x) (aG s) (aA (bF A x.1) (bF D x.2.1) (bE (m=m) E x.2.2)))))))) (cC (nA s)) (aA (nA s<=aH s) (wP s) (∀(e:Sl),tA 1 (bD s) (nA s).toNat e->aA (cC (nA s)) (AR (nA s) s) (BQ (DZ (CV.val (Value.slice s.a (nA s).toNat s.cap))) h N (λl A B k=>BC l k->BQ (jZ e) B N (λC D E F=>BC C F->∃(x:Sl×Sl×PH),aA (I x) (aG s) (aA (bF A x.1) (bF D x.2.1) (bE (m=m) E x.2.2))))))))/\∀(x:Sl×Sl×PH),I x->aA (cC 0) (cC (aH s)) (aA (sA (aH s*24)) (sA (aH s)) (∃(I1:Sl×Sl×dq×PH->Prop)(z:Sl×Sl×dq×PH->Nat),(∃(c:Sl×Sl×dq×PH),aA (I1 c) (bF x.1 c.1) (aA (bF
 x.2.1 (kE c)) (eL 25) (bG (kN 94 1 (uX c.2.2)) (m=m) (x.2.2=iN c))))/\∀(c:Sl×Sl×dq×PH),I1 c->eR (aH c.1) 0 (eR (aH (kE c)) 0 (cK c.1.a 0 c.1 (λb o y=>aK m (iN c) b (cZ o) (aM y)/\cK (kE c).a 0 (kE c) (λG H n=>aK m (iN c) G (cZ H) (aM n)/\AD y n (iN c) (λa J=>Cs (eJ a J) 0 (cK c.1.a 0 c.1 (λg j f=>aA (aK m (iN c) g (cZ j) (aM f)) (aA (aA (jB (iN c) g (cZ j) f) (iS (mG c)) (aA (dH (mG c)) (jB (iN c) g (cZ j) f) (aA (cC 1) (1<=aH c.1) (wP c.1/\∀(e:Sl),tA 1 (bD c.1) 1 e->∃(d:Sl×Sl×dq×PH),aA (I1 d) (z d<z c) (aA (bF e d.1) (bF (kE c) (kE d)) (aA (eL 25) (uC
 (mG c) f d.2.2) (aA (m=m) (iN c=iN d) True))))))) (jB (iN c) g (cZ j) f) (aA (cC 1) (1<=aH c.1) (c.1.len<=c.1.cap/\∀(e:Sl),tA 1 (bD c.1) 1 e->IZ c g j f (λd=>aA (I1 d) (z d<z c) (aA (bF e d.1) (bF (kE c) (kE d)) (aA (eL 25) (uC (mG c) f d.2.2) (aA (m=m) (iN c=iN d) True))))))) (aA (jB (iN c) g (cZ j) f) (cC 1) (aA (1<=aH c.1) (wP c.1) (∀(e:Sl),tA 1 (bD c.1) 1 e->IZ c g j f (λd=>aA (I1 d) (z d<z c) (aA (bF e d.1) (bF (kE c) (kE d)) (aA (eL 25) (uC (mG c) f d.2.2) (aA (m=m) (iN c=iN d) True))))))))) (cK (kE c).a 0 (kE c) (λg j f=>aA (aK m (iN c) g (cZ j) (aM f)) (aA (aA (jB
 (iN c) g (cZ j) f) (iS (mG c)) (aA (dH (mG c)) (jB (iN c) g (cZ j) f) (aA (cC 1) (1<=aH (kE c)) (wP (kE c)/\∀(e:Sl),tA 1 (bD (kE c)) 1 e->∃(d:Sl×Sl×dq×PH),aA (I1 d) (z d<z c) (aA (bF c.1 d.1) (bF e (kE d)) (aA (eL 25) (uC (mG c) f d.2.2) (aA (m=m) (iN c=iN d) True))))))) (jB (iN c) g (cZ j) f) (aA (cC 1) (1<=aH (kE c)) ((kE c).len<=(kE c).cap/\∀(e:Sl),tA 1 (bD (kE c)) 1 e->IZ c g j f (λd=>aA (I1 d) (z d<z c) (aA (bF c.1 d.1) (bF e (kE d)) (aA (eL 25) (uC (mG c) f d.2.2) (aA (m=m) (iN c=iN d) True))))))) (aA (jB (iN c) g (cZ j) f) (cC 1) (aA (1<=aH (kE c))
 (wP (kE c)) (∀(e:Sl),tA 1 (bD (kE c)) 1 e->IZ c g j f (λd=>aA (I1 d) (z d<z c) (aA (bF c.1 d.1) (bF e (kE d)) (aA (eL 25) (uC (mG c) f d.2.2) (aA (m=m) (iN c=iN d) True))))))))))))) (∃(y:List dj),aA (cT 1 y) (bN (iN c) (bD c.1) 1 y) (aA (kH (mG c) y 24) (kC (mG c) y) (∃(n:List dj),aA (cT 1 n) (bN (iN c) (bD (kE c)) 1 n) (aA (kH (mG c++y) n 24) (kC (mG c++y) n) (oB (iN c) (mG c++y++n) K m)))))) (∃(y:List dj),aA (cT 1 y) (bN (iN c) (bD c.1) 1 y) (aA (kH (mG c) y 24) (kC (mG c) y) (∃(n:List dj),aA (cT 1 n) (bN (iN c) (bD (kE c)) 1 n) (aA (kH (mG c++y)
 n 24) (kC (mG c++y) n) (oB (iN c) (mG c++y++n) K m))))))))
noncomputable abbrev kJ(a:Nat×Sl×dq×PH):Sl:=a.2.1
noncomputable abbrev oV(a:Nat×Sl×dq×PH):Nat->Nat->Option Value:=a.2.2.2
noncomputable abbrev nE(a:Nat×Sl×dq×PH):List dj:=j7 a.2.2.1
attribute [push_cast] kJ oV nE
def Ru(s:Sl)(m:MH)(h:PH)(K:dk):Prop:=
  BQ (jZ s) h 8000001 (λl n C k=>BC l k->∃(I:Nat×Sl×dq×PH->Prop)(f:Nat×Sl×dq×PH->Nat),(∃(x:Nat×Sl×dq×PH),aA (I x) (eL 31) (aA (bF n (kJ x)) (dA n (kJ x)) (aA (aY x.1) (kN 94 1 (uX x.2.2)) (aA (m=m) (C=oV x) True))))/\∀(x:Nat×Sl×dq×PH),I x->aR (↑x.1:Int) (aH (kJ x)) (cK (kJ x).a (↑x.1:Int) (kJ x) (λb o y=>aK m (oV x) b (bC o x.1 1) (aM y)/\dJ (jY (nE x)) 0 (pL (λg r=>aA (p9 y g) (bI (oV x) g r) (rY r/\jT (λj d=>dD (oV x) d (bI d j r) (aA (iS (nE x)) (dH (nE x)) (∃(c:Nat×Sl×dq×PH),aA (I c) (f c<f x) (aA (eL 31) (bF (kJ x) (kJ c)) (aA (dA (kJ x) (kJ c)) (aU (aW x.1 1) c.1)
 (aA (uC (nE x) j c.2.2) (m=m) (bH d (oV c))))))))))) (BZ (iJ (jY (nE x)-1)) (jY (nE x)) (λe=>uN (nE x) (iJ (jY (nE x)-1)).toNat e/\∃(z:Sl),Dx 1 e (aM z)/\∃(g:Sl),pL (λt a=>∃(A:dn),aA (fN z y=fN g t) (bI (oV x) g a) (bI (oV x) t A/\fW (eJ a A) 0 (pL (λj r=>aA (p9 y j) (bI (oV x) j r) (rY r/\jT (λB d=>dD (oV x) d (bI d B r) (aA (iS (nE x)) (dH (nE x)) (∃(c:Nat×Sl×dq×PH),aA (I c) (f c<f x) (aA (eL 31) (bF (kJ x) (kJ c)) (aA (dA (kJ x) (kJ c)) (aU (aW x.1 1) c.1) (aA (uC (nE x) B c.2.2) (m=m) (bH d (oV c))))))))))) (∃(c:Nat×Sl×dq×PH),aA (I c) (f c<f x)
 (aA (eL 31) (bF (kJ x) (kJ c)) (aA (dA (kJ x) (kJ c)) (aU (aW x.1 1) c.1) (aA (uX x.2.2=uX c.2.2) (m=m) (bH (oV x) (oV c)))))))))))) (oB (oV x) (nE x) K m))
theorem bN.low{s d:Sl}(r:bN h s sz xs)(c:tA sz ⟨s.a,s.len,s.cap⟩ i d)(z:i<=xs.length):bN h d sz (xs.drop i):=by
 have f:=r.len;have A:=r.cap;refine⟨by rw[c.len,length_drop, <-f],?_,by rw[c.len,c.cap];grind⟩;rcases r.row with e|⟨b,o,g,k⟩
 .grind
 .by_cases n:s.cap=i
  .grind
  .right;refine⟨b,o+i*sz,by rw[c.a_,if_neg n,g];by_cases y:i*sz=0<;>simp[Addr.add,y],λj e B=>?_⟩
   grind
theorem Nn{s:Sl}{l:dl}(x:Rows h s l):s.len<=s.cap:=by
 obtain⟨⟨us,c,_⟩,_⟩:=x;exact c.cap
theorem PN{s:Sl}{l:dl}(x:Rows h s l){n:Nat}(f:n<=l.length):Rows h ⟨s.a,n,s.cap⟩ (l.take n):=by
 obtain⟨⟨us,c,d,g⟩,j⟩:=x;refine⟨⟨us.take n,by rw[map_take];exact bN.cut c n cg,by simp[d],λi y e=>?_⟩,ce⟩
 grind
theorem FN{s c:Sl}{l:dl}(x:Rows h s l){n:Nat}(d:tA 1 ⟨s.a,s.len,s.cap⟩ n c)(j:n<=l.length):Rows h c (l.drop n):=by
 obtain⟨⟨us,f,g,o⟩,z⟩:=x;refine⟨⟨us.drop n,by rw[map_drop];exact bN.low f d cg,by simp[g],λi y e=>?_⟩,ce⟩
 grind
structure CF(l o a b:dl):Prop where
 mem:∀x,(x∈o\/x∈a\/x∈b)↔x∈l
 len:o.length+a.length+b.length=l.length
 so:o.Pairwise λx y=>eJ x y<=0
 sa:a.Pairwise λx y=>eJ x y<=0
 sb:b.Pairwise λx y=>eJ x y<=0
 oa:∀x∈o,∀y∈a,eJ x y<=0
 ob:∀x∈o,∀y∈b,eJ x y<=0
theorem CF.swap{l o a b:dl}(m:CF l o a b):CF l o b a:=⟨λx=>by rw[or_comm (a:=x∈b)];exact m.mem x,by have:=m.len;omega,m.so,m.sb,m.sa,m.ob,m.oa⟩
theorem CF.left{l o a b:dl}{x y:dn}(m:CF l o (x::a) b)(g:b=[]\/∃f,b=y::f/\eJ x y<=0):CF l (o++[x]) a b:=by
 have j:=pairwise_cons.1 m.sa;refine⟨λz=>?_,by have:=m.len;grind,?_,j.2,m.sb,λz c w d=>?_,λz c w d=>?_⟩
 .rw[<-m.mem z,mem_append,mem_singleton,mem_cons,or_assoc,or_assoc]
 .rw[pairwise_append];exact⟨m.so,bx,λz c w d=>by rw[mem_singleton.1 d];exact m.oa z c x bx⟩
 .rcases mem_append.1 c with c|c
  .exact m.oa z c w (by simp[d])
  grind
 .rcases mem_append.1 c with c|c
  .exact m.ob z c w d
  .rw[mem_singleton.1 c];rcases g with e|⟨f,e,h⟩
   .grind
   .subst e;have n:=pairwise_cons.1 m.sb;rcases mem_cons.1 d with rfl|d
    .exact h
    .exact xT _ _ _ h (n.1 w d)
theorem CF.done{l o a b:dl}(m:CF l o a b)(h:a=[]\/b=[]):BC l (o++a++b):=by
 refine⟨λx=>?_,by have:=m.len;simp;omega,?_⟩
 .rw[<-m.mem x];grind
 .rcases h with rfl|rfl
  .rw[append_nil,pairwise_append];exact⟨m.so,m.sb,m.ob⟩
  .rw[append_nil,pairwise_append];exact⟨m.so,m.sa,m.oa⟩
theorem Vb:∀N,di 200 (Tf N)
 |0=>by
  refine eC (fn:=Tryz.f200) (c:=cL Tryz.f200) func200 rfl bz ?_;rintro a' m h K ⟨s,l,rfl,_,hN,_⟩;omega
 |N+1=>by
  refine gO func200 ?_;rintro a' m h K ⟨s,l,rfl,P,hN,hl,hK⟩;refine⟨aQJ N s m,rfl,aD xR (aD (Vb N) aF),QY N s m h K,bu,?_⟩;dsimp only[QY,push_cast];have Q:=aZ.slen P;have a1:=Nn P;refine aE (λh2=>?_) (λh2=>?_)
  .obtain⟨us,hr,h3,h4⟩:=P.1;have a0:=P.2;refine⟨us.map eS,qF us,hr,cg,cg,λX h' le I=>hK X h' l le ⟨⟨us,I,h3,λi x e=>?_⟩,a0⟩ ⟨λx=>Iff.rfl,rfl,?_⟩⟩
   .obtain⟨u,e1,e2⟩:=h4 i x e;exact⟨u,e1,bI.mono e2 le⟩
   .match l,Q with
    |[],_=>simp
    |[x],_=>simp
    |x::y::r,Q=>grind
  .obtain⟨n,hn⟩:∃n,n=l.length/2:=⟨_,rfl⟩
   have hw:IntKind.i64.wrap ((s.len:Int).tdiv 2)=((n:Nat):Int):=by
    rw[Int.tdiv_eq_ediv_of_nonneg aC,Q];have:((l.length:Int)/2)=((n:Nat):Int):=by omega
    rw[this];exact dR aC aC
   rw[hw];have R:∀{T},PH.le h T->Rows T s l:=fun{T} le=>aZ.mono P le λr t Y=>bI.mono Y le;refine⟨λz=>∃f g,PH.le h z.2.2/\Rows z.2.2 z.1 f/\Rows z.2.2 z.2.1 g/\BC (l.take n) f/\BC (l.drop n) g,?_,?_⟩
   .repeat' first
     |refine And.intro ?_ ?_
     |exact fun(e:(2:Int)=0)=>absurd e bz
     |omega
     |refine fun(d:Sl)(j:tA 1 _ _ d)=>?_
     |refine⟨⟨s.a,n,s.cap⟩,l.take n,rfl,(by first|exact PN P aC|exact PN (R Z) aC),by rw[length_take];omega,by rw[length_take];omega,λU ha f l1 C pa=>?_⟩
     |refine⟨d,l.drop n,rfl,(by first|exact FN P j aC|exact FN (R l1) j aC),by rw[length_drop];omega,by rw[length_drop];omega,λV hb g Z D pb=>?_⟩
     |exact⟨(U,V,hb),⟨f,g,l1.trans Z,aZ.mono C Z λr t Y=>bI.mono Y Z,D,pa,pb⟩,MT⟩
     |exact⟨(U,V,ha),⟨f,g,Z.trans l1,C,aZ.mono D l1 λr t Y=>bI.mono Y l1,pa,pb⟩,MT⟩
     |fail
   .rintro⟨a,b,T⟩ ⟨f,g,lex,C,D,U,V⟩;dsimp only at lex C D⊢
    have start:CF l [] f g:=⟨λx=>by rw[U.mem,V.mem];simp only[not_mem_nil,false_or];rw[<-mem_append,take_append_drop],by have h1:=U.len;have h2:=V.len;grind,bx,U.srt,V.srt,bx,bx⟩
    refine⟨aC,aC,aC,aC,λz=>∃o f g,PH.le T z.2.2.2/\Rows z.2.2.2 z.1 f/\Rows z.2.2.2 z.2.1 g/\dT z.2.2.2 z.2.2.1 o/\CF l o f g,λz=>z.1.len+z.2.1.len,⟨(a,b,[],T),⟨[],f,g,.refl _,C,D,dT.nil T,start⟩,MT⟩,?_⟩;clear start U V C D f g;rintro⟨a,b,us,E⟩ ⟨o,f,g,J,C,D,ru,M⟩;dsimp only at J C D ru⊢
    have a2:=aZ.slen C;have a3:=aZ.slen D;have a4:=Nn C;have a5:=Nn D;have a6:=ru.len;have a9:=M.len
    have fin:f=[]\/g=[]->∃W,cT 1 W/\bN E ⟨a.a,a.len,a.cap⟩ 1 W/\((us.map eS).length+W.length)*24<=140737488355328/\(us.map eS).length+W.length<=140737488355328/\∃F,cT 1 F/\bN E ⟨b.a,b.len,b.cap⟩ 1 F/\((us.map eS++W).length+F.length)*24<=140737488355328/\(us.map eS++W).length+F.length<=140737488355328/\∀X h',PH.le E h'->bN h' X 1 (us.map eS++W++F)->K (cS X) m h':=λhe=>by
     obtain⟨⟨ua,q1,q2,q3⟩,q4⟩:=C;obtain⟨⟨ub,p1,p2,p3⟩,p4⟩:=D;refine⟨ua.map eS,qF ua,q1,ce,ce,ub.map eS,qF ub,p1,ce,ce,λX h' le I=>?_⟩;rw[<-cv, <-cv]at I;have A:dT E ua f:=⟨q2.symm,q3⟩
     have B:dT E ub g:=⟨p2.symm,p3⟩
     have S:=M.done he;exact hK X h' _ (lex.trans (J.trans le)) ((((ru.app A).app B).mono le).rows I cg) S
    refine aE (λh1=>aE (λh2=>?_) (λh2=>?_)) (λh1=>?_)
    .obtain⟨x,L,rfl⟩:∃x r,f=x::r:=by
      cases f with
      |nil=>grind
      |cons x r=>grind
     obtain⟨y,O,rfl⟩:∃x r,g=x::r:=by
      cases g with
      |nil=>grind
      |cons x r=>grind
     obtain⟨b1,o1,ux,e1,G,v1⟩:=aZ.at C (i:=0) rfl;obtain⟨b2,o2,uy,e2,H,v2⟩:=aZ.at D (i:=0) rfl;have G:bB E b1 (o1+0) [fF ux]:=by simpa[eS]using G
     have H:bB E b2 (o2+0) [fF uy]:=by simpa[eS]using H
     have big:((us.map eS).length+1)*24<=140737488355328/\(us.map eS).length<140737488355328:=by
      grind
     refine⟨b1,o1,e1,aC,aC,ux,.imm G,b2,o2,e2,aC,aC,uy,.imm H,ux,uy,x,y,rfl,v1,v2,aE (λh3=>⟨b1,o1,e1,aC,aC,ux,.imm G,?_⟩) (λh3=>⟨b2,o2,e2,aC,aC,uy,.imm H,?_⟩)⟩
     .have nx:∀d,tA 1 ⟨a.a,a.len,a.cap⟩ 1 d->Rows E d L/\d.len+b.len<a.len+b.len:=λd j=>⟨FN C j bx,by have:=j.len;grind⟩
      have M2:=M.left (.inr ⟨O,rfl,h3⟩)
      repeat' first
       |refine And.intro ?_ ?_
       |exact big.1
       |exact big.2
       |exact G
       |omega
       |refine fun(d:Sl)(j:tA 1 _ _ d)=>?_
       |exact⟨(d,b,us++[ux],E),⟨o++[x],L,y::O,J,(nx d j).1,D,ru.snoc v1,M2⟩,(nx d j).2,by rw[cv];exact MT⟩
       |fail
     .have nx:∀d,tA 1 ⟨b.a,b.len,b.cap⟩ 1 d->Rows E d O/\a.len+d.len<a.len+b.len:=λd j=>⟨FN D j bx,by have:=j.len;grind⟩
      have M2:=(M.swap.left (.inr ⟨L,rfl,by have:=lJ x y;omega⟩)).swap
      repeat' first
       |refine And.intro ?_ ?_
       |exact big.1
       |exact big.2
       |exact H
       |omega
       |refine fun(d:Sl)(j:tA 1 _ _ d)=>?_
       |exact⟨(a,d,us++[uy],E),⟨o++[y],x::L,O,J,C,(nx d j).1,ru.snoc v2,M2⟩,(nx d j).2,by rw[cv];exact MT⟩
       |fail
    .exact fin (.inr (eq_nil_of_length_eq_zero aC))
    .exact fin (.inl (eq_nil_of_length_eq_zero aC))
structure b0Z(k o:dl)(i:Nat):Prop where
 mem:∀x,x∈o↔x∈k.take i
 srt:oK o
 len:o.length<=i
theorem Hy:di 132 ZD:=by
 refine gO func132 ?_;rintro a2 m h K ⟨s,l,rfl,hs,hl,hr,hK⟩;refine⟨aXQ m,rfl,aD xR (aD ae (aD (Vb 8000001) aF)),Ru s m h K,bu,?_⟩;dsimp only[Ru,push_cast];refine⟨s,l,rfl,hs,aC,hl,λt A k L rk S=>?_⟩;have M:=aZ.slen rk;have a3:=S.len;refine⟨λz=>z.1<=k.length/\z.2.1=t/\PH.le A z.2.2.2/\∃o,dT z.2.2.2 z.2.2.1 o/\b0Z k o z.1,λz=>k.length-z.1,⟨(0,t,[],A),⟨bx,rfl,.refl _,[],dT.nil A,⟨bx,List.Pairwise.nil,bx⟩⟩,MT⟩,?_⟩;rintro⟨i,O,us,hx⟩ ⟨hi,e,lex,o,F,D⟩;dsimp only at hi e lex F D⊢
 subst e;have a4:=F.len;have a5:=D.len;refine aE (λP=>?_) (λa6=>?_)
 .obtain⟨x,c⟩:=eN M P;obtain⟨b,off,u,ea,rd,G⟩:=aZ.at rk c;have G:=bI.mono G lex;have H:x.length<=1000:=hr x ((S.mem x).1 (cr c));have B:=(cn c);have tk:k.take (i+1)=k.take i++[x]:=by rw[db,c];rfl
  have d:∀y∈k.take i,eJ y x<=0:=λy Q=>by
   have hp:=S.srt;rw[<-take_append_drop i k,pairwise_append]at hp;refine hp.2.2 y Q x ?_;obtain⟨R,e⟩:=List.getElem?_eq_some_iff.1 c;rw[drop_eq_getElem_cons R,e];simp
  have I:x∉o->∀g h',PH.le hx h'->bI h' g x->((us.map eS).length+1)*24<=140737488355328/\(us.map eS).length<140737488355328/\∃z:Nat×Sl×dq×PH,(z.1<=k.length/\z.2.1=O/\PH.le A z.2.2.2/\∃o,dT z.2.2.2 z.2.2.1 o/\b0Z k o z.1)/\k.length-z.1<k.length-i/\z=(i+1,O,us++[g],h'):=λJ g h' le f=>by
   refine⟨cg,cg,_,⟨aC,rfl,lex.trans le,o++[x],(F.mono le).snoc f,⟨λy=>?_,?_,ce⟩⟩,aC,rfl⟩
   .rw[tk,mem_append,mem_append,D.mem y]
   .refine pairwise_append.2 ⟨D.srt,bx,λy Q z hz=>?_⟩;rw[mem_singleton.1 hz];have A:=d y ((D.mem y).1 Q);rcases Int.lt_or_eq_of_le A with h|h
    .exact h
    .rw[i7]at h
     grind
  have hw:IntKind.i64.wrap ((i:Int)+1)=((i+1:Nat):Int):=fP aC;rw[hw];have a9:i<k.length:=B;refine⟨b,off,ea,aC,aC,u,.imm (rd.mono lex),aB (λC=>⟨u,x,rfl,G,H,λg h' le f=>?_⟩) (λC=>?_)⟩
  .have C:=eq_of_beq C;rw[length_map]at C;have:o=[]:=eq_nil_of_length_eq_zero aC;obtain⟨T,U,z,V,W,rfl⟩:=I cg g h' le f;exact⟨T,U,_,V,W,by rw[cv];exact MT⟩
  .have C:=ne_of_beq_false C;rw[length_map]at C;have a1:0<o.length:=by omega
   have X:IntKind.i64.wrap (((us.map eS).length:Int)-1)=((o.length-1:Nat):Int):=by
    rw[length_map,show((us.length:Int)-1)=((o.length-1:Nat):Int)by omega];exact dR aC aC
   rw[X];have E:o[o.length-1]? =some (o[o.length-1]'(by omega)):=cq _;obtain⟨Y,b',Z⟩:=F.at E;refine⟨aC,cg,eS Y,cg,Y,rfl,Y,u,_,x,rfl,Z,G,aB (λe1=>⟨u,x,rfl,G,H,λg h' le f=>?_⟩) (λe1=>?_)⟩
   .have J:x∉o:=λhm=>by
     have A:=d _ ((D.mem _).1 (getElem_mem (l:=o) (n:=o.length-1) aC));obtain⟨j,R,e⟩:=mem_iff_getElem.1 hm;by_cases a':j=o.length-1
     .subst a';rw[e,i7.2 rfl]at e1;simp at e1
     .have h2:=pairwise_iff_getElem.1 D.srt j (o.length-1) R aC aC;rw[e]at h2;have:=lJ x (o[o.length-1]'(by omega));omega
    obtain⟨T,U,z,V,W,rfl⟩:=I J g h' le f;exact⟨T,U,_,V,W,by rw[cv];exact MT⟩
   .have hz:o[o.length-1]'(by omega)=x:=by
     have:eJ (o[o.length-1]'(by omega)) x=0:=cg
     exact i7.1 this
    refine⟨(i+1,O,us,hx),⟨aC,rfl,lex,o,F,⟨λy=>?_,D.srt,aC⟩⟩,aC,MT⟩;rw[tk,mem_append,mem_singleton, <-D.mem y]
    grind
 .intro g h' le a0;have B:i=k.length:=by omega
  subst B;have e:o=uR l:=He D.srt (BJ l) λx=>by rw[D.mem x,take_length,S.mem x,EU]
  exact hK g h' (L.trans (lex.trans le)) (by rw[<-e];exact(F.mono le).rows a0 aC)
variable{cN:Nat}
theorem bRQ{ls:List Rel}{op:Int}{on:dp}{a:Query}{k:Nat}(h:op≠1):(eD ls (.mk op ta w co on gr od li [a]) k).1=Uf op (.mk op ta w co on gr od li [a]) [(eD ls a k).1]:=by
 rw[eD,if_neg h,eG,eG]
theorem bQJ{ls:List Rel}{op:Int}{on:dp}{a b:Query}{k:Nat}(h:op≠1):(eD ls (.mk op ta w co on gr od li [a,b]) k).1=Uf op (.mk op ta w co on gr od li [a,b]) [(eD ls a k).1,(eD ls b (eD ls a k).2).1]:=by
 rw[eD,if_neg h,eG,eG,eG]
section
variable{ta:Int}{w:Pred}{co:dm}{on:dp}{gr:dm}{od:dr}{li:Int}{zs:dt}{A B:Rel}{x:dn}
end
theorem rI.cases{op:Int}{on:dp}{args:dt}(g:rI cN s (.mk op ta w co on gr od li args)):
 (op=1/\args=[])\/(∃a,args=[a]/\rI cN s a/\(op=2\/op=3\/op=9))\/(∃a b,args=[a,b]/\rI cN s a/\rI cN s b/\(op=4\/op=5\/op=6\/op=7\/op=8\/op=10)):=by
 obtain⟨n,e,c,f⟩:=g.node;have d:op=1\/(op=2\/op=3\/op=9)\/(op=4\/op=5\/op=6\/op=7\/op=8\/op=10):=by omega
 rcases d with rfl|h|h
 .exact .inl ⟨rfl,eq_nil_of_length_eq_zero (by have:arity 1=0:=rfl;omega)⟩
 .obtain⟨a,rfl⟩:=bhJ (l:=args) (by rw[c];rcases h with rfl|rfl|rfl<;>rfl)
  grind
 .obtain⟨a,b,rfl⟩:=awQ (l:=args) (by rw[c];rcases h with rfl|rfl|rfl|rfl|rfl|rfl<;>rfl)
  grind
theorem PK{op ta:Int}{w:Pred}{co:dm}{on:dp}{gr:dm}{od:dr}{li:Int}{a:Query}(h:op≠1):eE (.mk op ta w co on gr od li [a])=eE a:=by
 simp[eE,dV,h]
theorem PJ{op ta:Int}{w:Pred}{co:dm}{on:dp}{gr:dm}{od:dr}{li:Int}{a b:Query}(h:op≠1):eE (.mk op ta w co on gr od li [a,b])=eE a++eE b:=by
 simp[eE,dV,h]
theorem Cf{s:oL}{ls:List Rel}:∀(q:Query)(k:Nat),rI cN s q->(eD ls q k).2=k+(eE q).length
 |.mk op ta w co on gr od li args,k,g=>by
  rcases g.cases with⟨rfl,rfl⟩|⟨a,rfl,d,h⟩|⟨a,b,rfl,d,e,h⟩
  .rw[eD,if_pos rfl];simp[eE,dV]
  .have c:op≠1:=by omega
   rw[eD,if_neg c,eG,eG,PK c];exact Cf a k d
  .have c:op≠1:=by omega
   rw[eD,if_neg c,eG,eG,eG,PJ c,ct];dsimp only;rw[Cf b _ e,Cf a k d];omega
variable{cN:Nat}
variable{cN:Nat}
variable{cN:Nat}
variable{cN:Nat}
theorem Wv{st:List Rel}{j:Nat}{t:Int}(h:(eE q)[j]? =some t):(mM st q)[j]? =some (st.getD t.toNat []):=by
 rw[mM,getElem?_map,h];rfl
def Z4:Vc.Spec:=λd m h K=>∃s t r c,d=[cS s,cS t]/\bI h s r/\Ints h t c/\gP r.length c/\∀e h',PH.le h h'->bI h' e (pick r c)->K (cS e) m h'
def Tu:Vc.Spec:=λd m h K=>∃o s t on a b c,d=[cS o,cS s,cS t,cB c]/\lE h o on/\bI h s a/\bI h t b/\gP a.length (fZ on)/\gP b.length (fU on)/\K (cB (agree on a b&&(!c||kB (fZ on) a))) m h
def V2:Vc.Spec:=λc m h K=>∃g s t gr a b,c=[cS g,cS s,cS t]/\Ints h g gr/\bI h s a/\bI h t b/\gP a.length gr/\gP b.length gr/\K (cB (rM gr a b)) m h
def a5X:Vc.Spec:=λc m h K=>∃o s t on a b,c=[cS o,cS s,cS t]/\lE h o on/\Rows h s a/\Rows h t b/\(∀x∈a,gP x.length (fZ on))/\(∀y∈b,gP y.length (fU on))/\a.length<=8000000/\b.length<=8000000/\∀d h',PH.le h h'->Rows h' d (a.filter λx=>b.any λy=>agree on x y)->K (cS d) m h'
def VW:Vc.Spec:=λc m h K=>∃v s t gr od a b,c=[aQ v,cS s,cS t]/\Ints h v.group gr/\jU h v.order od/\Rows h s a/\Rows h t b/\(∀x∈a,gP x.length gr)/\(∀y∈b,gP y.length gr)/\a.length<=8000000/\b.length<=8000000/\∀d h',PH.le h h'->Rows h' d (tL gr od v.limit a b)->K (cS d) m h'
def RU:Vc.Spec:=λd m h K=>∃s t l c,d=[cS s,cS t]/\Rows h s l/\Ints h t c/\(∀r∈l,gP r.length c)/\c.length<=1000/\l.length<=8000000/\∀e h',PH.le h h'->Rows h' e (uR (l.map λr=>pick r c))->K (cS e) m h'
noncomputable def aOJ(s t:Sl)(m:MH)(h:PH):Ctx:=dG [] [(3,{A:=Nat×dn,st:=λ⟨i,r⟩=>bK 24 26 [(0,sv s),(5,.at (.lst 8)),(9,sv t),(10,iv t.len),(11,iv i)] [(8,.lst 27 3 (r.map VV.enc))] m h})] [] [] false
noncomputable def aQQ(o s t:Sl)(b:Bool)(m:MH)(h:PH):Ctx:=dG [(259,LY)] [(2,{A:=Nat,st:=λi=>bK 41 45 [(1,sv s),(2,sv t),(3,bv b),(11,sv o),(12,iv o.len),(13,iv i)] [] m h})] [] [] false
noncomputable def aLJ(g s t:Sl)(m:MH)(h:PH):Ctx:=
 dG [] [(2,{A:=Nat,st:=λi=>bK 25 28 [(1,sv s),(2,sv t),(9,sv g),(10,iv g.len),(11,iv i)] [] m h})] [] [] false
noncomputable def aLZ(o s t:Sl)(m:MH)(h:PH):Ctx:=
 dG [(109,LZ),(65,C4)] [(2,{A:=Nat,st:=λi=>bK 55 58 [(1,sv s),(2,sv t),(10,sv o),(11,iv o.len),(12,iv i)] [] m h})] [] [] false
noncomputable def aPJ(o s t:Sl)(m:MH)(h:PH):Ctx:=dG [(203,Tu)] [(3,{A:=Nat×dq,st:=λ⟨i,us⟩=>bK 35 38 [(0,sv o),(2,sv t),(7,.at (.lst 31)),(12,sv s),(13,iv s.len),(14,iv i)] [(31,.lst 94 1 (us.map eS))] m h}),
 (6,{A:=Nat×Sl×Nat×dq,st:=λ⟨j,x,i,us⟩=>bK 35 38 [(0,sv o),(2,sv t),(7,.at (.lst 31)),(9,sv x),(12,sv s),(13,iv s.len),(14,iv i),(18,sv t),(19,iv t.len),(20,iv j)] [(31,.lst 94 1 (us.map eS))] m h})] [] [] false
noncomputable def aPX(v:QV)(s t:Sl)(m:MH)(h:PH):Ctx:=dG [(260,V2),(261,C3)] [(3,{A:=Nat×dq,st:=λ⟨i,us⟩=>bK 57 60 [(2,sv t),(3,.at (.ptr 3 0)),(7,.at (.lst 54)),(13,sv s),(14,iv s.len),(15,iv i)] [(3,.cells 38 (v.enc.map .val)),(54,.lst 94 1 (us.map eS))] m h}),
 (7,{A:=Nat×Nat×Sl×Nat×dq,st:=λ⟨j,n,x,i,us⟩=>bK 57 60 [(2,sv t),(3,.at (.ptr 3 0)),(7,.at (.lst 54)),(9,sv x),(10,iv n),(13,sv s),(14,iv s.len),(15,iv i),(19,sv t),(20,iv t.len),(21,iv j)] [(3,.cells 38 (v.enc.map .val)),(54,.lst 94 1 (us.map eS))] m h})] [] [] false
noncomputable def aQX(s t:Sl)(m:MH):Ctx:=dG [(210,Z4),(132,ZD)] [(3,{A:=Nat×dq×PH,st:=λ⟨i,us,h⟩=>bK 23 25 [(1,sv t),(5,.at (.lst 19)),(8,sv s),(9,iv s.len),(10,iv i)] [(19,.lst 94 1 (us.map eS))] m h})] [] [] false
def QL(s t:Sl)(m:MH)(h:PH)(K:dk):Prop:=
  ∃(I:Nat×dn->Prop)(d:Nat×dn->Nat),(∃(x:Nat×dn),aA (I x) (aG s) (aA (eL 8) (aG t) (aA (a7 t) (aY x.1) (aA (kN 27 3 (cD 27 3 (j6 x.2))) (m=m) (bH h h)))))/\∀(x:Nat×dn),I x->aR (↑x.1:Int) (aH t) (eU t.a 0 (↑x.1:Int) t (λb o y=>aK m h b (bC o x.1 1) (cO y)/\bT (λe f=>aA (bX s.a e f) (0<=y) (y<aH s/\∃(g:VV),aA (aK m h e (cF f y 3) g.enc) (gS (jX (j6 x.2) 1*32)) (dH (j6 x.2)/\∃(c:Nat×dn),aA (I c) (d c<d x) (aA (aG s) (eL 8) (aA (aG t) (a7 t) (aA (aU (aW x.1 1) c.1) (cD 27 3 (dY (j6 x.2) g.enc)=cD 27 3 (j6 c.2)) (bE (m=m) h h))))))))) (bU h 3 (j6 x.2) (λj n=>K (fD j) m n))
def QT(o s t:Sl)(b:Bool)(m:MH)(h:PH)(K:dk):Prop:=
  kX (λI x=>aA (I x) (aG s) (aA (aG t) (eQ (sQb b)) (aA (aG o) (a7 o) (aA (aY x) (m=m) (bH h h))))) (λI z x=>I x->aR (↑x:Int) (aH o) (bT (λC D=>aA (bX o.a C D) (0<=(↑x:Int)) ((↑x:Int)<aH o/\∃(y:Int×Int),aA (aK m h C (bC D x 2) (wO y)) ((0:Int)<=0) ((0:Int)<2/\bT (λd e=>aA (bX s.a d e) (0<=y.1) (y.1<aH s/\∃(f:VV),aA (aK m h d (cF e y.1 3) f.enc) ((0:Int)<=1) ((1:Int)<2/\bT (λg j=>aA (bX t.a g j) (0<=y.2) (y.2<aH t/\∃(n:VV),aK m h g (cF j y.2 3) n.enc/\∃(r:Bool),mK 27 f.enc n.enc r/\cH (!r) (aA (bB h d (cF e y.1 3) f.enc) (bB h g (cF j y.2 3) n.enc) (K aX m h)) b (aA (cC 0) ((0:Int)<2) (bT (λE F=>aA (bX s.a E F) (0<=
 y.1) (y.1<aH s/\∃(G:VV),aA (aK m h E (cF F y.1 3) G.enc) (bB h d (cF e y.1 3) f.enc) (bB h g (cF j y.2 3) n.enc/\∃(v:VV),uJ G v/\gR (!(jF v)) (K aX m h) (λc=>aA (I c) (z c<z x) (aA (aG s) (aG t) (aA (eQ (sQb b)) (aG o) (aA (a7 o) (aU (aW x 1) c) (bE (m=m) h h)))))))))) (aA (bB h d (cF e y.1 3) f.enc) (bB h g (cF j y.2 3) n.enc) (∃(c:Nat),aA (I c) (z c<z x) (aA (aG s) (aG t) (aA (eQ (sQb b)) (aG o) (aA (a7 o) (aU (aW x 1) c) (bE (m=m) h h))))))))))))))) (K eW m h))
def Qw(g s t:Sl)(m:MH)(h:PH)(K:dk):Prop:=
  kX (λI x=>aA (I x) (aG s) (aA (aG t) (aG g) (aA (a7 g) (aY x) (aA (m=m) (h=h) True)))) (λI d x=>I x->aR (↑x:Int) (aH g) (eU g.a 0 (↑x:Int) g (λb o y=>aK m h b (bC o x 1) (cO y)/\bT (λe f=>aA (bX s.a e f) (0<=y) (y<aH s/\∃(j:VV),aK m h e (cF f y 3) j.enc/\bT (λn z=>aA (bX t.a n z) (0<=y) (y<aH t/\∃(C:VV),aK m h n (cF z y 3) C.enc/\∃(r:Bool),mK 27 j.enc C.enc r/\gR (!r) (K aX m h) (λc=>aA (I c) (d c<d x) (aA (aG s) (aG t) (aA (aG g) (a7 g) (aA (aU (aW x 1) c) (m=m) (bH h h))))))))))) (K eW m h))
def Qv(o s t:Sl)(m:MH)(h:PH)(K:dk):Prop:=
  kX (λI x=>aA (I x) (aG s) (aA (aG t) (aG o) (aA (a7 o) (aY x) (aA (m=m) (h=h) True)))) (λI d x=>I x->aR (↑x:Int) (aH o) (bT (λb f=>aA (bX o.a b f) (0<=(↑x:Int)) ((↑x:Int)<aH o/\∃(y:Int×Bool),aK m h b (bC f x 2) (AS y)/\aR y.1 0 (∃(c:Nat),aA (I c) (d c<d x) (aA (aG s) (aG t) (aA (aG o) (a7 o) (aA (aU (aW x 1) c) (m=m) (bH h h))))) (cH (decide (y.1>=aH s)) (∃(c:Nat),aA (I c) (d c<d x) (aA (aG s) (aG t) (aA (aG o) (a7 o) (aA (aU (aW x 1) c) (m=m) (bH h h))))) (decide (y.1>=aH t)) (∃(c:Nat),aA (I c) (d c<d x) (aA (aG s) (aG t) (aA (aG o) (a7 o) (aA (aU (aW x 1) c) (m=m) (bH h h))))) (bT (λg j=>aA (bX s.a g j) (0<=y.1) (y.1<aH
 s/\∃(n:VV),aK m h g (cF j y.1 3) n.enc/\bT (λz C=>aA (bX t.a z C) (0<=y.1) (y.1<aH t/\∃(D:VV),aK m h z (cF C y.1 3) D.enc/\E7 (λa e=>bJ (fT n) (fT D)=bJ (fT a) (fT e)/\cH y.2 (gR (iJ (0-jL a e) !=0) (K (fQ (iJ (0-jL a e))) m h) (λc=>aA (I c) (d c<d x) (aA (aG s) (aG t) (aA (aG o) (a7 o) (aA (aU (aW x 1) c) (m=m) (bH h h)))))) (jL a e !=0) (K (fQ (jL a e)) m h) (∃(c:Nat),aA (I c) (d c<d x) (aA (aG s) (aG t) (aA (aG o) (a7 o) (aA (aU (aW x 1) c) (m=m) (bH h h))))))))))))))) (AD s t h (λa b=>K (fQ (eJ a b)) m h)))
noncomputable abbrev mH(a:Nat×Sl×Nat×dq):Nat×dq:=a.2.2
attribute [push_cast] mH
def QR(o s t:Sl)(m:MH)(h:PH)(K:dk):Prop:=
  IH (λI x=>aA (I x) (aG o) (aA (aG t) (eL 31) (aA (aG s) (a7 s) (aA (aY x.1) (kN 94 1 (pA x.2)) (bE (m=m) h h))))) s m h (λI f x y=>∃(I1:Nat×Sl×Nat×dq->Prop)(j:Nat×Sl×Nat×dq->Nat),(∃(c:Nat×Sl×Nat×dq),aA (I1 c) (aG o) (aA (aG t) (eL 31) (aA (bF y c.2.1) (aG s) (aA (a7 s) (bO x.1 (mH c).1) (aA (aG t) (a7 t) (aA (aY c.1) (AW x (mH c)) (bE (m=m) h h)))))))/\∀(c:Nat×Sl×Nat×dq),I1 c->aR (↑c.1:Int) (aH t) (cK t.a (↑c.1:Int) t (λb E n=>aK m h b (bC E c.1 1) (aM n)/\kQ (λz C=>E9 (λD e=>NK (λa g=>∃(r:Bool),aA (fD o::fD c.2.1::dW n aX=fD z::fD C::dW D (zU r)) (lE h z e) (aA (bI h C a) (bI h D g)
 (aA (lW a (fZ e)) (lW g (fU e)) (branch (Bool.and (agree e a g) (Bool.or (!r) (kB (fZ e) a))) (I7 (mH c) (λd=>aA (I d) (f d<f x) (aA (aG o) (aG t) (aA (eL 31) (aG s) (aA (a7 s) (aU (aW (mH c).1 1) d.1) (bG (I6 (mH c) c.2.1 d) (m=m) (h=h))))))) (∃(d:Nat×Sl×Nat×dq),aA (I1 d) (j d<j c) (aA (aG o) (aG t) (aA (eL 31) (bF c.2.1 d.2.1) (aA (aG s) (a7 s) (aA (bO (mH c).1 (mH d).1) (aG t) (aA (a7 t) (aU (aW c.1 1) d.1) (bG (AW (mH c) (mH d)) (m=m) (h=h)))))))))))))))) (∃(d:Nat×dq),aA (I d) (f d<f x) (aA (aG o) (aG t) (aA (eL 31) (aG s) (aA (a7 s) (aU (aW (mH c).1 1) d.1) (bG (AW (mH c) d) (m=m) (h=h))))))) (λx=>oB h
 (j7 x.2) K m)
abbrev IF(a:Nat×Nat×Sl×Nat×dq->Prop)(b:Nat×Nat×Sl×Nat×dq->Nat)(c:Nat×Nat×Sl×Nat×dq)(d:Sl)(e:(Nat×Nat×Sl×Nat×dq)->Prop)(g:Sl)(i:(Nat×Nat×Sl×Nat×dq)->Prop):Prop:=∃(x:Nat×Nat×Sl×Nat×dq),aA (a x) (b x<b c) (aA (aG d) cA (aA (eL 54) (bF c.2.2.1 x.2.2.1) (aA (e x) (aG g) (i x))))
abbrev I0(a:Sl)(b c:Nat×Nat×Sl×Nat×dq)(d:Sl)(e:QV)(g:MH)(i:PH):Prop:=aA (a7 a) (bO (mH b.2).1 (mH c.2).1) (aA (aG d) (a7 d) (aA (aU (aW b.1 1) c.1) (cG e) (aA (AW (mH b.2) (mH c.2)) (g=g) (bH i i))))
attribute [push_cast] IF I0
def QP(v:QV)(s t:Sl)(m:MH)(h:PH)(K:dk):Prop:=
  IH (λI x=>aA (I x) (aG t) (aA cA (eL 54) (aA (aG s) (a7 s) (aA (aY x.1) (cG v) (bG (kN 94 1 (pA x.2)) (m=m) (h=h)))))) s m h (λI e x y=>∃(I1:Nat×Nat×Sl×Nat×dq->Prop)(f:Nat×Nat×Sl×Nat×dq->Nat),(∃(c:Nat×Nat×Sl×Nat×dq),aA (I1 c) (aG t) (aA cA (eL 54) (aA (bF y c.2.2.1) (aY c.2.1) (aA (aG s) (a7 s) (aA (bO x.1 (mH c.2).1) (aG t) (aA (a7 t) (aY c.1) (aA (cG v) (AW x (mH c.2)) (aA (m=m) (h=h) True))))))))/\∀(c:Nat×Nat×Sl×Nat×dq),I1 c->aR (↑c.1:Int) (aH t) (cK t.a (↑c.1:Int) t (λb o n=>aK m h b (bC o c.1 1) (aM n)/\aR (↑c.2.1:Int) v.limit (kQ (λg C=>Cx (λD j=>NK (λa z=>aA (fD v.group::dW c.2.2.1 (fD n)
 =fD g::dW C (fD D)) (Ints h g j) (aA (bI h C a) (bI h D z) (aA (lW a j) (lW z j) (branch (rM j a z) (IE v.order n c.2.2.1 h (λE F G=>aR (iZ E F G) 0 (IF I1 f c t (λd=>aU (aW c.2.1 1) d.2.1) s (λd=>I0 s c d t v m h)) (IF I1 f c t (λd=>bO c.2.1 d.2.1) s (λd=>I0 s c d t v m h)))) (IF I1 f c t (λd=>bO c.2.1 d.2.1) s (λd=>I0 s c d t v m h))))))))) (IF I1 f c t (λd=>bO c.2.1 d.2.1) s (λd=>I0 s c d t v m h)))) (aR (↑c.2.1:Int) v.limit (I7 (mH c.2) (λd=>aA (I d) (e d<e x) (aA (aG t) cA (aA (eL 54) (aG s) (aA (a7 s) (aU (aW (mH c.2).1 1) d.1) (Aa (cG v) (I6 (mH c.2) c.2.2.1 d) (m=m) h h)))))) (∃(d:Nat×dq),aA (I
 d) (e d<e x) (aA (aG t) cA (aA (eL 54) (aG s) (aA (a7 s) (aU (aW (mH c.2).1 1) d.1) (Aa (cG v) (AW (mH c.2) d) (m=m) h h))))))) (λx=>oB h (j7 x.2) K m)
abbrev yG(a:Sl)(b:PH)(c:dk)(d:MH):Prop:=Fe (λx e=>aA (jZ a=jZ x) (Rows b x e) (aA (tG e) (∀(f:dn),List.Mem f e->rY f) (qP b (uR e) c d)))
attribute [push_cast] yG
def QU(s t:Sl)(m:MH)(h:PH)(K:dk):Prop:=
  I8 (λI x=>aA (I x) (aG t) (aA (eL 19) (aG s) (aA (a7 s) (aY x.1) (aA (kN 94 1 (uX x.2)) (m=m) (bH h (fI x)))))) (λI g x=>I x->aR (↑x.1:Int) (aH s) (cK s.a (↑x.1:Int) s (λb o y=>aK m (fI x) b (bC o x.1 1) (aM y)/\∃(f:Sl),Br (λj r c=>aA (fN y t=fN f j) (bI (fI x) f r) (aA (Ints (fI x) j c) (lW r c) (jT (λn d=>dD (fI x) d (bI d n (pick r c)) (Mz x (λe=>aA (I e) (g e<g x) (aA (aG t) (eL 19) (aA (aG s) (a7 s) (aA (aU (aW x.1 1) e.1) (uC (pV x) n e.2) (bE (m=m) d (fI e))))))))))))) (bU (fI x) 1 (pV x) (λf d=>yG f d K m)))
theorem Wd{gr:dm}{a b:dn}{i:Nat}{c:Int}(d:gr[i]? =some c):rM (gr.take (i+1)) a b=true↔rM (gr.take i) a b=true/\a.getD c.toNat zeroV=b.getD c.toNat zeroV:=by
 rw[A5,A5,db,d,Option.toList_some];unfold pick;rw[cv,cv];constructor
 .intro h;obtain⟨e,f⟩:=append_inj h bx
  grind
 grind
theorem W2:di 260 V2:=by
 refine gO func260 ?_;rintro M m h K ⟨g,s,t,gr,a,b,rfl,o,H,I,O,P,n⟩;refine⟨aLJ g s t m h,rfl,aF,Qw g s t m h K,bu,?_⟩;dsimp only[Qw,push_cast];have z:=o.slen;have Q:=aZ.slen H;have R:=aZ.slen I;refine⟨λi=>i<=gr.length/\rM (gr.take i) a b=true,λi=>gr.length-i,⟨0,⟨aC,by rw[A5];rfl⟩,MT⟩,?_⟩;rintro i ⟨hi,f⟩;refine aE (λj=>?_) (λS=>?_)
 .obtain⟨c,d⟩:=eN z j;obtain⟨T,U,V,C⟩:=o.at' d;obtain⟨J,h2⟩:=O.at_ c (cr d);have h3:=(P.at_ c (cr d)).2;obtain⟨W,X,v,Y,D,hv⟩:=aZ.at H (i:=c.toNat) (cq aC);obtain⟨Z,o3,w,e3,E,hw⟩:=aZ.at I (i:=c.toNat) (cq aC);have ev:a.getD c.toNat zeroV=v:=cg
  have ew:b.getD c.toNat zeroV=w:=cg
  have F:=Wd (a:=a) (b:=b) d;rw[ev,ew]at F;refine⟨T,U,V,aC,j,c,.imm C,W,X,Y,J,aC,v,.imm D,Z,o3,e3,J,aC,w,.imm E,Tv v w,Eg v w,aB (λe=>?_) (λe=>?_)⟩
  .have a':¬v=w:=λe5=>by rw[Eh.2 e5]at e;cases e
   have e6:rM gr a b=false:=by
    rw[Bool.eq_false_iff];intro G;rw[A5]at G;have:=(A5 (gr:=gr.take (i+1)) (x:=a) (y:=b)).2 (by simp only[pick]at G⊢;rw[map_take,map_take,G])
    grind
   rw[e6]at n;exact n
  .have a0:v=w:=Eh.1 (cm e);have L:=o.len;rw[fP aC]
   grind
 .rw[cu aC]at f;rw[f]at n;exact n
theorem W0:di 261 C3:=by
 refine gO func261 ?_;rintro Q m h K ⟨o,s,t,od,a,b,rfl,F,G,H,g⟩;refine⟨aLZ o s t m h,rfl,aD HA (aD xR aF),Qv o s t m h K,bu,?_⟩;dsimp only[Qv,push_cast];have I:=F.slen;have R:=F.len;have S:=aZ.slen G;have T:=aZ.slen H;refine⟨λi=>i<=od.length/\iZ od a b=iZ (od.drop i) a b,λi=>od.length-i,⟨0,⟨aC,bx⟩,MT⟩,λi⟨hi,j⟩=>aE (λn=>?_) (λU=>?_)⟩
 .obtain⟨⟨c,E⟩,L⟩:=eN I n;obtain⟨V,W,X,Y⟩:=F.row.get (i:=i) (e:=pO (c,E)) (by simp[L]);rw[drop_cons L]at j
  have skip:¬(0<=c/\c<a.length/\c<b.length)->∃d:Nat,(λi=>i<=od.length/\iZ od a b=iZ (od.drop i) a b) d/\(λi=>od.length-i) d<(λi=>od.length-i) i/\eQ (YW s)/\eQ (YW t)/\eQ (YW o)/\eQ (sQi ↑o.len)/\sQi (IntKind.i64.wrap ((i:Int)+1))=sQi ↑d/\m=m/\h=h/\True:=λZ=>
   ⟨i+1,⟨aC,by rw[j,RL Z]⟩,(show od.length-(i+1)<od.length-i by omega),MT⟩
  refine⟨V,W,X,aC,n,(c,E),.imm Y,aE (λM=>skip (λe=>by omega)) (λM=>aE (λO=>skip (λe=>by omega)) (λO=>aE (λP=>skip (λe=>by omega)) (λP=>?_)))⟩;dsimp only at M O P⊢
  obtain⟨x,z⟩:∃x,a[c.toNat]? =some x:=⟨_,cq aC⟩
  obtain⟨y,C⟩:∃y,b[c.toNat]? =some y:=⟨_,cq aC⟩
  obtain⟨b2,o2,u,e2,r2,rfl⟩:=aZ.at G z;obtain⟨b3,o3,u,e3,r3,rfl⟩:=aZ.at H C;rw[Zv aC z C]at j;have a':=OL x y;have J:IntKind.i64.wrap (0-jL x y)= -jL x y:=by rw[dR aC aC,Int.zero_sub]
  refine⟨b2,o2,e2,aC,aC,x,.imm r2,b3,o3,e3,aC,aC,y,.imm r3,x,y,rfl,?_⟩;rw[J];refine aB (λf=>aB (λD=>?_) (λD=>?_)) (λf=>aB (λD=>?_) (λD=>?_))
  .have f:E=true:=f;have h6:jL x y≠0:=λe=>cg
   rw[j,if_pos h6,if_pos f]at g;exact g
  .have D:jL x y=0:=cg
   exact⟨i+1,⟨aC,aC⟩,(show od.length-(i+1)<od.length-i by omega),MT⟩
  .have f:E=false:=f;rw[j,if_pos cg,if_neg (by simp[f])]at g;exact g
  .have D:jL x y=0:=cg
   exact⟨i+1,⟨aC,aC⟩,(show od.length-(i+1)<od.length-i by omega),MT⟩
 .rw[j,drop_eq_nil_of_le aC,iZ]at g;exact⟨s,t,a,b,rfl,G,H,g⟩
theorem Py{s:Sl}{l:dn}(c:bN h s 3 (l.map VV.enc))(d:l.length<=502633886983):bI h s l:=⟨⟨l,c,rfl,λi x e=>⟨x,e,rfl⟩⟩,d⟩
theorem XD:di 210 Z4:=by
 refine gO func210 ?_;rintro G m h K ⟨s,t,r,d,rfl,D,E,F,H⟩;refine⟨aOJ s t m h,rfl,aF,QL s t m h K,bu,?_⟩;dsimp only[QL,push_cast];have j:=E.slen;have I:=aZ.slen D;have J:=F.len;have n:∀k,(pick r (d.take k)).length<=d.length:=λk=>by simp[pick];omega
 refine⟨λz=>z.1<=d.length/\z.2=pick r (d.take z.1),λz=>d.length-z.1,⟨(0,[]),⟨bx,rfl⟩,MT⟩,?_⟩;rintro⟨i,l⟩ ⟨L,e⟩;dsimp only at L e;subst e;dsimp only;refine aE (λg=>?_) (λM=>?_)
 .obtain⟨c,f⟩:=eN j g;obtain⟨O,P,Q,o⟩:=E.at' f;obtain⟨R,X⟩:=F.at_ c (cr f);obtain⟨S,T,v,U,y,Y⟩:=aZ.at D (i:=c.toNat) (cq aC);have ev:r.getD c.toNat zeroV=v:=cg
  have V:pick r (d.take (i+1))=pick r (d.take i)++[v]:=by
   unfold pick;rw[db,f,Option.toList_some,cv,map_singleton,ev]
  have:=n i;rw[fP aC];refine⟨O,P,Q,aC,g,c,.imm o,S,T,U,R,aC,v,.imm y,cg,cg,(i+1,pick r (d.take (i+1))),⟨aC,rfl⟩,aC,cg⟩
 .rw[cu aC]
  exactλW h' le C=>H W h' le (Py C (by simp[pick];omega))
theorem Yw{on:dp}{a b:dn}{i:Nat}{p:Int×Int}(c:on[i]? =some p):agree (on.take (i+1)) a b=true↔agree (on.take i) a b=true/\a.getD p.1.toNat zeroV=b.getD p.2.toNat zeroV:=by
 rw[A8,A8,db,c,Option.toList_some];unfold pick fZ fU;rw[cv,cv,cv,cv];constructor
 .intro h;obtain⟨d,e⟩:=append_inj h bx
  grind
 grind
theorem Yx{on:dp}{a b:dn}(k:Nat)(h:agree on a b=true):agree (on.take k) a b=true:=by
 rw[A8]at h⊢
 unfold pick fZ fU at h⊢
 rw[map_take,map_take,map_take,map_take,h]
theorem abZ{on:dp}{a:dn}{i:Nat}{p:Int×Int}(c:on[i]? =some p):kB (fZ (on.take (i+1))) a=(kB (fZ (on.take i)) a&&jF (a.getD p.1.toNat zeroV)):=by
 unfold kB pick fZ;rw[db,c,Option.toList_some,cv,cv,all_append];simp
theorem acQ{on:dp}{a:dn}{i:Nat}{p:Int×Int}(d:on[i]? =some p)(h:jF (a.getD p.1.toNat zeroV)=false):kB (fZ on) a=false:=by
 rw[Bool.eq_false_iff];intro c;unfold kB pick fZ at c
 grind
theorem Ou:di 203 Tu:=by
 refine gO func203 ?_;rintro X m h K ⟨o,s,t,on,a,b,f,rfl,H,P,Q,Y,Z,y⟩;refine⟨aQQ o s t f m h,rfl,aD Hu aF,QT o s t f m h K,bu,?_⟩;dsimp only[QT,push_cast];have I:=H.slen;have a':=H.len;have a0:=aZ.slen P;have a1:=aZ.slen Q;refine⟨λi=>i<=on.length/\agree (on.take i) a b=true/\(f=true->kB (fZ (on.take i)) a=true),λi=>on.length-i,⟨0,⟨aC,by rw[A8];rfl,λ_=>rfl⟩,MT⟩,?_⟩;rintro i ⟨hi,z,D⟩;refine aE (λE=>?_) (λa2=>?_)
 .obtain⟨⟨c,d⟩,F⟩:=eN I E;obtain⟨b1,o1,e1,r1⟩:=H.row.get (i:=i) (e:=mJ (c,d)) (by simp[F]);have R:=cr F;obtain⟨S,h2⟩:=Y.at_ c (mem_map.2 ⟨_,R,rfl⟩);obtain⟨h3,h4⟩:=Z.at_ d (mem_map.2 ⟨_,R,rfl⟩);obtain⟨T,U,v,V,g,hv⟩:=aZ.at P (i:=c.toNat) (cq aC);obtain⟨b3,o3,w,e3,j,hw⟩:=aZ.at Q (i:=d.toNat) (cq aC);have ev:a.getD c.toNat zeroV=v:=cg
  have ew:b.getD d.toNat zeroV=w:=cg
  have n:=Yw (a:=a) (b:=b) F;have G:=abZ (a:=a) F;have C:=acQ (a:=a) F;dsimp only at n G C;rw[ev,ew]at n;rw[ev]at G C;have J:IntKind.i64.wrap ((i:Int)+1)=((i+1:Nat):Int):=fP aC;have mu:on.length-(i+1)<on.length-i:=by omega
  rw[J];refine⟨b1,o1,e1,aC,E,(c,d),.imm r1,aC,aC,T,U,V,S,aC,v,.imm g,aC,aC,b3,o3,e3,h3,aC,w,.imm j,Tv v w,Eg v w,aB (λe=>⟨g,j,?_⟩) (λe=>?_)⟩
  .have L:¬v=w:=λe5=>by rw[Eh.2 e5]at e;cases e
   have e6:agree on a b=false:=by
    rw[Bool.eq_false_iff]
    exactλe7=>L (n.1 (Yx _ e7)).2
   rw[e6,Bool.false_and]at y;exact y
  .have M:v=w:=Eh.1 (cm e);refine aB (λW=>⟨aC,aC,T,U,V,S,aC,v,.imm g,g,j,v,rfl,aB (λO=>?_) (λO=>?_)⟩) (λW=>⟨g,j,i+1,⟨aC,n.2 ⟨z,M⟩,λh9=>cg⟩,mu,MT⟩)
   .have O:jF v=false:=cg
    rw[C O,W,show(agree on a b&&(!true||false))=false by grind]at y;exact y
   grind
 .rw[cu aC]at z D;rw[z]at y;cases f with
  |false=>exact y
  |true=>rw[D rfl]at y;exact y
theorem XH:di 204 a5X:=by
 refine gO func204 ?_;rintro W m h K ⟨o,s,t,on,a,b,rfl,X,S,T,Y,Z,la,lb,hK⟩;refine⟨aPJ o s t m h,rfl,aD Ou aF,QR o s t m h K,bu,?_⟩;dsimp only[QR,push_cast];have E:=aZ.slen S;have F:=aZ.slen T;refine⟨λz=>z.1<=a.length/\dT h z.2 ((a.take z.1).filter λx=>b.any λy=>agree on x y),λz=>a.length-z.1,⟨(0,[]),⟨bx,cm (dT.nil h)⟩,MT⟩,?_⟩;rintro⟨i,us⟩ ⟨hi,g⟩;dsimp only at hi g;dsimp only;have a':=g.len;have G:=length_filter_le (λx=>b.any λy=>agree on x y) (a.take i);rw[length_take]at G;refine aE (λn=>?_) (λa0=>?_)
 .obtain⟨x,H⟩:=eN E n;have I:=cr H;obtain⟨b1,o1,f,e1,J,C⟩:=aZ.at S H;have L:a.take (i+1)=a.take i++[x]:=by rw[db,H];rfl
  have M:(b.any λy=>agree on x y)=true->dT h (us++[f]) ((a.take (i+1)).filter λx=>b.any λy=>agree on x y):=λe=>by
   rw[L,filter_append,filter_cons_of_pos (by exact e),filter_nil];exact g.snoc C
  have no:(b.any λy=>agree on x y)=false->dT h us ((a.take (i+1)).filter λx=>b.any λy=>agree on x y):=λe=>by
   grind
  refine⟨b1,o1,e1,aC,n,f,.imm J,λz=>z.1<=b.length/\z.2=(f,i,us)/\(b.take z.1).any (λy=>agree on x y)=false,λz=>b.length-z.1,⟨(0,f,i,us),⟨bx,rfl,bx⟩,MT⟩,?_⟩;rintro⟨j,z⟩ ⟨hj,e,c⟩;dsimp only at hj e c;subst e;dsimp only;refine aE (λd=>?_) (λU=>?_)
  .obtain⟨y,O⟩:=eN F d;have D:=cr O;obtain⟨b2,o2,V,e2,P,Q⟩:=aZ.at T O;refine⟨b2,o2,e2,aC,d,V,.imm P,o,f,V,on,x,y,false,rfl,X,C,Q,Y x I,Z y D,aB (λe=>?_) (λe=>?_)⟩
   .have e:agree on x y=true:=cm e
    rw[fP aC];exact⟨cg,cg,(i+1,us++[f]),⟨aC,M (any_eq_true.2 ⟨y,D,e⟩)⟩,aC,by rw[cv];exact MT⟩
   .have e:agree on x y=false:=cm e
    rw[fP aC];exact⟨(j+1,f,i,us),⟨aC,rfl,by dsimp only;rw[db,O,Option.toList_some,any_append,c];simp[e]⟩,aC,MT⟩
  .rw[cu aC]at c;rw[fP aC];exact⟨(i+1,us),⟨aC,no c⟩,aC,MT⟩
 .rw[cu aC]at g
  exactλs' h' le R=>hK s' h' le ((g.mono le).rows R cg)
theorem VG{p:dn->Bool}{l:dl}{j:Nat}{y:dn}(c:l[j]? =some y):(l.take (j+1)).countP p=(l.take j).countP p+if p y=true then 1 else 0:=by
 rw[db,c,Option.toList_some,countP_append,countP_singleton]
theorem XF:di 206 VW:=by
 refine gO func206 ?_;rintro a2 m h K ⟨v,s,t,gr,od,a,b,rfl,hg,ho,hs,ht,ha,hb,la,lb,hK⟩;refine⟨aPX v s t m h,rfl,aD W2 (aD W0 aF),QP v s t m h K,bu,?_⟩;dsimp only[QP,push_cast];have L:=aZ.slen hs;have M:=aZ.slen ht;have g:∀l,tL gr od v.limit l b=l.filter λx=>decide (((b.countP λy=>rM gr x y&&decide (iZ od y x<0):Nat):Int)<v.limit):=λl=>rfl;refine⟨λz=>z.1<=a.length/\dT h z.2 (tL gr od v.limit (a.take z.1) b),λz=>a.length-z.1,⟨(0,[]),⟨bx,by simpa[g]using dT.nil h⟩,MT⟩,?_⟩;rintro⟨i,us⟩ ⟨hi,D⟩;dsimp only at hi D;dsimp only;have a3:=D.len;have O:=length_filter_le (λx=>decide (((b.countP λy=>rM gr x y&&decide (iZ od y x<0):Nat):Int)<v.limit)) (a.take i);rw[<-g,length_take]at O;refine aE (λE=>?_) (λa4=>?_)
 .obtain⟨x,P⟩:=eN L E;have Q:=cr P;obtain⟨b1,o1,d,e1,R,o⟩:=aZ.at hs P;have S:a.take (i+1)=a.take i++[x]:=by rw[db,P];rfl
  have T:((b.countP λy=>rM gr x y&&decide (iZ od y x<0):Nat):Int)<v.limit->dT h (us++[d]) (tL gr od v.limit (a.take (i+1)) b):=λe=>by
   rw[g]at D⊢
   rw[S,filter_append,filter_cons_of_pos (cm e),filter_nil];exact D.snoc o
  have no:¬((b.countP λy=>rM gr x y&&decide (iZ od y x<0):Nat):Int)<v.limit->dT h us (tL gr od v.limit (a.take (i+1)) b):=λe=>by
   grind
  refine⟨b1,o1,e1,aC,E,d,.imm R,λz=>z.1<=b.length/\z.2.2=(d,i,us)/\z.2.1<=z.1/\(((z.2.1:Nat):Int)<v.limit->z.2.1=(b.take z.1).countP λy=>rM gr x y&&decide (iZ od y x<0))/\(¬((z.2.1:Nat):Int)<v.limit->z.2.1<=(b.take z.1).countP λy=>rM gr x y&&decide (iZ od y x<0)),λz=>b.length-z.1,⟨(0,0,d,i,us),⟨bx,rfl,bx,bx,bx⟩,MT⟩,?_⟩;rintro⟨j,n,z⟩ ⟨hj,e,U,C,F⟩;dsimp only at hj e U C F;subst e;dsimp only;refine aE (λf=>?_) (λa1=>?_)
  .obtain⟨y,V⟩:=eN M f;have W:=cr V;obtain⟨b2,o2,uy,e2,X,G⟩:=aZ.at ht V;have a5:=VG (p:=λy=>rM gr x y&&decide (iZ od y x<0)) V
   have c:(¬((n:Nat):Int)<v.limit\/(rM gr x y&&decide (iZ od y x<0))=false)->∃z:Nat×Nat×Sl×Nat×dq,(z.1<=b.length/\z.2.2=(d,i,us)/\z.2.1<=z.1/\(((z.2.1:Nat):Int)<v.limit->z.2.1=(b.take z.1).countP λy=>rM gr x y&&decide (iZ od y x<0))/\(¬((z.2.1:Nat):Int)<v.limit->z.2.1<=(b.take z.1).countP λy=>rM gr x y&&decide (iZ od y x<0)))/\z=(j+1,n,d,i,us):=λI=>by
    refine⟨_,⟨aC,rfl,cg,λY=>?_,λY=>?_⟩,rfl⟩
    .grind
    grind
   have Z:IntKind.i64.wrap ((j:Int)+1)=((j+1:Nat):Int):=fP aC;have a':IntKind.i64.wrap ((n:Int)+1)=((n+1:Nat):Int):=fP aC;have J:b.length-(j+1)<b.length-j:=by omega
   rw[Z,a'];refine⟨b2,o2,e2,aC,f,uy,.imm X,aE (λhl=>⟨_,_,_,gr,x,y,rfl,hg,o,G,ha x Q,hb y W,aB (λI=>⟨_,_,_,od,y,x,rfl,ho,G,o,aE (λY=>?_) (λY=>?_)⟩) (λI=>?_)⟩) (λhl=>?_)⟩
   .have hp:(rM gr x y&&decide (iZ od y x<0))=true:=cg
    have h7:=C hl;exact⟨(j+1,n+1,d,i,us),⟨aC,rfl,cg,λ_=>cg,λ_=>cg⟩,J,MT⟩
   .obtain⟨z,H,rfl⟩:=c (.inr cg);exact⟨_,H,J,MT⟩
   .obtain⟨z,H,rfl⟩:=c (.inr (by rw[I];rfl));exact⟨_,H,J,MT⟩
   .obtain⟨z,H,rfl⟩:=c (.inl hl);exact⟨_,H,J,MT⟩
  .rw[cu aC]at C F;rw[fP aC];refine aE (λe=>?_) (λe=>?_)
   .exact⟨cg,cg,(i+1,us++[d]),⟨aC,T aC⟩,aC,by rw[cv];exact MT⟩
   .exact⟨(i+1,us),⟨aC,no (λI=>by omega)⟩,aC,MT⟩
 .rw[cu aC]at D
  exactλs' h' le a0=>hK s' h' le ((D.mono le).rows a0 cg)
theorem XI:di 202 RU:=by
 refine gO func202 ?_;rintro O m h K ⟨s,t,l,e,rfl,J,P,Q,R,hl,S⟩;refine⟨aQX s t m,rfl,aD XD (aD Hy aF),QU s t m h K,bu,?_⟩;dsimp only[QU,push_cast];have j:=aZ.slen J;refine⟨λz=>z.1<=l.length/\PH.le h z.2.2/\dT z.2.2 z.2.1 ((l.take z.1).map λr=>pick r e),λz=>l.length-z.1,⟨(0,[],h),⟨bx,.refl _,cm (dT.nil h)⟩,MT⟩,?_⟩;rintro⟨i,us,h1⟩ ⟨T,c,f⟩;dsimp only at T c f;dsimp only;have n:=f.len;rw[length_map,length_take]at n;refine aE (λg=>?_) (λU=>?_)
 .obtain⟨x,o⟩:=eN j g;obtain⟨V,W,L,X,y,C⟩:=aZ.at J o;have D:l.take (i+1)=l.take i++[x]:=by rw[db,o];rfl
  refine⟨V,W,X,aC,g,L,.imm (y.mono c),L,t,x,e,rfl,bI.mono C c,P.mono c,Q x (cr o),λE M d F=>?_⟩;rw[fP aC];refine⟨cg,cg,(i+1,us++[E],M),⟨aC,c.trans d,by dsimp only;rw[D,cv,map_singleton];exact(f.mono d).snoc F⟩,aC,by rw[cv];exact MT⟩
 .rw[cu aC]at f;intro E M d G
  exact⟨E,_,rfl,(f.mono d).rows G cg,cg,λr Y=>by
   obtain⟨z,_,rfl⟩:=mem_map.1 Y;simp[pick];omega,λZ h3 H I=>S Z h3 (c.trans (d.trans H)) I⟩
end Go.Ps
