/- Own work. -/
import Derived.Test.YtafjlhgalgfiaaaGreatDoorOc
set_option linter.unusedVariables false
set_option linter.unusedSimpArgs false
namespace Go.Ps
open Go Go.Vc Go.Proofs List Tryz
variable{K:cq}{m:MH}{h:PH}{s:jZ}{ps:cn}{cb:Nat}{sc:bT}{v:QV}{p:Pred}{l:cn}{i:Nat}{N:Nat}{m':MH}{h':PH}{co:cn}{gr:cn}{od:cv}{ta:Int}{li:Int}{xs:List cr}{sz:Nat}{ks:List cn}{rs:cn}{r:Sl}{a:cn}{b:Nat}
def bQ h s l:=bM h 3 VV.enc Eq s l
theorem bQ.mono{s l}(x:bQ h s l)(le:PH.le h h'):bQ h' s l:=bM.mono x le λ_ _ e=>e
def Ek:QV:=⟨0,0,jT,⟨none,0,0⟩,⟨none,0,0⟩,⟨none,0,0⟩,⟨none,0,0⟩,0,⟨none,0,0⟩⟩
theorem brX(l:du):gC 21 (l.map QV.enc):=by
 constructor
 .intro e c;obtain⟨x,_,rfl⟩:=mem_map.1 c;rfl
 .intro e c u d;obtain⟨x,_,rfl⟩:=mem_map.1 c;simp[QV.enc]at d;rcases d with rfl|rfl|rfl|rfl|rfl|rfl|rfl|rfl|rfl|rfl|rfl|rfl|rfl|rfl|rfl|rfl|rfl|rfl|rfl|rfl|rfl<;>rfl
mutual
def blQ:Pred->Nat
 |.mk _ _ _ _ args=>1+LY args
def LY:dh->Nat
 |[]=>0
 |p::ps=>blQ p+LY ps
end
mutual
def asJ:Pred->Nat
 |.mk _ _ _ _ args=>1+Ox args
def Ox:dh->Nat
 |[]=>0
 |p::ps=>max (asJ p) (Ox ps)
end
mutual
theorem Qx:∀(p:Pred)(n:Int),rW p n<=n+blQ p
 |.mk _ _ _ _ args,n=>by
  have:=Oc args (n+1);simp only[rW,blQ];omega
theorem Oc:∀(ps:dh)(n:Int),nX ps n<=n+LY ps
 |[],n=>by simp[nX,LY]
 |p::ps,n=>by
  have c:=Qx p n;have d:=Oc ps (rW p n);simp only[nX,LY];omega
end
mutual
theorem Oz:∀(p:Pred)(n:Nat),asJ p<=n->pU p n=false
 |.mk _ _ _ _ args,0,h=>by simp only[asJ]at h;omega
 |.mk _ _ _ _ args,n+1,h=>by
  simp only[asJ]at h;simp only[pU];exact LV args n aC
theorem LV:∀(ps:dh)(n:Nat),Ox ps<=n->xK ps n=false
 |[],_,_=>rfl
 |p::ps,n,h=>by
  simp only[Ox]at h;simp only[xK,Oz p n aC,LV ps n aC,Bool.or_false]
end
def gF:Nat->Nat
 |0=>1
 |d+1=>1+3*gF d
structure RV(d:Nat)(p:Pred):Prop where
 n:blQ p<=gF d
 d:asJ p<=d+1
theorem cNZ:∀d,1<=gF d
 |0=>Nat.le_refl _
 |d+1=>by rw[gF];omega
theorem RV.leaf d{op c a b}:RV d (.mk op c a b []):=⟨by simp[blQ,LY,cNZ],by simp[asJ,Ox]⟩
theorem RV.node{d op c a b ps}(h:∀p∈ps,RV d p)(g:ps.length<=3):RV (d+1) (.mk op c a b ps):=by
 have j:∀l:dh,(∀p∈l,RV d p)->LY l<=l.length*gF d/\Ox l<=d+1:=λl=>by
  induction l with
  |nil=>intro _;simp[LY,Ox]
  |cons p l o=>
   intro f;have t:=o λx u=>f x (mem_cons_of_mem _ u);have e:=f p (mem_cons_self ..);have:=e.n;have:=e.d;simp only[LY,Ox,ci,Nat.add_mul,Nat.one_mul];omega
 have t:=j ps h;have e:ps.length*gF d<=3*gF d:=Nat.mul_le_mul_right _ g;exact⟨by simp only[blQ,gF];omega,by simp only[asJ];omega⟩
mutual
def oZ:Query->Nat
 |.mk _ _ _ _ _ _ _ _ args=>1+mD args
def mD:db->Nat
 |[]=>0
 |q::qs=>oZ q+mD qs
end
mutual
def RI:Query->Nat
 |.mk _ _ _ _ _ _ _ _ args=>1+HH args
def HH:db->Nat
 |[]=>0
 |q::qs=>max (RI q) (HH qs)
end
mutual
def iD(c:Nat):Query->Nat
 |.mk op _ _ _ _ _ _ _ args=>if op=1 then c else if op=4 then yG c args else wM c args
def wM(c:Nat):db->Nat
 |[]=>0
 |q::qs=>iD c q+wM c qs
def yG(c:Nat):db->Nat
 |[]=>1
 |q::qs=>iD c q*yG c qs
end
mutual
theorem Qv:∀(p:Query)(n:Int),u0 p n<=n+oZ p/\(u0 p n<=24->u0 p n=n+oZ p)
 |.mk _ _ _ _ _ _ _ _ args,n=>by
  have:=Ob args (n+1);simp only[u0,oZ];omega
theorem Ob:∀(ps:db)(n:Int),qK ps n<=n+mD ps/\(qK ps n<=24->qK ps n=n+mD ps)
 |[],n=>by simp[qK,mD]
 |p::ps,n=>by
  have c:=Qv p n;have d:=Ob ps (u0 p n);simp only[qK,mD];omega
end
theorem Ml{q}(h:tT q=true):oZ q<=24:=by
 simp only[tT,bz,ce]at h;have:=(Qv q 0).2 h.1;omega
def gN:Nat->Nat
 |0=>3
 |d+1=>2+2*gN d
def gD:Nat->Nat
 |0=>3
 |d+1=>2+gD d
def gB:Nat->Nat
 |0=>4
 |d+1=>gB d*gB d
structure uD(n d b:Nat)(q:Query):Prop where
 n:oZ q<=n
 d:RI q<=d
 b:iD 4 q<=b
def Wg d q:=uD (gN d) (gD d) (gB d) q
def DH:Nat->Query->Prop
 |0,q=>uD 1 1 4 q
 |d+1,q=>uD (1+2*gN d) (1+gD d) (gB d*gB d) q
theorem uD.mono{n d c e f q}(x:uD n d b q)(g:n<=c)(j:d<=e)(o:b<=f):uD c e f q:=⟨cj x.n g,cj x.d j,cj x.b o⟩
theorem Gz:∀d,3<=gN d/\3<=gD d/\4<=gB d
 |0=>az
 |d+1=>by
  obtain⟨e,f,c⟩:=Gz d;have:4*4<=gB d*gB d:=Nat.mul_le_mul c c;simp only[gN,gD,gB];omega
theorem DH.arg:∀{d:Nat}{q:Query},DH d q->Wg d q
 |0,_,x=>uD.mono x az az az
 |d+1,_,x=>uD.mono x (by simp only[gN];omega) (by simp only[gD];omega) (by simp only[gB];omega)
theorem uD.one{n d q}(x:uD n d b q)(c:4<=b){op w on}:uD (n+1) (d+1) b (.mk op ta w co on gr od li [q]):=by
 obtain⟨e,f,g⟩:=x;refine⟨by simp only[oZ,mD];omega,by simp only[RI,HH];omega,?_⟩;simp only[iD,yG,wM]
 grind
theorem uD.two{n:Nat}{d f g c q p}(x:uD n d b q)(y:uD f g c p)(j:4<=b)(e:4<=c){op w on}:uD (1+n+f) (1+max d g) (b*c) (.mk op ta w co on gr od li [q,p]):=by
 obtain⟨u,z,o⟩:=x;obtain⟨A,B,t⟩:=y;have C:b*4<=b*c:=Nat.mul_le_mul_left _ e;have D:4*c<=b*c:=Nat.mul_le_mul_right _ j;have E:iD 4 q*iD 4 p<=b*c:=Nat.mul_le_mul o t;refine⟨by simp only[oZ,mD];omega,by simp only[RI,HH];omega,?_⟩;simp only[iD,yG,wM]
 grind
theorem uD.scan{w on}:uD 1 1 4 (.mk 1 ta w co on gr od li []):=⟨by simp[oZ,mD],by simp[RI,HH],by simp[iD]⟩
theorem DH.node{d op w on args}(h:∀a∈args,Wg d a)(e:args.length<=2):DH (d+1) (.mk op ta w co on gr od li args):=by
 have c:=(Gz d).2.2;have f:gB d*4<=gB d*gB d:=Nat.mul_le_mul_left _ c
 match args,h,e with
 |[],_,_=>exact⟨by simp only[oZ,mD];omega,by simp only[RI,HH];omega,by simp only[iD,yG,wM];grind⟩
 |[q],h,_=>exact uD.mono (uD.one (h q ay) c) aC aC aC
 |[q,p],h,_=>exact uD.mono (uD.two (h q ay) (h p ay) c c) aC aC (Nat.le_refl _)
theorem DH.filter{d q}(x:DH d q){op w on}:Wg d (.mk op ta w co on gr od li [q]):=by
 cases d with
 |zero=>exact uD.mono (uD.one x az) az az az
 |succ d=>
  have c:=(Gz d).2.2;have e:gB d*4<=gB d*gB d:=Nat.mul_le_mul_left _ c;exact uD.mono (uD.one x aC) (by simp only[gN];omega) (by simp only[gD];omega) (by simp only[gB];omega)
theorem Wg.three d{q}(x:uD 3 3 4 q):Wg d q:=uD.mono x (Gz d).1 (Gz d).2.1 (Gz d).2.2
theorem DH.mono{q:Query}:∀{d e:Nat},DH d q->d<=e->DH e q
 |d,0,x,h=>bg
 |d,e+1,x,h=>by
  by_cases c:d=e+1
  .grind
  .have y:=DH.arg (x.mono (e:=e) aC);have f:=(Gz e).2.2;have g:gB e*1<=gB e*gB e:=Nat.mul_le_mul_left _ aC;exact uD.mono y aC aC aC
abbrev xT a:=pD (Value.int IntKind.u8 a)
abbrev mW a:=a->False
attribute [push_cast] xT mW
def Yf(cb:Nat)(n:Int)(m:MH)(h:PH)(K:cq):=
  ∃(y:Int),aK m h cb 1 (bC y)/\∃(g:Sl),aK m h cb 0 (aL g)/\iO y (aG g) (K (jA 0) m h) (aY n 1 (K (jA 0) m h) (zO m h cb 1 (λt=>gT (λc E=>aA (sL m cb (fA c E 0)) (1<c.size) (∀(d:MH),bJ m d cb (splice c.toList 1 (bC (iF (t+1)))) E->∃(f:Sl),aK d h cb 0 (aL f)/\∃(e:Int),aK d h cb 1 (bC e)/\bK (λb o=>aA (aR f.a b o) (0<=iF (e-1)) (iF (e-1)<aG f/\∃(j:UInt8),aA (aK d h b (gH o (iF (e-1)) 1) (xT (Ac j))) (mW (n=0)) (K (jA (Int.tmod (iF (Ac j)) n)) d h))))))))
theorem cQJ cb n m h K:Yf cb n m h K=(xH (ctx [] [] [] [] false) Tryz.f19 (eD Tryz.f19) (entry 40 [.val (.pointer (some ⟨cb,0,none⟩)),.val (.int .i64 n)] m h) K):=ax
def czZ:Vc.Spec:=λc m h K=>∃(cb:Nat)(n:Int)(r:dg),c=[.val (.pointer (some ⟨cb,0,none⟩)),.val (.int .i64 n)]/\azX m h cb r/\
 ∀m',bV m m' cb->azX m' h cb (YJ n r).2->K (.val (.int .i64 (YJ n r).1)) m' h
theorem S8:cm 19 czZ:=by
 refine fW (fn:=Tryz.f19) (c:=eD Tryz.f19) func19 rfl az ?_;rintro G m h K ⟨cb,n,r,rfl,⟨s,d,k,y,e,E,f,rfl⟩,t⟩;refine⟨ctx [] [] [] [] false,rfl,aH,?_⟩;show xH (ctx [] [] [] [] false) Tryz.f19 (eD Tryz.f19) (entry 40 [.val (.pointer (some ⟨cb,0,none⟩)),.val (.int .i64 n)] m h) K;rw[<-cQJ];dsimp only[Yf,push_cast];have H:s.len=d.length:=by have:=e.len;simpa[aX]using this
 refine⟨k,.of_m y rfl,s,.of_m y rfl,aF (λI=>?_) (λA=>aF (λB=>?_) (λB=>?_))⟩
 .have u:d.drop k=[]:=bf
  rw[u]at t;exact t m ⟨λ_ _=>rfl⟩ ⟨s,d,k,y,e,E,f,by rw[u];rfl⟩
 .have j:k<d.length:=by omega
  have u:d.drop k=d[k]::d.drop (k+1):=drop_eq_getElem_cons j;rw[u]at t;simp only[YJ,if_pos B]at t;refine t m ⟨λ_ _=>rfl⟩ ⟨s,d,k,y,e,E,f,u.symm⟩
 .have j:k<d.length:=by omega
  have u:d.drop k=d[k]::d.drop (k+1):=drop_eq_getElem_cons j;rw[u]at t;simp only[YJ,if_neg B]at t;have J:IntKind.i64.wrap ((k:Int)+1)=((k+1:Nat):Int):=by rw[fL]<;>omega
  have C:IntKind.i64.wrap (((k+1:Nat):Int)-1)=(k:Int):=by rw[fL]<;>omega
  refine⟨k,.of_m y rfl,_,_,⟨y⟩,ay,λm' F=>?_⟩;have g:=F.at_;rw[J]at g;simp only[splice]at g;obtain z|⟨b,o,L,D⟩:=e.row
  .exfalso;have:=congrArg List.length z;simp[aX]at this
   grind
  refine⟨s,.of_m g rfl,((k+1:Nat):Int),.of_m g rfl,b,o,L,?_⟩;rw[C];refine⟨aC,aC,d[k],.imm ?_,aC,?_⟩
  .have:=D k [.int .u8 d[k].toNat] (by simp[aX,j])
   grind
  .have A:d[k].toNat<256:=d[k].toNat_lt;rw[fL aC aC,Int.tmod_eq_emod_of_nonneg aC];refine t m' ⟨F.other⟩ ⟨s,d,k+1,g,e,aC,f,rfl⟩
def bB m h cb:=∃r,azX m h cb r
theorem bB.mono(x:bB m h cb)(le:PH.le h h'):bB m h' cb:=by
 obtain⟨r,s,c,k,d,e,f⟩:=x;exact⟨r,s,c,k,d,e.mono le,f⟩
theorem bV.refl m cb:bV m m cb:=⟨λ_ _=>rfl⟩
theorem bV.trans{d}(a:bV m m' cb)(b:bV m' d cb):bV m d cb:=⟨λc e=>(b.other c e).trans (a.other c e)⟩
def uY n:= -9223372036854775808<=n/\n<=9223372036854775807
structure NH(v:VV):Prop where
 int_:uY v.int
 text_:v.text.size<=64
def KOk(k:Int):=k=3\/k=4\/k=5
def aRX k v:=KOk k->oC v=true/\v.kind=k
def Mb:Vc.Spec:=λc m h K=>∃cb n,c=[cP cb,cI n]/\bB m h cb/\∀k m',0<=k->(k<n\/k=0)->bV m m' cb->bB m' h cb->K (cI k) m' h
def UR:Vc.Spec:=λc m h K=>∃cb n,c=[cP cb,cI n]/\0<=n/\n<=1000/\bB m h cb/\∀r m',bV m m' cb->bB m' h cb->K (cB r) m' h
def aQQ:Vc.Spec:=λc m h K=>∃cb,c=[cP cb]/\bB m h cb/\∀k m',uY k->bV m m' cb->bB m' h cb->K (cI k) m' h
def cCX:Vc.Spec:=λc m h K=>∃cb,c=[cP cb]/\bB m h cb/\∀t m',t.size<=64->bV m m' cb->bB m' h cb->K (Ss t) m' h
def V1:Vc.Spec:=λd m h K=>∃cb c,d=[cP cb,cI c]/\bB m h cb/\∀v m',NH v->aRX c v->bV m m' cb->bB m' h cb->K (aV v) m' h
theorem MO:cm 19 Mb:=by
 refine⟨S8.1,λc d m h w K e f=>S8.2 c d m h w K ?_ f⟩;obtain⟨cb,n,rfl,⟨r,g⟩,j⟩:=e;refine⟨cb,n,r,rfl,g,λm' o t=>j _ m' ?_ ?_ o ⟨_,t⟩⟩
 .cases r with
  |nil=>simp[YJ]
  |cons b r=>
   simp only[YJ]
   grind
 .cases r with
  |nil=>simp[YJ]
  |cons b r=>
   simp only[YJ];split
   .simp
   .exact .inl (Int.emod_lt_of_pos _ aC)
noncomputable def bLX h:=
 dK [(19,Mb)] [(18,{A:=Nat×ByteArray×MH,st:=λ⟨i,t,m⟩=>bY 37 38 [(3,vv (.string t)),(4,iv i)] [] m h}),(23,{A:=Nat×ByteArray×MH,st:=λ⟨i,t,m⟩=>bY 37 38 [(3,vv (.string t)),(5,iv i)] [] m h})] [] [] false
abbrev mS(a:Nat)(b:Int)(c:MH)(d:PH)(e:Int->MH->Prop):=∃(x:Nat)(j:Int),aA (cT (OP a 0) b=cT (OP x 0) j) (bB c d x) (∀(f:Int)(g:MH),bH (cN f) (f<j\/f=0) (bH (bV c g x) (bB g d x) (e f g)))
attribute [push_cast] mS
def X5(cb:Nat)(n:Int)(m:MH)(h:PH)(K:cq):=
  mS cb n m h (λk c=>K (Aw (k==iF (n-1))) c h)
def T9(cb:Nat)(m:MH)(h:PH)(K:cq):=
  mS cb 12 m h (λk c=>dQ (k==9) (K (jA (Int.negSucc 0)) c h) (k==10) (K (jA 9223372036854775807) c h) (fC k 11 (K (jA (Int.negSucc 9223372036854775807)) c h) (mW ((4:Int)=0)/\K (jA (Int.tmod k 4)) c h)))
abbrev wI a:=rZ (ByteArray.mk (Array.mk a))
abbrev dN(a:Nat)(b:dg):=OfNat.ofNat a::b
abbrev yM a:=dN a []
attribute [push_cast] wI dN yM
def T8(cb:Nat)(m:MH)(h:PH)(K:cq):=
  mS cb 10 m h (λk d=>dQ (k==0) (K (wI (yM 97)) d h) (k==1) (K (wI (yM 97)) d h) (dQ (k==2) (K (wI (yM 97)) d h) (k==3) (K (wI (yM 98)) d h) (dQ (k==4) (K (wI (yM 98)) d h) (k==5) (K (CV.val vQz) d h) (dQ (k==6) (K (wI (dN 97 (dN 0 []))) d h) (k==7) (K (wI (yM 255)) d h) (fC k 8 (∃(I:Nat×ByteArray×MH->Prop)(e:Nat×ByteArray×MH->Nat),(∃(x:Nat×ByteArray×MH),aA (I x) (SV.at aQz=SV.at (NG x.2.1)) (aA (bA x.1) (d=x.2.2) (bU h h)))/\∀(x:Nat×ByteArray×MH),I x->aY (↑x.1:Int) 64 (x.2.1.size<9223372036854775807/\∃(c:Nat×ByteArray×MH),aA (I c) (e c<e x) (aA (SV.at (NG (x.2.1++ByteArray.mk (Array.mk (yM 255))))=SV.at (NG c.2.1)) (iH (bE x.1 1)=bP c.1) (eM x.2.2 c.2.2 h h))) (K
 (rZ x.2.1) x.2.2 h)) (∃(I:Nat×ByteArray×MH->Prop)(e:Nat×ByteArray×MH->Nat),(∃(x:Nat×ByteArray×MH),aA (I x) (SV.at aQz=SV.at (NG x.2.1)) (aA (bA x.1) (d=x.2.2) (bU h h)))/\∀(x:Nat×ByteArray×MH),I x->aY (↑x.1:Int) 64 (x.2.1.size<9223372036854775807/\∃(c:Nat×ByteArray×MH),aA (I c) (e c<e x) (aA (SV.at (NG (x.2.1++ByteArray.mk (Array.mk (yM 98))))=SV.at (NG c.2.1)) (iH (bE x.1 1)=bP c.1) (eM x.2.2 c.2.2 h h))) (K (rZ x.2.1) x.2.2 h)))))))
abbrev pK a b c d:=bB a b c->d
attribute [push_cast] pK
def Xw(cb:Nat)(d:Int)(m:MH)(h:PH)(K:cq):=
  dQ (d==3) (mS cb 2 m h (λk e=>K (jO (bG (gZ d) (gZ k) FC)) e h)) (d==4) (∃(c:Nat),aA (eY (OP cb 0) (OP c 0)) (bB m h c) (∀(k:Int)(e:MH),bH (uY k) (bV m e c) (pK e h c (K (jO (bG (gZ d) (gZ k) FC)) e h)))) (∃(c:Nat),aA (eY (OP cb 0) (OP c 0)) (bB m h c) (∀(t:ByteArray)(e:MH),bH (t.size<=64) (bV m e c) (pK e h c (K (jO (bG (gZ 5) bF (pD (Value.string t)))) e h))))
theorem cQZ{n}(d:bB m h cb)(e:∀r m',bV m m' cb->bB m' h cb->K (cB r) m' h):X5 cb n m h K:=
 ⟨cb,n,rfl,d,λ_ m' _ _ f c=>e _ m' f c⟩
theorem JK:Hi ⟨#[]⟩=true:=by simp[Hi,ByteArray.toList_eq]
theorem cKQ{k}(c:0<=k)(d:k<2\/k=0):oC ⟨3,k,⟨#[]⟩⟩=true:=by
 have:k=0\/k=1:=by omega
 rcases this with rfl|rfl<;>simp[oC,JK]
theorem boZ k:oC ⟨4,k,⟨#[]⟩⟩=true:=by simp[oC,JK]
theorem cJJ{t}(h:t.size<=64):oC ⟨5,0,t⟩=true:=by
 simp[oC];omega
theorem E6:cm 25 UR:=by
 refine jC func25 ?_;rintro c m h K ⟨cb,n,rfl,_,_,d,e⟩;refine⟨dK [(19,Mb)] [] [] [] false,rfl,aE MO aH,X5 cb n m h K,ax,?_⟩;exact cQZ d e
theorem amZ:cm 145 aQQ:=by
 refine jC func145 ?_;rintro f m h K ⟨cb,rfl,g,d⟩;refine⟨dK [(19,Mb)] [] [] [] false,rfl,aE MO aH,T9 cb m h K,ax,?_⟩;dsimp only[T9,push_cast];refine⟨cb,12,rfl,g,λk m' j n e c=>aD (λ_=>d _ m' ⟨aC,aC⟩ e c) (λ_=>aD (λ_=>d _ m' ⟨aC,aC⟩ e c) (λ_=>aD (λ_=>d _ m' ⟨aC,aC⟩ e c) (λ_=>⟨aC,d _ m' ?_ e c⟩)))⟩;rw[Int.tmod_eq_emod_of_nonneg j];exact⟨aC,aC⟩
theorem amX:cm 146 cCX:=by
 refine jC func146 ?_;rintro g m h K ⟨cb,rfl,j,d⟩;refine⟨bLX h,rfl,aE MO aH,T8 cb m h K,ax,?_⟩;dsimp only[T8,push_cast];refine⟨cb,10,rfl,j,λk m' y z e c=>?_⟩;refine aD (λ_=>d _ m' az e c) (λ_=>aD (λ_=>d _ m' az e c) (λ_=>aD (λ_=>d _ m' az e c) (λ_=>aD (λ_=>d _ m' az e c) (λ_=>aD (λ_=>d _ m' az e c) (λ_=>aD (λ_=>d _ m' az e c) (λ_=>aD (λ_=>d _ m' az e c) (λ_=>aD (λ_=>d _ m' az e c) (λ_=>aD (λ_=>?_) (λ_=>?_)))))))))
 all_goals
  refine⟨λ⟨i,t,n⟩=>n=m'/\i<=64/\t.size=i,λ⟨i,_,_⟩=>64-i,⟨(0,⟨#[]⟩,m'),⟨rfl,aC,rfl⟩,MT⟩,?_⟩;rintro⟨i,t,m'⟩ ⟨rfl,A,f⟩;dsimp only;refine aF (λo=>⟨?_,(i+1,_,m'),⟨rfl,aC,?_⟩,bi,MT⟩) (λu=>d t m' aC e c)
  .rw[f];show i+1<=_;omega
  .rw[ByteArray.size_append,f];rfl
theorem MR:cm 88 V1:=by
 refine jC func88 ?_;rintro z m h K ⟨cb,c,rfl,j,n⟩;refine⟨dK [(19,Mb),(145,aQQ),(146,cCX)] [] [] [] false,rfl,aE MO (aE amZ (aE amX aH)),Xw cb c m h K,ax,?_⟩;dsimp only[Xw,push_cast];refine aD (λe=>⟨cb,2,rfl,j,λk m' A B g d=>n ⟨c,k,⟨#[]⟩⟩ m' ⟨⟨bg,bg⟩,by show(ByteArray.mk #[]).size<=64;decide⟩ (λ_=>?_) g d⟩) (λo=>aD (λe=>⟨cb,rfl,j,λk m' f g d=>n ⟨c,k,⟨#[]⟩⟩ m' ⟨f,by show(ByteArray.mk #[]).size<=64;decide⟩ (λ_=>?_) g d⟩) (λu=>⟨cb,rfl,j,λt m' y g d=>n ⟨5,0,t⟩ m' ⟨⟨ay,ay⟩,y⟩ (λf=>?_) g d⟩))
 .have e:c=3:=bk e
  subst e;exact⟨cKQ A B,rfl⟩
 .have e:c=4:=bk e
  subst e;exact⟨boZ k,rfl⟩
 .have o:c≠3:=bg
  have u:c≠4:=bg
  exact⟨cJJ y,by rcases f with f|f|f;exact absurd f o;exact absurd f u;exact f.symm⟩
mutual
def Eh:Pred->Prop
 |.mk _ _ l r args=>NH l.value/\NH r.value/\NJ args
def NJ:dh->Prop
 |[]=>True
 |p::ps=>Eh p/\NJ ps
end
theorem RZ:∀{l:dh},NJ l↔∀p∈l,Eh p
 |[]=>by simp[NJ]
 |p::ps=>by simp[NJ,RZ (l:=ps)]
theorem tP:NH zeroV:=⟨⟨az,az⟩,az⟩
structure Y2(cols params:cn)(kind:Int)(o:OV):Prop where
 val:NH o.value
 kind:KOk kind->kindOf cols params o=kind
def OU(l:cn):=∀k∈l,KOk k
structure PW(cols params:cn)(d:Nat)(p:Pred):Prop where
 vals:Eh p
 valid:OU cols->kT cols params p=true
 siz:RV d p
def Y1:Vc.Spec:=λf m h K=>∃cb s t e d c,f=[cP cb,cS s,cS t,cI e]/\bB m h cb/\Ints h s d/\Ints h t c/\d.length<=1000/\c.length<=1000/\∀o m',Y2 d c e o->bV m m' cb->bB m' h cb->K (aO o) m' h
def KP(K:cq)(m:MH)(h:PH)(cb:Nat)(R:Pred->Prop):=∀v p m' h',PH.le h h'->fP h' p v->R p->bV m m' cb->bB m' h' cb->K (aP v) m' h'
def bWX N:=λe m h K=>∃cb s t d c,∃deep:Nat,e=[cP cb,cS s,cS t,cI deep]/\bB m h cb/\Ints h s d/\Ints h t c/\d.length<=1000/\c.length<=1000/\deep<N/\deep<=1000/\KP K m h cb (PW d c deep)
structure Ch(cols params:cn)(d:Nat)(p:Pred):Prop where
 vals:Eh p
 valid:d<=2->OU cols->OU params->iP cols params p=0
def GK:=λe m h K=>∃cb s t d c,∃deep:Nat,e=[cP cb,cS s,cS t,cI deep]/\bB m h cb/\Ints h s d/\Ints h t c/\d.length<=1000/\c.length<=1000/\deep<=1000/\KP K m h cb (Ch d c deep)
def pv b:=vv (.pointer (some ⟨b,0,none⟩))
noncomputable def bOZ cb s t c m h:=
 dK [(19,Mb),(88,V1)] [(3,{A:=Nat×ei,st:=λ⟨i,d⟩=>bY 64 68 [(0,pv cb),(2,sv t),(3,iv c),(8,.at (.ptr 8 0)),(9,.at (.lst 29)),(15,sv s),(16,iv s.len),(17,iv i)] [(8,.cells 32 (gL.enc.map .val)),(29,.lst 32 5 (d.map OV.enc))] m h}),
  (9,{A:=Nat×ei,st:=λ⟨i,d⟩=>bY 64 68 [(0,pv cb),(3,iv c),(8,.at (.ptr 8 0)),(9,.at (.lst 29)),(31,sv t),(32,iv t.len),(33,iv i)] [(8,.cells 32 (gL.enc.map .val)),(29,.lst 32 5 (d.map OV.enc))] m h})] [] [] false
noncomputable def clJ(N cb:Nat)(s t:Sl)(deep:Nat)(c:PH):=
 dK [(19,Mb),(25,UR),(128,Y1),(88,V1),(65,bWX N)] [(18,{A:=Int×Int×eb×MH×PH,st:=λ⟨op,n,d,m,h⟩=>bY 107 111 [(0,pv cb),(1,sv s),(2,sv t),(3,iv deep),(8,.at (.ptr 8 0)),(12,.at (.ptr 12 0)),(13,iv n)] [(8,.cells 35 (jT.enc.map .val)),(12,.cells 35 (((⟨op,0,gL,gL,⟨none,0,0⟩⟩:PV).enc.take 12).map .val++[.lst 104])),(104,.lst 35 13 (d.map PV.enc))] m h})] [(3,{A:=Int×Bool×MH,st:=λ⟨k,b,m⟩=>bY 107 111 [(0,pv cb),(1,sv s),(2,sv t),(3,iv deep),(8,.at (.ptr 8 0)),(9,iv k),(16,bv b)] [(8,.cells 35 (jT.enc.map .val))] m c}),
  (5,{A:=Int×Bool×MH,st:=λ⟨k,b,m⟩=>bY 107 111 [(0,pv cb),(1,sv s),(2,sv t),(3,iv deep),(8,.at (.ptr 8 0)),(9,iv k),(27,bv b)] [(8,.cells 35 (jT.enc.map .val))] m c}),
  (8,{A:=Int×MH,st:=λ⟨k,m⟩=>bY 107 111 [(0,pv cb),(1,sv s),(2,sv t),(8,.at (.ptr 8 0)),(10,iv k)] [(8,.cells 35 (jT.enc.map .val))] m c}),
  (9,{A:=PV×Int×MH,st:=λ⟨p,k,m⟩=>bY 107 111 [(0,pv cb),(1,sv s),(2,sv t),(8,.at (.ptr 8 0)),(10,iv k),(11,.at (.ptr 11 0))] [(8,.cells 35 (jT.enc.map .val)),(11,.cells 35 (p.enc.map .val))] m c}),
  (11,{A:=PV×MH,st:=λ⟨p,m⟩=>bY 107 111 [(0,pv cb),(8,.at (.ptr 8 0)),(11,.at (.ptr 11 0))] [(8,.cells 35 (jT.enc.map .val)),(11,.cells 35 (p.enc.map .val))] m c}),
  (13,{A:=PV×MH,st:=λ⟨p,m⟩=>bY 107 111 [(8,.at (.ptr 8 0)),(11,.at (.ptr 11 0))] [(8,.cells 35 (jT.enc.map .val)),(11,.cells 35 (p.enc.map .val))] m c})] [] false
abbrev iN:=kL 0
abbrev FH:=eQ (oQ 32 (gU iN iN (gU (kL 0) iN (uH aQz))))
abbrev vB a b c:=bW a b []=bW a b c
abbrev nY(a:Nat×ei):=List.map OV.enc a.2
abbrev K8(a b:Nat×ei):=iH (bE a.1 1)=bP b.1
abbrev qS(a:Int)(b:List cr)(c:cr->Prop):=aA (cN a) (a<nN b) (∃(x:cr),c x)
abbrev FX(a:Nat)(b:Int)(c:Nat->Option Obj)(d:Nat->Nat->Option Value)(e:VV->MH->Prop):=∃(x:Nat)(j:Int),aA (cT (OP a 0) b=cT (OP x 0) j) (bB c d x) (∀(f:VV)(g:MH),bH (NH f) (aRX j f) (bH (bV c g x) (bB g d x) (e f g)))
attribute [push_cast] iN FH vB nY K8 qS FX
def Uh(cb:Nat)(s t:Sl)(d:Int)(m:MH)(h:PH)(K:cq):=
  ∃(I:Nat×ei->Prop)(g:Nat×ei->Nat),(∃(x:Nat×ei),aA (I x) (cX cb) (aA (aI t) (fI d) (aA iT (eL 29) (aA (aI s) (bI s) (aA (bA x.1) FH (aA (vB 32 5 (nY x)) (m=m) (bU h h)))))))/\∀(x:Nat×ei),I x->aY (↑x.1:Int) (aG s) (bK (λb o=>aA (aR s.a b o) (0<=(↑x.1:Int)) ((↑x.1:Int)<aG s/\∃(y:Int),aK m h b (bL o x.1 1) (bC y)/\fC y d (aA (jN (kB (nY x) 1) 48) (eA (nY x)) (∃(c:Nat×ei),aA (I c) (g c<g x) (aA (cX cb) (aI t) (aA (fI d) iT (aA (eL 29) (aI s) (aA (bI s) (K8 x c) (aA FH (bW 32 5 (dP (nY x) (bG (gZ 1) (gZ (↑x.1:Int)) (bG bF bF FC)))=bW 32 5 (nY c)) (eM m m h h)))))))) (∃(c:Nat×ei),aA (I
 c) (g c<g x) (aA (cX cb) (aI t) (aA (fI d) iT (aA (eL 29) (aI s) (aA (bI s) (K8 x c) (aA FH (bW 32 5 (nY x)=bW 32 5 (nY c)) (eM m m h h)))))))))) (∃(I1:Nat×ei->Prop)(j:Nat×ei->Nat),(∃(c:Nat×ei),aA (I1 c) (cX cb) (aA (fI d) iT (aA (eL 29) (aI t) (aA (bI t) (bA c.1) (aA FH (bW 32 5 (nY x)=bW 32 5 (nY c)) (aA (m=m) (h=h) True))))))/\∀(c:Nat×ei),I1 c->aY (↑c.1:Int) (aG t) (bK (λb o=>aA (aR t.a b o) (0<=(↑c.1:Int)) ((↑c.1:Int)<aG t/\∃(y:Int),aK m h b (bL o c.1 1) (bC y)/\fC y d (aA (jN (kB (nY c) 1) 48) (eA (nY c)) (∃(f:Nat×ei),aA (I1 f) (j f<j c) (aA (cX cb) (fI d) (aA iT (eL 29)
 (aA (aI t) (bI t) (aA (K8 c f) FH (aA (bW 32 5 (dP (nY c) (bG (gZ 2) (gZ (↑c.1:Int)) (bG bF bF FC)))=bW 32 5 (nY f)) (m=m) (bU h h)))))))) (∃(f:Nat×ei),aA (I1 f) (j f<j c) (aA (cX cb) (fI d) (aA iT (eL 29) (aA (aI t) (bI t) (aA (K8 c f) FH (aA (bW 32 5 (nY c)=bW 32 5 (nY f)) (m=m) (bU h h)))))))))) (mS cb (bE (nY c).length 1) m h (λk n=>aY k (nN (nY c)) (qS k (nY c) (λe=>mH (nY c) k.toNat e/\∃(y:OV),uI 5 e y.enc/\K (jO y.enc) n h)) (FX cb d n h (λv u=>K (jO (bG (gZ 3) bF (bG (gZ v.kind) (gZ v.int) (pD (Value.string v.text))))) u h)))))
abbrev rL(a:Nat)(b:Int)(c:Nat->Option Obj)(d:Nat->Nat->Option Value)(e:Nat->Bool->Prop):=∃(x:Nat)(f:Int),aA (cT (OP a 0) b=cT (OP x 0) f) (cN f) (aA (f<=1000) (bB c d x) (∀(g:Bool),e x g))
abbrev vV:=eQ (oQ 35 zP)
abbrev KD(a:Int×Bool×MH->Prop)(b:Nat)(c d:Sl)(e:Nat)(g:Int)(i:(Int×Bool×MH)->Prop)(j:Nat->Option Obj)(k:PH):=∃(x:Int×Bool×MH),aA (a x) (cX b) (aA (aI c) (aI d) (aA (eQ (bP e)) iT (aA (dA g x.1) (i x) (dJ vV j x.2.2 k k))))
abbrev dE a b:=OP a 0::b
abbrev mY a:=a<=1000
abbrev iB(a:cn):=mY a.length
abbrev nA:=eP 11
abbrev Bz(a:OV):=kL a.index
abbrev CI(a:Nat->Sl->Sl->cn->cn->Nat->Prop):=∃(x:Nat)(c:Sl),yQ (λd e f=>∃(g:Nat),a x c d e f g)
abbrev FD(a:PV->Pred->Prop):=∀(x:PV)(c:Pred),a x c
abbrev fD(a:MH->PH->Prop):=∀(x:MH)(c:PH),a x c
abbrev KE(a:dk)(b:MH)(c:PH)(d:Nat)(e:PV->MH->PH->Prop):=CI (λx t u j n f=>aA (a=dE x (dC t (j3 u (↑f:Int)))) (bB b c x) (aA (Ints c t j) (Ints c u n) (aA (iB j) (iB n) (aA (f<d) (mY f) (FD (λy z=>fD (λo g=>bS c g (fP g z y) (bH (PW j n f z) (bV b o x) (pK o g x (e y o g))))))))))
abbrev K9 a b:=gU (kL a) iN (gU (kL b) iN (gU iN iN (gU aQz iN (gU iN iN (gU (kL b) aQz (uH (At.lst 104)))))))
abbrev F4(a:Int×Int×eb×MH×PH):=List.map PV.enc a.2.2.1
abbrev bO(a:MH)(b:MH×PH):=a=b.1
abbrev CK(a:Int×Int×eb×MH×PH):=a.2.2.2
abbrev cF(a:PH)(b:MH×PH):=a=b.2
attribute [push_cast] rL vV KD dE mY iB nA Bz CI FD fD KE K9 F4 bO CK cF
def XJ(N cb:Nat)(s t:Sl)(deep:Nat)(m:MH)(h:PH)(K:cq):=
  mS cb 9 m h (λk E=>∃(I:Int×Bool×MH->Prop),fC k 0 (rL cb 2 E h (λc r=>∀(e:MH),bH (bV E e c) (bB e h c) (KD I cb s t deep k (λx=>kN r x.2.1) e h))) (KD I cb s t deep k (λx=>B6 x.2.1) E h)/\∀(x:Int×Bool×MH),gS (I x) x.2.1 (mS cb 2 x.2.2 h (λj e=>K (jO (bG (gZ (iF (1+j))) bF (bG bF bF (bG bF bF (bG vQz bF (bG bF bF (bG bF vQz gW))))))) e h)) (∃(I1:Int×Bool×MH->Prop),aY x.1 6 (KD I1 cb s t deep x.1 (λn=>yL n.2.1) x.2.2 h) (KD I1 cb s t deep x.1 (λn=>kN (decide ((↑deep:Int)<1)) n.2.1) x.2.2 h)/\∀(n:Int×Bool×MH),I1 n->dQ n.2.1 (∃(I2:Int×MH->Prop),gA (aG s) 0 (mS cb (aG s) n.2.2 h (λj e=>bK (λb o=>aA (aR s.a b o) (0<=j) (j<
 aG s/\∃(y:Int),aK e h b (gH o j 1) (bC y)/\∃(d:Int×MH),aA (I2 d) (cX cb) (aA (aI s) (aI t) (aA iT (dA y d.1) (aA vV (e=d.2) (bU h h)))))))) (∃(d:Int×MH),aA (I2 d) (cX cb) (aA (aI s) (aI t) (aA iT (dA 4 d.1) (aA vV (n.2.2=d.2) (bU h h)))))/\∀(d:Int×MH),I2 d->∃(I3:PV×Int×MH->Prop),mS cb 6 d.2 h (λj e=>∃(c:Nat),rC (λA C=>∃(H:Int),FE (λB p=>aA (dE cb (dC s (j3 t d.1))=dE c (dC A (j3 C H))) (bB e h c) (aA (Ints h A B) (Ints h C p) (aA (iB B) (iB p) (∀(o:OV)(z:MH),bH (Y2 B p H o) (bV e z c) (pK z h c (FX cb d.1 z h (λv F=>∃(f:PV×Int×MH),aA (I3 f) (cX cb) (aA (aI s) (aI t) (aA iT (dA d.1
 f.2.1) (aA nA vV (dJ (oQ 35 (gU (kL 3) (kL (iF (1+j))) (gU (kL o.kind) (Bz o) (gU (kL (qL o)) (kL (GU o)) (gU (NG (BR o)) (kL 3) (gU iN (kL v.kind) (gU (kL v.int) (NG v.text) (uH J1)))))))=qM 35 f.1.enc) F f.2.2 h h)))))))))))))/\∀(f:PV×Int×MH),I3 f->∃(I4:PV×MH->Prop),rL cb 3 f.2.2 h (λc r=>∀(e:MH),bH (bV f.2.2 e c) (bB e h c) (branch r (∃(B:Nat),rC (λA C=>∃(j:Int),FE (λG p=>aA (dE cb (dC s (j3 t f.2.1))=dE B (dC A (j3 C j))) (bB e h B) (aA (Ints h A G) (Ints h C p) (aA (iB G) (iB p) (∀(o:OV)(z:MH),bH (Y2 G p j o) (bV e z B) (pK z h B (∃(g:PV×MH),aA (I4 g) (cX cb) (aA iT nA (aA vV (oQ 35 (gU (kL f.1.op) (kL
 f.1.cmp) (gU (kL f.1.left.kind) (Bz f.1.left) (gU (kL (qL f.1.left)) (kL (GU f.1.left)) (gU (NG (BR f.1.left)) (kL o.kind) (gU (Bz o) (kL (qL o)) (gU (kL (GU o)) (NG (BR o)) (uH (yY f.1.args))))))))=qM 35 g.1.enc) (aA (z=g.2) (h=h) True))))))))))) (∃(g:PV×MH),aA (I4 g) (cX cb) (aA iT nA (aA vV (qM 35 f.1.enc=qM 35 g.1.enc) (aA (e=g.2) (h=h) True))))))/\∀(g:PV×MH),I4 g->∃(I5:PV×MH->Prop),rL cb 6 g.2 h (λc r=>∀(e:MH),bH (bV g.2 e c) (bB e h c) (branch r (∃(u:PV×MH),aA (I5 u) iT (aA nA vV (dJ (oQ 35 (gU (kL g.1.op) (kL g.1.cmp) (gU (kL g.1.right.kind) (Bz g.1.right) (gU (kL (qL g.1.right)) (kL (GU g.1.right)) (gU (NG (BR g.1.right)) (kL g.1.left.kind) (gU
 (Bz g.1.left) (kL (qL g.1.left)) (gU (kL (GU g.1.left)) (NG (BR g.1.left)) (uH (yY g.1.args))))))))=qM 35 u.1.enc) e u.2 h h))) (∃(u:PV×MH),aA (I5 u) iT (aA nA vV (dJ (qM 35 g.1.enc=qM 35 u.1.enc) e u.2 h h)))))/\∀(u:PV×MH),I5 u->K (gR u.1) u.2 h) (n.1==6) (KE (dE cb (dC s (j3 t (iF ((↑deep:Int)-1))))) n.2.2 h N (λv e D=>cK D 13 (mC v.enc) (λA J=>K (jO (bG (gZ 6) bF (bG bF bF (bG bF bF (bG vQz bF (bG bF bF (bG bF vQz (aL A)))))))) e J))) (mS cb 3 n.2.2 h (λj e=>∃(I2:Int×Int×eb×MH×PH->Prop)(z:Int×Int×eb×MH×PH->Nat),(∃(d:Int×Int×eb×MH×PH),aA (I2 d) (cX cb) (aA (aI s) (aI t) (aA (eQ (bP deep)) iT (aA (eP 12)
 (dA j d.2.1) (aA vV (oQ 35 (K9 (iF (iF (4+n.1)-7)) 0)=oQ 35 (K9 d.1 0)) (aA (vB 35 13 (F4 d)) (bO e (CK d)) (kY (cF h (CK d)))))))))/\∀(d:Int×Int×eb×MH×PH),I2 d->iO d.2.1 0 (KE (dE cb (dC s (j3 t (iF ((↑deep:Int)-1))))) (CK d).1 (CK d).2 N (λv F D=>aA (jN (kB (F4 d) 1) 136) (eA (F4 d)) (∃(f:Int×Int×eb×MH×PH),aA (I2 f) (z f<z d) (aA (cX cb) (aI s) (aA (aI t) (eQ (bP deep)) (aA iT (eP 12) (aA (dA (iF (d.2.1-1)) f.2.1) vV (aA (oQ 35 (K9 d.1 0)=oQ 35 (K9 f.1 0)) (bW 35 13 (dP (F4 d) v.enc)=bW 35 13 (F4 f)) (aA (bO F (CK f)) (cF D (CK f)) True))))))))) (cK (CK d).2 13 (F4 d) (λA
 D=>K (jO (bG (gZ d.1) bF (bG bF bF (bG bF bF (bG vQz bF (bG bF bF (bG bF vQz (aL A)))))))) (CK d).1 D))))))
def X1(N cb:Nat)(s t:Sl)(deep:Nat)(m:MH)(h:PH)(K:cq):=
  KE (dE cb (dC s (j3 t (↑deep:Int)))) m h N (λv e d=>KM (dC s (gO t (gR v))) d (λc p f=>fC (iP c p f) 2 (KE (dE cb (dC s (j3 t 1))) e d N (λg j n=>K (gR g) j n)) (K (gR v) e d)))
theorem Yx:eqV zeroV zeroV=true:=by simp[eqV]
theorem DQ:Hf 0 gL gL=true:=by simp[Hf,eqO,eqV]
theorem ZB{cols params x}(h:cols[i]? =some x):kindOf cols params ⟨1,i,zeroV⟩=x:=by
 have d:=(bm h);have e:kindOf cols params ⟨1,i,zeroV⟩=sB cols ⟨1,i,zeroV⟩:=rfl;have c:=Yx;rw[e];simp only[sB,c,Bool.not_true,Bool.or_false]
 grind
theorem ZA{cols params x}(h:params[i]? =some x):kindOf cols params ⟨2,i,zeroV⟩=x:=by
 have d:=(bm h);have e:kindOf cols params ⟨2,i,zeroV⟩=sB params ⟨2,i,zeroV⟩:=rfl;have c:=Yx;rw[e];simp only[sB,c,Bool.not_true,Bool.or_false]
 grind
theorem WZ{cols params c v}(f:NH v)(g:aRX c v):Y2 cols params c ⟨3,0,v⟩:=⟨f,λh=>by
 obtain⟨j,d⟩:=g h;have e:kindOf cols params ⟨3,0,v⟩=if((0:Int) !=0|| !pW v)then 0 else v.kind:=rfl
 rw[e,if_neg,d];simp only[pW,j,d];rcases h with rfl|rfl|rfl<;>decide⟩
theorem aoJ:cm 128 Y1:=by
 refine jC func128 ?_;rintro U m h K ⟨cb,s,t,d,e,c,rfl,V,P,Q,Z,l2,R⟩;refine⟨bOZ cb s t d m h,rfl,aE MO (aE MR aH),Uh cb s t d m h K,ax,?_⟩;dsimp only[Uh,push_cast];have E:=P.slen;have F:=Q.slen;refine⟨λ⟨i,f⟩=>i<=e.length/\f.length<=i/\∀o∈f,Y2 e c d o,λ⟨i,_⟩=>e.length-i,⟨(0,[]),⟨aC,ay,ay⟩,MT⟩,?_⟩;rintro⟨i,f⟩ ⟨S,y,g⟩;dsimp only;refine aF (λj=>?_) (λz=>?_)
 .obtain⟨x,A⟩:=fK E j;obtain⟨G,H,I,J⟩:=P.at' A;refine⟨G,H,I,aC,j,x,.imm J,aD (λW=>⟨bf,bf,(i+1,f++[⟨1,i,zeroV⟩]),⟨aC,bf,?_⟩,aC,?_⟩) (λ_=>⟨(i+1,f),⟨aC,bg,g⟩,aC,MT⟩)⟩
  .intro o u;rcases mem_append.1 u with n|n
   .grind
   .simp at n;subst n;exact⟨tP,λ_=>by rw[ZB (bk A)];grind⟩
  .rw[bu];exact MT
 refine⟨λ⟨i,f⟩=>i<=c.length/\f.length<=1000+i/\∀o∈f,Y2 e c d o,λ⟨i,_⟩=>c.length-i,⟨(0,f),⟨aC,aC,g⟩,MT⟩,?_⟩;clear S y g z;rintro⟨i,f⟩ ⟨S,y,g⟩;dsimp only;refine aF (λj=>?_) (λz=>?_)
 .obtain⟨x,A⟩:=fK F j;obtain⟨G,H,I,J⟩:=Q.at' A;refine⟨G,H,I,aC,j,x,.imm J,aD (λW=>⟨bf,bf,(i+1,f++[⟨2,i,zeroV⟩]),⟨aC,bf,?_⟩,aC,?_⟩) (λ_=>⟨(i+1,f),⟨aC,bg,g⟩,aC,MT⟩)⟩
  .intro o u;rcases mem_append.1 u with n|n
   .grind
   .simp at n;subst n;exact⟨tP,λ_=>by rw[ZA (bk A)];grind⟩
  .rw[bu];exact MT
 .refine⟨cb,_,rfl,V,λk m' X n u B=>aF (λT=>?_) (λT=>⟨cb,d,rfl,B,λv L Y M O C=>R ⟨3,0,v⟩ L (WZ Y M) (u.trans O) C⟩)⟩;have D:k.toNat<f.length:=bg
  exact⟨X,T,_,by rw[getElem?_map,bn D];rfl,f[k.toNat],rfl,R _ m' (g _ (getElem_mem D)) u B⟩
theorem QQ{h v}(c:v.args=⟨none,0,0⟩):fP h (.mk v.op v.cmp v.left v.right []) v:=fP.mk (by rw[c];exact .nil _ _ _ _)
structure b7X(cols params:cn)(kd:Int)(p:PV):Prop where
 args_:p.args=⟨none,0,0⟩
 op_:p.op=3
 cmp_:1<=p.cmp/\p.cmp<=6
 left_:Y2 cols params kd p.left
 right_:Y2 cols params kd p.right
 kind_:OU cols->KOk kd
theorem ceJ{k}(h:KOk k):k≠0:=by rcases h with rfl|rfl|rfl<;>decide
theorem b7X.pw{cols params f p}(x:b7X cols params f p) d:PW cols params d (.mk p.op p.cmp p.left p.right []):=by
 refine⟨⟨x.left_.val,x.right_.val,trivial⟩,λg=>?_,RV.leaf d⟩;have c:=x.kind_ g;have j:=x.left_.kind c;have n:=x.right_.kind c;have o:=ceJ c;have e:=x.cmp_;rw[x.op_];simp[kT,j,n,o,e.1,e.2]
theorem cLQ{cols params d}(x:PW cols params d p):PW cols params (d+1) (.mk 6 0 gL gL [p]):=
 ⟨⟨tP,tP,x.vals,trivial⟩,λf=>by
  have e:=DQ;simp[kT,zA,e,x.valid f],RV.node (λq c=>by simp at c;subst c;exact x.siz) ay⟩
theorem cLX{cols params d op ps}(f:op=4\/op=5)(x:∀p∈ps,PW cols params d p)(g:ps.length<=3):PW cols params (d+1) (.mk op 0 gL gL ps):=
 ⟨⟨tP,tP,RZ.2 λp c=>(x p c).vals⟩,λj=>by
  have e:=DQ;have n:zA cols params ps=true:=by rw[G9,all_eq_true];exactλp c=>(x p c).valid j
  rcases f with rfl|rfl<;>simp[kT,e,n],RV.node (λq o=>(x q o).siz) g⟩
theorem aIX:∀N,cm 65 (bWX N)
 |0=>by
  refine fW (fn:=Tryz.f65) (c:=eD Tryz.f65) func65 rfl az ?_;rintro a0 m h K ⟨cb,s,t,f,d,deep,rfl,_,_,_,_,_,hN,_⟩;omega
 |N+1=>by
  refine jC func65 ?_;rintro a0 m h K ⟨cb,s,t,f,d,deep,rfl,hc,M,ht,l1,l2,hN,hd,hK⟩;refine⟨clJ N cb s t deep h,rfl,aE MO (aE E6 (aE aoJ (aE MR (aE (aIX N) aH)))),XJ N cb s t deep m h K,ax,?_⟩;dsimp only[XJ,push_cast];have a7:=M.slen;refine⟨cb,9,rfl,hc,λk B L O g y=>?_⟩;refine⟨λ⟨k,_,z⟩=>0<=k/\k<=8/\bV m z cb/\bB z h cb,aD (λ_=>⟨cb,2,rfl,aC,aC,y,λr E C D=>⟨(k,r,E),⟨L,aC,g.trans C,D⟩,MT⟩⟩) (λ_=>⟨(k,false,B),⟨L,aC,g,y⟩,MT⟩),?_⟩;clear L O g y k B;rintro⟨k,b,B⟩ ⟨L,O,g,y⟩;dsimp only;refine aD (λ_=>⟨cb,2,rfl,y,λj E R j1 C D=>?_⟩) (λ_=>?_)
  .refine hK ⟨IntKind.i64.wrap (1+j),0,gL,gL,⟨none,0,0⟩⟩ _ E h (.refl _) (QQ rfl) ⟨⟨tP,tP,trivial⟩,λ_=>?_,RV.leaf _⟩ (g.trans C) D;have hj:j=0\/j=1:=by omega
   have e1:IntKind.i64.wrap 1=1:=az
   have e2:IntKind.i64.wrap 2=2:=az
   rcases hj with rfl|rfl
   .simp[kT,e1,DQ]
   .simp[kT,e2,DQ]
  refine⟨λ⟨k,b,z⟩=>0<=k/\k<=8/\(b=false->6<=k/\1<=deep)/\bV m z cb/\bB z h cb,aF (λ_=>⟨(k,true,B),⟨L,O,λe=>(by cases e),g,y⟩,MT⟩) (λhk=>⟨(k,_,B),⟨L,O,λe=>?_,g,y⟩,MT⟩),?_⟩
  .grind
  clear L O g y k B;rintro⟨k,b,B⟩ ⟨L,O,kb,g,y⟩;dsimp only;refine aD (λ_=>?_) (λhb=>?_)
  .refine⟨λ⟨G,z⟩=>(OU f->KOk G)/\bV m z cb/\bB z h cb,aF (λa6=>⟨cb,s.len,rfl,y,λj E R j1 C D=>?_⟩) (λ_=>⟨(4,B),⟨λ_=>.inr (.inl rfl),g,y⟩,MT⟩),?_⟩
   .obtain⟨b1,a1,e1,r1⟩:=M.inb (n:=j) R aC
    have hm:f.getD j.toNat 0∈f:=by
     grind
    exact⟨b1,a1,e1,R,aC,_,.imm r1,(_,E),⟨λS=>S _ hm,g.trans C,D⟩,MT⟩
   clear g y B;rintro⟨G,B⟩ ⟨T,g,y⟩;dsimp only;refine⟨λ⟨p,G,z⟩=>b7X f d G p/\bV m z cb/\bB z h cb,⟨cb,6,rfl,y,λj E R j1 C D=>⟨cb,s,t,G,f,d,rfl,D,M,ht,l1,l2,λo m3 ho U V=>⟨cb,G,rfl,V,λv m4 hv a2 o4 c4=>⟨(⟨3,IntKind.i64.wrap (1+j),o,⟨3,0,v⟩,⟨none,0,0⟩⟩,G,m4),⟨⟨rfl,rfl,?_,ho,WZ hv a2,T⟩,((g.trans C).trans U).trans o4,c4⟩,MT⟩⟩⟩⟩,?_⟩
   .show 1<=IntKind.i64.wrap (1+j)/\IntKind.i64.wrap (1+j)<=6;rw[fL aC aC];omega
   clear g y B T G;rintro⟨p,G,B⟩ ⟨pw,g,y⟩;dsimp only;refine⟨λ⟨p,z⟩=>b7X f d G p/\bV m z cb/\bB z h cb,⟨cb,3,rfl,aC,aC,y,λr E C D=>aD (λ_=>⟨cb,s,t,G,f,d,rfl,D,M,ht,l1,l2,λo m3 ho U V=>⟨(⟨p.op,p.cmp,p.left,o,p.args⟩,m3),⟨⟨pw.args_,pw.op_,pw.cmp_,pw.left_,ho,pw.kind_⟩,(g.trans C).trans U,V⟩,MT⟩⟩) (λ_=>⟨(p,E),⟨pw,g.trans C,D⟩,MT⟩)⟩,?_⟩;clear pw g y B p;rintro⟨p,B⟩ ⟨pw,g,y⟩;dsimp only;refine⟨λ⟨p,z⟩=>b7X f d G p/\bV m z cb/\bB z h cb,⟨cb,6,rfl,aC,aC,y,λr E C D=>aD (λ_=>⟨(⟨p.op,p.cmp,p.right,p.left,p.args⟩,E),⟨⟨pw.args_,pw.op_,pw.cmp_,pw.right_,pw.left_,pw.kind_⟩,g.trans C,D⟩,MT⟩) (λ_=>⟨(p,E),⟨pw,g.trans C,D⟩,MT⟩)⟩,?_⟩;clear pw g y B p;rintro⟨p,B⟩ ⟨pw,g,y⟩;exact hK p _ B h (.refl _) (QQ pw.args_) (pw.pw deep) g y
  have a3:=kb hb;have hw:IntKind.i64.wrap ((deep:Int)-1)=((deep-1:Nat):Int):=by rw[fL aC aC];omega
  rw[hw];have W:deep=deep-1+1:=by omega
  refine aD (λ_=>⟨cb,s,t,f,d,deep-1,rfl,y,M,ht,l1,l2,aC,aC,λv p E h2 F hr hp C D X Y H I=>?_⟩) (λa4=>⟨cb,3,rfl,y,λj E R j1 C D=>?_⟩)
  .refine hK ⟨6,0,gL,gL,X⟩ (.mk 6 0 gL gL [p]) E Y (F.trans H) (fP.mk (v:=⟨6,0,gL,gL,X⟩) ⟨⟨[v],I,rfl,λi x J=>?_⟩,ay⟩) (by rw[W];exact cLQ hp) (g.trans C) (D.mono H)
   match i,J with
   |0,J=>simp at J;subst J;exact⟨v,rfl,hr.mono H⟩
   |_+1,J=>simp at J
  refine⟨λ⟨op,n,P,z,J⟩=>(op=4\/op=5)/\ -1<=n/\n<=2/\(P.length:Int)<=2-n/\PH.le h J/\bV m z cb/\bB z J cb/\∃ps:dh,ps.length=P.length/\(∀q∈ps,PW f d (deep-1) q)/\∀(i:Nat) q,ps[i]? =some q->∃u,P[i]? =some u/\fP J q u,λ⟨_,n,_,_,_⟩=>(n+1).toNat,⟨(_,j,[],E,h),⟨?_,aC,aC,bf,.refl _,g.trans C,D,[],rfl,ay,λi q Q=>by simp at Q⟩,MT⟩,?_⟩
  .have a4:k≠6:=bg
   have a5:k=7\/k=8:=by omega
   rcases a5 with rfl|rfl
   .exact .inl az
   .exact .inr az
  rintro⟨op,n,P,z,J⟩ ⟨Z,n0,n1,ul,F,ox,cx,ps,pl,pw,a'⟩;dsimp only;refine aF (λhn=>⟨cb,s,t,f,d,deep-1,rfl,cx,M.mono F,ht.mono F,l1,l2,aC,aC,λv p m3 Y A hr hp U V=>⟨bf,bf,(op,n-1,P++[v],m3,Y),⟨Z,bg,bg,bf,F.trans A,ox.trans U,V,ps++[p],by simp[pl],?_,?_⟩,?_,?_⟩⟩) (λhn X Y A I=>?_)
  .grind
  .intro i q Q;by_cases hi:i<ps.length
   .rw[getElem?_append_left hi]at Q;obtain⟨u,h1,h2⟩:=a' i q Q;exact⟨u,bg,h2.mono A⟩
   grind
  .grind
  .rw[bu,fL aC aC];exact MT
  .exact hK ⟨op,0,gL,gL,X⟩ (.mk op 0 gL gL ps) z Y (F.trans A) (fP.mk (v:=⟨op,0,gL,gL,X⟩) ⟨⟨P,I,pl,λi q Q=>(a' i q Q).imp λu hu=>⟨hu.1,hu.2.mono A⟩⟩,aC⟩) (by rw[W];exact cLX Z pw aC) ox (cx.mono A)
theorem YD(h:OU l):l.all iA=true:=all_eq_true.2 λk c=>by
 rcases h k c with e|e|e<;>subst e<;>rfl
theorem aDQ{cols params d}(x:PW cols params d p)(e:d<=2)(c:OU cols)(f:OU params):iP cols params p=0:=by
 have j:=Qx p 0;have o:=x.siz.n;have g:=Oz p 8 (by have:=x.siz.d;omega)
 have t:gF d<=13:=by match d,e with
  |0,_=>decide
  |1,_=>decide
  |2,_=>decide
 unfold iP;rw[YD c,YD f,if_neg ay,g,if_neg bf,x.valid c];rfl
theorem MY:cm 27 GK:=by
 refine jC func27 ?_;rintro G m h K ⟨cb,s,t,e,c,deep,rfl,H,j,n,z,A,I,B⟩;refine⟨dK [(65,bWX 1001),(66,vJ)] [] [] [] false,rfl,aE (aIX 1001) (aE MV aH),X1 1001 cb s t deep m h K,ax,?_⟩;dsimp only[X1,push_cast];refine⟨cb,s,t,e,c,deep,rfl,H,j,n,z,A,aC,I,λv p J L d C D E F=>⟨s,t,v,e,c,p,rfl,j.mono d,n.mono d,C,aD (λ_=>⟨cb,s,t,e,c,1,rfl,F,j.mono d,n.mono d,z,A,aC,aC,λM O P Q f o g R S=>B M O P Q (d.trans f) o ⟨g.vals,λ_ u y=>aDQ g az u y⟩ (E.trans R) S⟩) (λ_=>B v p J L d C ⟨D.vals,λT u y=>aDQ D T u y⟩ E F)⟩⟩
def cH:Sl:=⟨none,0,0⟩
def aTX:Vc.Spec:=λc m h K=>∃n k,c=[Ss n,cI k]/\K (.val (.agg ⟨(qE.mk n k).enc⟩)) m h
def bZZ:Vc.Spec:=λc m h K=>∃t,c=[cI t]/\K (aQ ⟨1,t,jT,cH,cH,cH,cH,0,cH⟩) m h
def cAJ(v:QV)(g o:Sl)(k:Int):QV:=⟨v.op,v.table,v.where_,v.columns,v.on,g,o,k,v.args⟩
def cDZ:Vc.Spec:=λd m h K=>∃cb v s c,d=[cP cb,aQ (cAJ v cH cH v.limit),cS s]/\bB m h cb/\Ints h s c/\c.length<=1000/\
 ∀g o k gr od m' h',PH.le h h'->Ints h' g gr->jP h' o od->gr.length<=c.length->od.length<=c.length->0<=k->k<=3->bV m m' cb->bB m' h' cb->K (aQ (cAJ v g o k)) m' h'
noncomputable def cpQ(cb:Nat)(v:QV)(s:Sl)(h:PH):=
 dK [(19,Mb),(25,UR)] [(2,{A:=Nat×cn×cv×MH,st:=λ⟨i,gr,od,m⟩=>bY 37 40 [(0,pv cb),(4,.at (.ptr 4 0)),(6,.at (.ptr 6 0)),(9,iv s.len),(10,iv i)] [(4,.cells 41 ((v.enc.take 17).map .val++[.lst 19,.lst 30,.val (.int .i64 v.limit),.val (.slice v.args.a v.args.len v.args.cap)])),(6,.cells 41 (Ek.enc.map .val)),(19,.lst 3 1 (gr.map eI)),(30,.lst 77 2 (od.map DM))] m h})] [] [] false
def bBZ(n:ByteArray)(k:Int)(m:MH)(h:PH)(K:cq):=
  K (jO (rX n k)) m h
abbrev Cq a:=Vo (gZ 1) (gZ a)
attribute [push_cast] Cq
def bCZ(t:Int)(m:MH)(h:PH)(K:cq):=
  K (jO (Cq t)) m h
abbrev lK:=eP 6
abbrev Ib a:=eQ (oQ 41 (gU (kL a.op) (zJ a) (yC a a.on (At.lst 19) (At.lst 30) (pA (kL a.limit) (yY a.args)))))
abbrev kE:=eQ (oQ 41 zQ)
abbrev sY(a:Nat×cn×cv×MH):=List.map DM a.2.2.1
abbrev KF(a:Nat×cn×cv×MH->Prop)(b:Nat×cn×cv×MH->Nat)(c:Nat×cn×cv×MH)(d:Nat)(e:Sl)(g:Prop)(i j:(Nat×cn×cv×MH)->Prop)(k:MH)(l:PH):=∃(x:Nat×cn×cv×MH),aA (a x) (b x<b c) (aA (cX d) (eP 4) (aA lK (bI e) (aA (iH (bE c.1 1)=bP x.1) g (aA kE (i x) (aA (j x) (k=x.2.2.2) (bU l l))))))
attribute [push_cast] lK Ib kE sY KF
def XW(cb:Nat)(v:QV)(s:Sl)(m:MH)(h:PH)(K:cq):=
  ∃(I:Nat×cn×cv×MH->Prop)(o:Nat×cn×cv×MH->Nat),(∃(x:Nat×cn×cv×MH),aA (I x) (cX cb) (aA (eP 4) lK (aA (bI s) (bA x.1) (aA (Ib v) kE (aA (sU x.2.1) (vB 77 2 (sY x)) (aA (m=x.2.2.2) (h=h) True))))))/\∀(x:Nat×cn×cv×MH),I x->aY (↑x.1:Int) (aG s) (rL cb 3 x.2.2.2 h (λc r=>∀(f:MH),bH (bV x.2.2.2 f c) (bB f h c) (branch r (aA (jN (kB (iL x.2.1) 1) 8) (eA (iL x.2.1)) (rL cb 3 f h (λj t=>∀(e:MH),bH (bV f e j) (bB e h j) (branch t (rL cb 2 e h (λn u=>∀(g:MH),bH (bV e g n) (bB g h n) (aA (jN (kB (sY x) 1) 16) (eA (sY x)) (KF I o x cb s (Ib v) (λd=>lW
 (dP (iL x.2.1) (bC (↑x.1:Int))) d.2.1) (λd=>bW 77 2 (dP (sY x) (kC (gZ (↑x.1:Int)) (Value.bool u)))=bW 77 2 (sY d)) g h)))) (KF I o x cb s (Ib v) (λd=>lW (dP (iL x.2.1) (bC (↑x.1:Int))) d.2.1) (λd=>bW 77 2 (sY x)=bW 77 2 (sY d)) e h))))) (rL cb 3 f h (λj t=>∀(e:MH),bH (bV f e j) (bB e h j) (branch t (rL cb 2 e h (λn u=>∀(g:MH),bH (bV e g n) (bB g h n) (aA (jN (kB (sY x) 1) 16) (eA (sY x)) (KF I o x cb s (Ib v) (λd=>lW (iL x.2.1) d.2.1) (λd=>bW 77 2 (dP (sY x) (kC (gZ (↑x.1:Int)) (Value.bool u)))=bW 77 2 (sY d)) g h)))) (KF I o x cb s (Ib v) (λd=>lW (iL x.2.1) d.2.1) (λd=>bW 77 2
 (sY x)=bW 77 2 (sY d)) e h))))))) (mS cb 4 x.2.2.2 h (λk f=>cK h 1 (iL x.2.1) (λy z=>cK z 2 (sY x) (λA B=>K (jO (vT v v (v7 v (bG (dW v.on) (dW y) (bG (dW A) (gZ k) (aL v.args)))))) f B))))
theorem a8Z:cm 72 aTX:=by
 refine jC func72 ?_;rintro c m h K ⟨n,k,rfl,d⟩;refine⟨dK [] [] [] [] false,rfl,aH,bBZ n k m h K,ax,?_⟩;exact d
theorem Tp:cm 33 bZZ:=by
 refine jC func33 ?_;rintro c m h K ⟨t,rfl,d⟩;refine⟨dK [] [] [] [] false,rfl,aH,bCZ t m h K,ax,?_⟩;exact d
theorem bbQ:cm 36 cDZ:=by
 refine jC func36 ?_;rintro J m h K ⟨cb,v,s,c,rfl,L,M,Y,O⟩;refine⟨cpQ cb v s h,rfl,aE MO (aE E6 aH),XW cb v s m h K,ax,?_⟩;dsimp only[XW,push_cast];have P:=M.slen;refine⟨λ⟨i,gr,od,F⟩=>i<=c.length/\gr.length<=i/\od.length<=i/\bV m F cb/\bB F h cb,λ⟨i,_,_,_⟩=>c.length-i,⟨(0,[],[],m),⟨aC,ay,ay,.refl _ _,L⟩,MT⟩,?_⟩;rintro⟨i,gr,od,Z⟩ ⟨hi,hg,ho,n,G⟩;dsimp only;refine aF (λQ=>?_) (λR=>?_)
 .have fin:∀(f:cn)(g:cv) m',f.length<=i+1->g.length<=i+1->bV m m' cb->bB m' h cb->(i+1<=c.length/\f.length<=i+1/\g.length<=i+1/\bV m m' cb/\bB m' h cb):=λf g m' H B S T=>⟨aC,H,B,S,T⟩
  refine⟨cb,3,rfl,aC,aC,G,λr I j A=>aD (λ_=>⟨bf,bf,cb,3,rfl,aC,aC,A,λC o t u=>aD (λ_=>⟨cb,2,rfl,aC,aC,u,λy z D E=>⟨bf,bf,(i+1,gr++[(i:Int)],od++[((i:Int),y)],z),fin (gr++[(i:Int)]) (od++[((i:Int),y)]) z bf bf (((n.trans j).trans t).trans D) E,aC,?_⟩⟩) (λ_=>⟨(i+1,gr++[(i:Int)],od,o),fin (gr++[(i:Int)]) od o bf aC ((n.trans j).trans t) u,aC,?_⟩)⟩)
   (λ_=>⟨cb,3,rfl,aC,aC,A,λC o t u=>aD (λ_=>⟨cb,2,rfl,aC,aC,u,λy z D E=>⟨bf,bf,(i+1,gr,od++[((i:Int),y)],z),fin gr (od++[((i:Int),y)]) z aC bf (((n.trans j).trans t).trans D) E,aC,?_⟩⟩) (λ_=>⟨(i+1,gr,od,o),fin gr od o aC aC ((n.trans j).trans t) u,aC,MT⟩)⟩)⟩
  .simp only[bu];exact MT
  .simp only[bu];exact MT
  .simp only[bu];exact MT
 .refine⟨cb,4,rfl,G,λk I U k1 j A V H e W X B d C=>?_⟩;exact O V X k gr od I B (e.trans d) ⟨W.mono d,aC⟩ ⟨C,aC⟩ aC aC U aC (n.trans j) (A.mono (e.trans d))
def b1J:Vc.Spec:=λc m h K=>∃cb s t a b,c=[cP cb,cS s,cS t]/\bB m h cb/\Ints h s a/\Ints h t b/\a.length<=1000/\b.length<=1000/\
 ∀o on m' h',PH.le h h'->jD h' o on->on.length<=10->bV m m' cb->bB m' h' cb->K (cS o) m' h'
noncomputable def cpZ cb s t h:=
 dK [(19,Mb)] [(3,{A:=Int×cu×MH,st:=λ⟨n,on,m⟩=>bY 77 80 [(0,pv cb),(1,sv s),(2,sv t),(7,.at (.lst 75)),(8,iv n)] [(75,.lst 130 2 (on.map sM))] m h}),
  (8,{A:=Int×Nat×cu×(Int×Int)×Bool×MH,st:=λ⟨n,i,on,p,f,m⟩=>bY 77 80 [(0,pv cb),(1,sv s),(2,sv t),(7,.at (.lst 75)),(8,iv n),(9,.at (.ptr 9 0)),(10,bv f),(49,.at (.lst 75)),(50,iv on.length),(51,iv i)] [(9,.cells 130 [.val (.int .i64 p.1),.val (.int .i64 p.2)]),(75,.lst 130 2 (on.map sM))] m h})] [] [] false
abbrev Ez a:=List.map sM a
abbrev Cu(a:Int×cu×MH):=Ez a.2.1
abbrev F6(a:Int×Nat×cu×(Int×Int)×Bool×MH):=a.2.2.2.2.1
abbrev Ct(a:Int×Nat×cu×(Int×Int)×Bool×MH):=a.2.2.1.length
abbrev Ai(a:Int×Nat×cu×(Int×Int)×Bool×MH):=a.2.2.2.1
abbrev uL(a:Int×Nat×cu×(Int×Int)×Bool×MH):=Ez a.2.2.1
abbrev Be(a:Int×Nat×cu×(Int×Int)×Bool×MH):=a.2.2.2.2.2
abbrev Pd(a:dz->Prop)(b:dz->Nat)(c d:Nat)(e g:Sl)(i:Int×Nat×cu×(Int×Int)×Bool×MH)(j:dz->Int×Nat×cu×(Int×Int)×Bool×MH)(k:dz->Prop):=∃(x:Int×Nat×cu×(Int×Int)×Bool×MH),aA (a x) (b x<c) (aA (cX d) (aI e) (aA (aI g) (eL 75) (aA (dA i.1 (j x).1) (eP 9) (k x))))
attribute [push_cast] Ez Cu F6 Ct Ai uL Be Pd
def XY(cb:Nat)(s t:Sl)(m:MH)(h:PH)(K:cq):=
  mS cb 3 m h (λk F=>∃(I:Int×cu×MH->Prop)(n:Int×cu×MH->Nat),(∃(x:Int×cu×MH),aA (I x) (cX cb) (aA (aI s) (aI t) (aA (eL 75) (dA k x.1) (aA (vB 130 2 (Cu x)) (F=x.2.2) (bU h h)))))/\∀(x:Int×cu×MH),I x->gA x.1 0 (gA (aG s) 0 (gA (aG t) 0 (mS cb (aG s) x.2.2 h (λu G=>mS cb (aG t) G h (λz A=>aA (cN 0) ((0:Int)<2) (bK (λb o=>aA (aR s.a b o) (0<=u) (u<aG s/\∃(y:Int),aA (aK A h b (gH o u 1) (bC y)) ((0:Int)<=1) ((1:Int)<2/\bK (λC D=>aA (aR t.a C D) (0<=z) (z<aG t/\∃(E:Int),aK A h C (gH D z 1) (bC E)/\∃(I1:Int×Nat×cu×(Int×Int)×Bool×MH->Prop)(f:Int×Nat×cu
 ×(Int×Int)×Bool×MH->Nat),(∃(c:Int×Nat×cu×(Int×Int)×Bool×MH),aA (I1 c) (cX cb) (aA (aI s) (aI t) (aA (eL 75) (dA x.1 c.1) (aA (eP 9) (kN (y==E) (F6 c)) (aA (eL 75) (cJ (Cu x).length (Ct c)) (aA (bA c.2.1) (F5 (pA (kL u) (kL z)) (xS (Ai c))) (dJ (bW 130 2 (Cu x)=bW 130 2 (uL c)) A (Be c) h h)))))))/\∀(c:Int×Nat×cu×(Int×Int)×Bool×MH),I1 c->aY (↑c.2.1:Int) (↑(Ct c):Int) (qS (↑c.2.1:Int) (uL c) (λe=>mH (uL c) (nL c.2.1) e/\∃(B:Int×Int),gX (uI 2 e (vZ B)) (F6 c) (aA (cN 0) ((0:Int)<2) (aA (cN 0) ((0:Int)<2) (dR B.1 (Ai c).1 (aA (cN 1) ((1:Int)<2) (aA (cN 1) ((1:Int)<2) (Pd
 (λd=>I1 d) (λd=>f d) (f c) cb s t c (λd=>d) (λd=>aA (kN (B.2 !=(Ai c).2) (F6 d)) (eL 75) (aA (cJ (Ct c) (Ct d)) (iH (bE c.2.1 1)=bP d.2.1) (aA (F5 (xS (Ai c)) (xS (Ai d))) (bW 130 2 (uL c)=bW 130 2 (uL d)) (aA (Be c=Be d) (h=h) True))))))) (Pd (λd=>I1 d) (λd=>f d) (f c) cb s t c (λd=>d) (λd=>aA (B6 (F6 d)) (eL 75) (aA (cJ (Ct c) (Ct d)) (iH (bE c.2.1 1)=bP d.2.1) (aA (F5 (xS (Ai c)) (xS (Ai d))) (bW 130 2 (uL c)=bW 130 2 (uL d)) (aA (Be c=Be d) (h=h) True)))))))) (Pd (λd=>I1 d) (λd=>f d) (f c) cb s t c (λd=>d) (λd=>aA (B6 (F6 d)) (eL 75) (aA (cJ
 (Ct c) (Ct d)) (iH (bE c.2.1 1)=bP d.2.1) (aA (F5 (xS (Ai c)) (xS (Ai d))) (bW 130 2 (uL c)=bW 130 2 (uL d)) (aA (Be c=Be d) (h=h) True))))))) (branch (F6 c) (aA (jN (kB (uL c) 1) 16) (eA (uL c)) (∃(d:Int×cu×MH),aA (I d) (n d<n x) (aA (cX cb) (aI s) (aA (aI t) (eL 75) (aA (dA (iF (c.1-1)) d.1) (bW 130 2 (dP (uL c) (vZ (Ai c)))=bW 130 2 (Cu d)) (eM (Be c) d.2.2 h h)))))) (∃(d:Int×cu×MH),aA (I d) (n d<n x) (aA (cX cb) (aI s) (aA (aI t) (eL 75) (aA (dA (iF (c.1-1)) d.1) (bW 130 2 (uL c)=bW 130 2 (Cu d)) (eM (Be c) d.2.2 h h))))))))))))))) (cK h 2 (Cu x) (λg j=>K (nW
 g) x.2.2 j))) (cK h 2 (Cu x) (λg j=>K (nW g) x.2.2 j))) (cK h 2 (Cu x) (λg j=>K (nW g) x.2.2 j)))
theorem bbZ:cm 34 b1J:=by
 refine jC func34 ?_;rintro L m h K ⟨cb,s,t,a,b,rfl,M,C,D,l1,l2,O⟩;refine⟨cpZ cb s t h,rfl,aE MO aH,XY cb s t m h K,ax,?_⟩;dsimp only[XY,push_cast];have P:=C.slen;have Q:=D.slen;refine⟨cb,3,rfl,M,λk g E R d j=>⟨λ⟨n,on,A⟩=>0<=n/\n<=2/\(on.length:Int)<=2-n/\bV m A cb/\bB A h cb,λ⟨n,_,_⟩=>n.toNat,⟨(k,[],g),⟨E,aC,bf,d,j⟩,MT⟩,?_⟩⟩;clear E R d j g;rintro⟨n,on,g⟩ ⟨n0,n1,S,d,j⟩;dsimp only;have out:∀(e:Sl)(h':PH),PH.le h h'->dH h' e 2 (on.map sM)->K (.val (.slice e.a e.len e.cap)) g h':=λe h' o u=>O e on g h' o ⟨u,aC⟩ aC d (j.mono o);refine aF (λhn=>aF (λhp=>aF (λhq=>?_) (λ_=>out)) (λ_=>out)) (λ_=>out);refine⟨cb,s.len,rfl,j,λx m2 F x1 G T=>⟨cb,t.len,rfl,T,λy c H y1 I J=>?_⟩⟩;obtain⟨U,V,W,X⟩:=C.inb (n:=x) F aC;obtain⟨Y,Z,e2,r2⟩:=D.inb (n:=y) H aC;refine⟨aC,aC,U,V,W,F,aC,_,.imm X,aC,aC,Y,Z,e2,H,aC,_,.imm r2,?_⟩;refine⟨λ⟨n',i,B,p,f,A⟩=>n'=n/\B=on/\A=c/\i<=on.length,λ⟨_,i,_,_,_,_⟩=>on.length-i,⟨(n,0,on,(x,y),a.getD x.toNat 0==b.getD y.toNat 0,c),⟨rfl,rfl,rfl,aC⟩,?_⟩,?_⟩
 .rw[length_map];exact MT
 rintro⟨n,i,on,p,f,c⟩ ⟨rfl,rfl,rfl,hi⟩;dsimp only;refine aF (λa'=>?_) (λa0=>?_)
 .have hl:i<on.length:=by omega
  have z:(on.map sM)[i]? =some (sM on[i]):=bg
  refine⟨aC,bg,_,z,on[i],rfl,aD (λ_=>⟨aC,aC,aC,aC,aD (λ_=>⟨aC,aC,aC,aC,(n,i+1,on,p,_,c),⟨rfl,rfl,rfl,bj⟩,bi,MT⟩) (λ_=>⟨(n,i+1,on,p,_,c),⟨rfl,rfl,rfl,bj⟩,bi,MT⟩)⟩) (λ_=>⟨(n,i+1,on,p,_,c),⟨rfl,rfl,rfl,bj⟩,bi,MT⟩)⟩
 .have hw:IntKind.i64.wrap (n-1)=n-1:=fL aC aC;rw[hw];refine aD (λ_=>⟨bg,bg,(n-1,on++[p],c),⟨aC,aC,bf,(d.trans G).trans I,J⟩,aC,?_⟩) (λ_=>⟨(n-1,on,c),⟨aC,aC,bg,(d.trans G).trans I,J⟩,aC,MT⟩);rw[bu];exact MT
def cYQ:Vc.Spec:=λd m h K=>∃s e,∃c:Nat,d=[cS s,cI c]/\dH h s 1 (aX e)/\s.len<=s.cap/\c<=1000/\∀cb m' h',PH.le h h'->m cb=none->bV m m' cb->bB m' h' cb->K (cP cb) m' h'
abbrev Ca(a b:Prop)(c:(List cr)->Prop):=aA a b (∃(x:List cr),c x)
attribute [push_cast] Ca
def aHX(s:Sl)(c:Nat)(m:MH)(h:PH)(K:cq):=
  Ca (cN (ite ((↑c:Int)<aG s) (↑c:Int) (aG s))) (ite ((↑c:Int)<aG s) (↑c:Int) (aG s)<=(↑s.cap:Int)) (λy=>aA (gC 1 y) (vI m h (Sl.mk s.a (ite ((↑c:Int)<aG s) (↑c:Int) (aG s)).toNat s.cap) 1 y) (aA (jN y.length 1) (oK y.length) (cK h 1 y (λf d=>∀(b:Nat)(e:MH),bH (cW m d b) (bJ m e b (kC (dW f) bF) 86) (K (OP b 0) e d)))))
theorem Km l:gC 1 (aX l):=by
 constructor
 .intro e c;obtain⟨x,_,rfl⟩:=mem_map.1 c;rfl
 .intro e c u d;obtain⟨x,_,rfl⟩:=mem_map.1 c;simp at d;subst d;rfl
theorem dH.cut{s}(r:dH h s sz xs) n(c:n<=xs.length):dH h ⟨s.a,n,s.cap⟩ sz (xs.take n):=by
 refine⟨bf,?_,by have d:=r.len;have f:=r.cap;grind⟩;rcases r.row with e|⟨b,o,g,k⟩
 .grind
 grind
theorem bBX:cm 8 cYQ:=by
 refine jC func8 ?_;rintro t m h K ⟨s,g,c,rfl,n,A,B,u⟩;refine⟨qD [] [] [] [] [86] [] false,rfl,aH,aHX s c m h K,ax,?_⟩;have C:s.len=g.length:=by have:=n.len;simpa[aX]using this
 dsimp only[aHX,push_cast];have d:(if(c:Int)<(s.len:Int)then(c:Int)else(s.len:Int))=((min c s.len:Nat):Int):=by omega
 rw[d];have e:=dH.cut n (min c s.len) (by simp[aX];omega);refine⟨aC,aC,aX (g.take (min c s.len)),Km _,.imm ?_,by simp[aX];omega,by simp[aX];omega,λy h' j f b m' z o=>?_⟩
 .rw[show aX (g.take (min c s.len))=(aX g).take (min c s.len)by simp[aX,map_take]];exact e
 .exact u b m' h' j z.m_ ⟨o.other⟩ ⟨_,⟨⟨y,_,0,o.at_,f,aC,bf,rfl⟩⟩⟩
def cFJ:Vc.Spec:=λc m h K=>∃n:Nat,c=[.val (.slice none 0 0),cI n]/\n<=1000/\K (.lst 3 1 []) m h
noncomputable def bKQ c m h:=
 dK [(198,cFJ)] [(3,{A:=Nat×Nat,st:=λ⟨i,n⟩=>bY 36 37 [(0,sv c),(3,iv n),(9,sv c),(10,iv c.len),(11,iv i)] [] m h}),
  (11,{A:=Nat×cn,st:=λ⟨i,l⟩=>bY 36 37 [(6,.at (.lst 24)),(25,sv c),(26,iv c.len),(27,iv i)] [(24,.lst 3 1 (l.map eI))] m h})] [] [] false
abbrev vR(a:Nat):=iF ((↑a:Int)-0)
abbrev JN(a:Int):=a<=140737488355328
abbrev tW(a:Int)(b:cr):=replicate a.toNat b
attribute [push_cast] vR JN tW
def TG(n:Nat)(m:MH)(h:PH)(K:cq):=
  gA (iF ((↑n:Int)-iF ((0:Int)-0))) 0 (aA (cN 0) (cN 0) (aA (0<vR n) (JN (vR n*8)) (aA (JN (vR n)) ((0:Int)<=0) (cN (nN (tW (vR n) (pD bF)))/\K (CV.lst 3 1 []) m h)))) (K (CV.lst 3 1 []) m h)
abbrev Iy(a:(Nat×Nat->Prop)->(Nat×Nat)->Prop)(b:(Nat×Nat->Prop)->(Nat×Nat->Nat)->(Nat×Nat)->Prop):=∃(x:Nat×Nat->Prop)(d:Nat×Nat->Nat),(∃(c:Nat×Nat),a x c)/\∀(c:Nat×Nat),b x d c
abbrev Gg(a:Nat):=cT EH (↑a:Int)
abbrev Hm(a:MH)(b:PH)(c d e g:Nat)(i:cr)(j:(List cr)->Prop):=aK a b c (bL d e g) i/\∃(x:List cr),j x
attribute [push_cast] Iy Gg Hm
def T0 d m h K:=
  Iy (λI x=>aA (I x) (aI d) (aA (bA x.2) (aI d) (aA (bI d) (bA x.1) (aA (m=m) (h=h) True)))) (λI g x=>I x->aY (↑x.1:Int) (aG d) (bK (λb o=>aA (aR d.a b o) (0<=(↑x.1:Int)) ((↑x.1:Int)<aG d/\∃(y:Sl),aK m h b (bL o x.1 1) (aL y)/\aY (bE x.2 (aG y)) 0 False (∃(c:Nat×Nat),aA (I c) (g c<g x) (aA (aI d) (iH (bE x.2 (aG y))=bP c.2) (aA (aI d) (bI d) (aA (iH (bE x.1 1)=bP c.1) (m=m) (bU h h)))))))) (∃(n:Nat),aA (Gg x.2=Gg n) (mY n) (Lf (λI1 c=>aA (I1 c) (eL 24) (aA (aI d) (bI d) (aA (bA c.1) (sU c.2) (aA (m=m) (h=h) True)))) (λI1 j c=>I1 c->aY (↑c.1:Int) (aG d) (bK (λb o=>aA (aR d.a b o) (0<=(↑c.1:Int)) ((↑c.1:Int)<aG d
 /\∃(y:Sl),Hm m h b o c.1 1 (aL y) (λe=>aA (gC 1 e) (dH h (dL y) 1 e) (aA (sQ (qP c) e 8) (sR (qP c) e) (∃(f:Nat×cn),aA (I1 f) (j f<j c) (aA (eL 24) (aI d) (aA (bI d) (iH (bE c.1 1)=bP f.1) (aA (lW (qP c++e) f.2) (m=m) (bU h h)))))))))) (vU h (qP c) K m)))))
theorem acJ:cm 198 cFJ:=by
 refine jC func198 ?_;rintro d m h K ⟨n,rfl,f,c⟩;refine⟨dK [] [] [] [] true,rfl,aH,TG n m h K,ax,?_⟩;dsimp only[TG,push_cast];have e:IntKind.i64.wrap ((n:Int)-0)=n:=by rw[fL aC aC];omega
 have g:IntKind.i64.wrap ((n:Int)-IntKind.i64.wrap (0-0))=n:=by rw[show IntKind.i64.wrap (0-0)=0 from by rw[fL aC aC];rfl,e]
 exact aF (λj=>⟨aC,aC,aC,aC,aC,aC,aC,c⟩) (λ_=>c)
def BZ(ks:List cn):=(ks.map List.length).sum
theorem NX{k}(c:ks[i]? =some k):BZ (ks.take (i+1))=BZ (ks.take i)+k.length:=by
 unfold BZ;rw[cd,c];simp
theorem Mg{ks:List cn}(h:∀k∈ks,k.length<=12):∀i,BZ (ks.take i)<=12*i
 |0=>by simp[BZ]
 |i+1=>by
  have c:=Mg h i;cases e:ks[i]? with
  |none=>rw[cd,e];grind
  |some k=>rw[NX e];grind
theorem Rw:cm 154 Mc:=by
 refine jC func154 ?_;rintro F m h K ⟨B,ks,rfl,y,M,d,G⟩;refine⟨bKQ B m h,rfl,aE acJ aH,T0 B m h K,ax,?_⟩;dsimp only[T0,push_cast];have j:=bM.slen y;refine⟨λ⟨i,n⟩=>i<=ks.length/\n=BZ (ks.take i),λ⟨i,_⟩=>ks.length-i,⟨(0,0),⟨aC,by simp[BZ]⟩,MT⟩,?_⟩;rintro⟨i,n⟩ ⟨C,rfl⟩;dsimp only;have H:=Mg d i;refine aF (λc=>?_) (λt=>?_)
 .obtain⟨k,e⟩:=fK j c;obtain⟨b,o,g,z,r,f⟩:=bM.at y e;have I:=f.slen;have u:=d k (bo e)
  have J:IntKind.i64.wrap ((BZ (ks.take i):Int)+(g.len:Int))=((BZ (ks.take (i+1)):Nat):Int):=by
   rw[NX e,fL aC aC];omega
  refine⟨b,o,z,aC,c,g,.imm r,?_⟩;rw[J];exact aF (λD=>by omega) (λ_=>⟨(i+1,BZ (ks.take (i+1))),⟨aC,rfl⟩,aC,MT⟩)
 .refine⟨BZ (ks.take i),rfl,aC,?_⟩;refine⟨λ⟨i,l⟩=>i<=ks.length/\l=(ks.take i).flatten,λ⟨i,_⟩=>ks.length-i,⟨(0,[]),⟨aC,ay⟩,MT⟩,?_⟩;clear H t C;rintro⟨i,l⟩ ⟨C,rfl⟩;dsimp only;have L:(ks.take i).flatten.length<=12*i:=by have:=Mg d i;simpa[BZ,length_flatten]using this
  refine aF (λc=>?_) (λt g h' A E=>G g h' A ⟨?_,?_⟩)
  .obtain⟨k,e⟩:=fK j c;obtain⟨b,o,g,z,r,f⟩:=bM.at y e;have u:=d k (bo e);refine⟨b,o,z,aC,c,g,.imm r,k.map eI,BM k,f.row,?_,?_,(i+1,(ks.take (i+1)).flatten),⟨aC,rfl⟩,aC,?_⟩
   .grind
   .grind
   .rw[cd,e,Option.toList_some,flatten_append,bu,flatten_cons,flatten_nil,append_nil];exact MT
  .grind
  grind
theorem a8X:∀N,cm 75 (GM N):=aHJ Rw
abbrev B5 a:=Array.mk (pD (SB a 0))
attribute [push_cast] B5
def XF(v:QV)(m:MH)(h:PH)(K:cq):=
  ∀(b:Nat)(c:MH),bH (cW m h b) (bJ m c b v.enc 41) (K (mV 139 (B5 b)) c h)
end Go.Ps
