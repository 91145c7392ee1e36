/- Own work. -/
import Derived.Test.YtafjlhgalgfiaaaGreatDoorCc
set_option linter.unusedVariables false
set_option linter.unusedSimpArgs false
namespace Go.Ps
open Go Go.Vc Go.Proofs List Tryz
variable{K:bo}{m:MH}{h:PH}{s:jQ}{ps:bn}{cb:Nat}{sc:bZ}{v:QV}{p:Pred}{l:bn}{i:Nat}{N:Nat}{m':MH}{h':PH}{co:bn}{gr:bn}{od:bz}{ta:Int}{li:Int}{xs:List bt}{sz:Nat}{ks:List bn}{rs:bn}{r:Sl}{a:bn}{b:Nat}
def bS h s l:=bL h 3 VV.enc Eq s l
theorem bS.mono{s l}(x:bS h s l)(le:PH.le h h'):bS h' s l:=bL.mono x le λ_ _ e=>e
def D9:QV:=⟨0,0,jG,⟨none,0,0⟩,⟨none,0,0⟩,⟨none,0,0⟩,⟨none,0,0⟩,0,⟨none,0,0⟩⟩
theorem bnJ(l:da):fN 21 (l.map QV.enc):=by
 constructor
 .intro e c;obtain⟨x,_,rfl⟩:=mem_map.1 c;rfl
 .intro e c u d;obtain⟨x,_,rfl⟩:=mem_map.1 c;simp[QV.enc]at d;rcases d with rfl|rfl|rfl|rfl|rfl|rfl|rfl|rfl|rfl|rfl|rfl|rfl|rfl|rfl|rfl|rfl|rfl|rfl|rfl|rfl|rfl<;>rfl
mutual
def bgZ:Pred->Nat
 |.mk _ _ _ _ args=>1+LC args
def LC:cn->Nat
 |[]=>0
 |p::ps=>bgZ p+LC ps
end
mutual
def anX:Pred->Nat
 |.mk _ _ _ _ args=>1+N5 args
def N5:cn->Nat
 |[]=>0
 |p::ps=>max (anX p) (N5 ps)
end
mutual
theorem P9:∀(p:Pred)(n:Int),rO p n<=n+bgZ p
 |.mk _ _ _ _ args,n=>by
  have:=NN args (n+1);simp only[rO,bgZ];omega
theorem NN:∀(ps:cn)(n:Int),nC ps n<=n+LC ps
 |[],n=>by simp[nC,LC]
 |p::ps,n=>by
  have c:=P9 p n;have d:=NN ps (rO p n);simp only[nC,LC];omega
end
mutual
theorem N8:∀(p:Pred)(n:Nat),anX p<=n->pG p n=false
 |.mk _ _ _ _ args,0,h=>by simp only[anX]at h;omega
 |.mk _ _ _ _ args,n+1,h=>by
  simp only[anX]at h;simp only[pG];exact Lz args n aC
theorem Lz:∀(ps:cn)(n:Nat),N5 ps<=n->wZ ps n=false
 |[],_,_=>rfl
 |p::ps,n,h=>by
  simp only[N5]at h;simp only[wZ,N8 p n aC,Lz ps n aC,Bool.or_false]
end
def gF:Nat->Nat
 |0=>1
 |d+1=>1+3*gF d
structure Rs(d:Nat)(p:Pred):Prop where
 n:bgZ p<=gF d
 d:anX p<=d+1
theorem cHX:∀d,1<=gF d
 |0=>Nat.le_refl _
 |d+1=>by rw[gF];omega
theorem Rs.leaf d{op c a b}:Rs d (.mk op c a b []):=⟨by simp[bgZ,LC,cHX],by simp[anX,N5]⟩
theorem Rs.node{d op c a b ps}(h:∀p∈ps,Rs d p)(g:ps.length<=3):Rs (d+1) (.mk op c a b ps):=by
 have j:∀l:cn,(∀p∈l,Rs d p)->LC l<=l.length*gF d/\N5 l<=d+1:=λl=>by
  induction l with
  |nil=>intro _;simp[LC,N5]
  |cons p l o=>
   intro f;have t:=o λx u=>f x (mem_cons_of_mem _ u);have e:=f p (mem_cons_self ..);have:=e.n;have:=e.d;simp only[LC,N5,length_cons,Nat.add_mul,Nat.one_mul];omega
 have t:=j ps h;have e:ps.length*gF d<=3*gF d:=Nat.mul_le_mul_right _ g;exact⟨by simp only[bgZ,gF];omega,by simp only[anX];omega⟩
mutual
def lO:Query->Nat
 |.mk _ _ _ _ _ _ _ _ args=>1+kT args
def kT:ce->Nat
 |[]=>0
 |q::qs=>lO q+kT qs
end
mutual
def Dq:Query->Nat
 |.mk _ _ _ _ _ _ _ _ args=>1+BE args
def BE:ce->Nat
 |[]=>0
 |q::qs=>max (Dq q) (BE qs)
end
mutual
def gI(c:Nat):Query->Nat
 |.mk op _ _ _ _ _ _ _ args=>if op=1 then c else if op=4 then xP c args else v8 c args
def v8(c:Nat):ce->Nat
 |[]=>0
 |q::qs=>gI c q+v8 c qs
def xP(c:Nat):ce->Nat
 |[]=>1
 |q::qs=>gI c q*xP c qs
end
mutual
theorem Jk:∀(p:Query)(n:Int),uS p n<=n+lO p/\(uS p n<=24->uS p n=n+lO p)
 |.mk _ _ _ _ _ _ _ _ args,n=>by
  have:=NM args (n+1);simp only[uS,lO];omega
theorem NM:∀(ps:ce)(n:Int),pX ps n<=n+kT ps/\(pX ps n<=24->pX ps n=n+kT ps)
 |[],n=>by simp[pX,kT]
 |p::ps,n=>by
  have c:=Jk p n;have d:=NM ps (uS p n);simp only[pX,kT];omega
end
mutual
theorem N7:∀(p:Query)(n:Nat),Dq p<=n->rI p n=false
 |.mk _ _ _ _ _ _ _ _ args,0,h=>by simp only[Dq]at h;omega
 |.mk _ _ _ _ _ _ _ _ args,n+1,h=>by
  simp only[Dq]at h;simp only[rI];exact Lx args n aC
theorem Lx:∀(ps:ce)(n:Nat),BE ps<=n->Aa ps n=false
 |[],_,_=>rfl
 |p::ps,n,h=>by
  simp only[BE]at h;simp only[Aa,N7 p n aC,Lx ps n aC,Bool.or_false]
end
theorem bmX{q}(d:lO q<=24)(c:Dq q<=8):nI q=true:=by
 have:=(Jk q 0).1;simp only[nI,Bool.and_eq_true,decide_eq_true_eq,N7 q 8 c,Bool.not_false,and_true];omega
theorem HE{q}(h:nI q=true):lO q<=24:=by
 simp only[nI,Bool.and_eq_true,decide_eq_true_eq]at h;have:=(Jk q 0).2 h.1;omega
def gN:Nat->Nat
 |0=>3
 |d+1=>2+2*gN d
def gD:Nat->Nat
 |0=>3
 |d+1=>2+gD d
def gB:Nat->Nat
 |0=>4
 |d+1=>gB d*gB d
structure tH(n d b:Nat)(q:Query):Prop where
 n:lO q<=n
 d:Dq q<=d
 b:gI 4 q<=b
def VP d q:=tH (gN d) (gD d) (gB d) q
def Du:Nat->Query->Prop
 |0,q=>tH 1 1 4 q
 |d+1,q=>tH (1+2*gN d) (1+gD d) (gB d*gB d) q
theorem tH.mono{n d c e f q}(x:tH n d b q)(g:n<=c)(j:d<=e)(o:b<=f):tH c e f q:=⟨Nat.le_trans x.n g,Nat.le_trans x.d j,Nat.le_trans x.b o⟩
theorem Gf:∀d,3<=gN d/\3<=gD d/\4<=gB d
 |0=>az
 |d+1=>by
  obtain⟨e,f,c⟩:=Gf d;have:4*4<=gB d*gB d:=Nat.mul_le_mul c c;simp only[gN,gD,gB];omega
theorem Du.arg:∀{d:Nat}{q:Query},Du d q->VP d q
 |0,_,x=>tH.mono x az az az
 |d+1,_,x=>tH.mono x (by simp only[gN];omega) (by simp only[gD];omega) (by simp only[gB];omega)
theorem tH.one{n d q}(x:tH n d b q)(c:4<=b){op w on}:tH (n+1) (d+1) b (.mk op ta w co on gr od li [q]):=by
 obtain⟨e,f,g⟩:=x;refine⟨by simp only[lO,kT];omega,by simp only[Dq,BE];omega,?_⟩;simp only[gI,xP,v8]
 grind
theorem tH.two{n:Nat}{d f g c q p}(x:tH n d b q)(y:tH f g c p)(j:4<=b)(e:4<=c){op w on}:tH (1+n+f) (1+max d g) (b*c) (.mk op ta w co on gr od li [q,p]):=by
 obtain⟨u,z,o⟩:=x;obtain⟨A,B,t⟩:=y;have C:b*4<=b*c:=Nat.mul_le_mul_left _ e;have D:4*c<=b*c:=Nat.mul_le_mul_right _ j;have E:gI 4 q*gI 4 p<=b*c:=Nat.mul_le_mul o t;refine⟨by simp only[lO,kT];omega,by simp only[Dq,BE];omega,?_⟩;simp only[gI,xP,v8]
 grind
theorem tH.scan{w on}:tH 1 1 4 (.mk 1 ta w co on gr od li []):=⟨by simp[lO,kT],by simp[Dq,BE],by simp[gI]⟩
theorem Du.node{d op w on args}(h:∀a∈args,VP d a)(e:args.length<=2):Du (d+1) (.mk op ta w co on gr od li args):=by
 have c:=(Gf d).2.2;have f:gB d*4<=gB d*gB d:=Nat.mul_le_mul_left _ c
 match args,h,e with
 |[],_,_=>exact⟨by simp only[lO,kT];omega,by simp only[Dq,BE];omega,by simp only[gI,xP,v8];grind⟩
 |[q],h,_=>exact tH.mono (tH.one (h q ay) c) aC aC aC
 |[q,p],h,_=>exact tH.mono (tH.two (h q ay) (h p ay) c c) aC aC (Nat.le_refl _)
theorem Du.filter{d q}(x:Du d q){op w on}:VP d (.mk op ta w co on gr od li [q]):=by
 cases d with
 |zero=>exact tH.mono (tH.one x az) az az az
 |succ d=>
  have c:=(Gf d).2.2;have e:gB d*4<=gB d*gB d:=Nat.mul_le_mul_left _ c;exact tH.mono (tH.one x aC) (by simp only[gN];omega) (by simp only[gD];omega) (by simp only[gB];omega)
theorem VP.three d{q}(x:tH 3 3 4 q):VP d q:=tH.mono x (Gf d).1 (Gf d).2.1 (Gf d).2.2
theorem Du.mono{q:Query}:∀{d e:Nat},Du d q->d<=e->Du e q
 |d,0,x,h=>bg
 |d,e+1,x,h=>by
  by_cases c:d=e+1
  .grind
  .have y:=Du.arg (x.mono (e:=e) aC);have f:=(Gf e).2.2;have g:gB e*1<=gB e*gB e:=Nat.mul_le_mul_left _ aC;exact tH.mono y aC aC aC
abbrev kS(a:MH)(b:PH)(c d:Nat)(e:Sl->Prop):=∃(x:Sl),aK a b c d (aR x)/\e x
abbrev xE a:=oN (Value.int IntKind.u8 a)
abbrev mK a:=a->False
attribute [push_cast] kS xE mK
def XW(cb:Nat)(n:Int)(m:MH)(h:PH)(K:bo):=
  ∃(y:Int),aK m h cb 1 (bB y)/\∃(e:Sl),aK m h cb 0 (aR e)/\iA y (aH e) (K (iR 0) m h) (aY n 1 (K (iR 0) m h) (∃(f:Int),aK m h cb 1 (bB f)/\sR m cb 1 (bB (fG (f+1))) (λc=>kS c h cb 0 (λg=>∃(d:Int),aK c h cb 1 (bB d)/\bJ (λb o=>aI (aW g.a b o) (0<=fG (d-1)) (fG (d-1)<aH g) (∃(j:UInt8),aA (aK c h b (o+gY (fG (d-1)) 1) (xE (zO j))) (mK (n=0)) (K (iR (Int.tmod (fG (zO j)) n)) c h)))))))
theorem cKZ cb n m h K:XW cb n m h K=(wW (ctx [] [] [] [] false) Tryz.f19 (dX Tryz.f19) (entry 40 [.val (.pointer (some ⟨cb,0,none⟩)),.val (.int .i64 n)] m h) K):=ax
def ctX:Vc.Spec:=λc m h K=>∃(cb:Nat)(n:Int)(r:ck),c=[.val (.pointer (some ⟨cb,0,none⟩)),.val (.int .i64 n)]/\atZ m h cb r/\
 ∀m',bP m m' cb->atZ m' h cb (Yr n r).2->K (.val (.int .i64 (Yr n r).1)) m' h
theorem Sz:bm 19 ctX:=by
 refine fK (fn:=Tryz.f19) (c:=dX Tryz.f19) func19 rfl az ?_;rintro G m h K ⟨cb,n,r,rfl,⟨s,d,k,y,e,E,f,rfl⟩,t⟩;refine⟨ctx [] [] [] [] false,rfl,aG,?_⟩;show wW (ctx [] [] [] [] false) Tryz.f19 (dX Tryz.f19) (entry 40 [.val (.pointer (some ⟨cb,0,none⟩)),.val (.int .i64 n)] m h) K;rw[<-cKZ];dsimp only[XW,push_cast];have H:s.len=d.length:=by have:=e.len;simpa[aX]using this
 refine⟨k,.of_m y rfl,s,.of_m y rfl,aF (λI=>?_) (λA=>aF (λB=>?_) (λB=>?_))⟩
 .have u:d.drop k=[]:=bf
  rw[u]at t;exact t m ⟨λ_ _=>rfl⟩ ⟨s,d,k,y,e,E,f,by rw[u];rfl⟩
 .have j:k<d.length:=by omega
  have u:d.drop k=d[k]::d.drop (k+1):=drop_eq_getElem_cons j;rw[u]at t;simp only[Yr,if_pos B]at t;refine t m ⟨λ_ _=>rfl⟩ ⟨s,d,k,y,e,E,f,u.symm⟩
 .have j:k<d.length:=by omega
  have u:d.drop k=d[k]::d.drop (k+1):=drop_eq_getElem_cons j;rw[u]at t;simp only[Yr,if_neg B]at t;have J:IntKind.i64.wrap ((k:Int)+1)=((k+1:Nat):Int):=by rw[fB]<;>omega
  have C:IntKind.i64.wrap (((k+1:Nat):Int)-1)=(k:Int):=by rw[fB]<;>omega
  refine⟨k,.of_m y rfl,_,_,⟨y⟩,ay,λm' F=>?_⟩;have g:=F.at_;rw[J]at g;simp only[splice]at g;obtain z|⟨b,o,L,D⟩:=e.row
  .exfalso;have:=congrArg List.length z;simp[aX]at this
   grind
  refine⟨s,.of_m g rfl,((k+1:Nat):Int),.of_m g rfl,b,o,L,?_⟩;rw[C];refine⟨aC,aC,d[k],.imm ?_,aC,?_⟩
  .have:=D k [.int .u8 d[k].toNat] (by simp[aX,j])
   grind
  .have A:d[k].toNat<256:=d[k].toNat_lt;rw[fB aC aC,Int.tmod_eq_emod_of_nonneg aC];refine t m' ⟨F.other⟩ ⟨s,d,k+1,g,e,aC,f,rfl⟩
def bD m h cb:=∃r,atZ m h cb r
theorem bD.mono(x:bD m h cb)(le:PH.le h h'):bD m h' cb:=by
 obtain⟨r,s,c,k,d,e,f⟩:=x;exact⟨r,s,c,k,d,e.mono le,f⟩
theorem bP.refl m cb:bP m m cb:=⟨λ_ _=>rfl⟩
theorem bP.trans{d}(a:bP m m' cb)(b:bP m' d cb):bP m d cb:=⟨λc e=>(b.other c e).trans (a.other c e)⟩
def uR n:= -9223372036854775808<=n/\n<=9223372036854775807
structure Nh(v:VV):Prop where
 int_:uR v.int
 text_:v.text.size<=64
def KOk(k:Int):=k=3\/k=4\/k=5
def aLX k v:=KOk k->kA v=true/\v.kind=k
def Nl:Vc.Spec:=λc m h K=>∃cb n,c=[cP cb,cI n]/\bD m h cb/\∀k m',0<=k->(k<n\/k=0)->bP m m' cb->bD m' h cb->K (cI k) m' h
def RJ:Vc.Spec:=λc m h K=>∃cb n,c=[cP cb,cI n]/\0<=n/\n<=1000/\bD m h cb/\∀r m',bP m m' cb->bD m' h cb->K (cB r) m' h
def aJZ:Vc.Spec:=λc m h K=>∃cb,c=[cP cb]/\bD m h cb/\∀k m',uR k->bP m m' cb->bD m' h cb->K (cI k) m' h
def cwQ:Vc.Spec:=λc m h K=>∃cb,c=[cP cb]/\bD m h cb/\∀t m',t.size<=64->bP m m' cb->bD m' h cb->K (RY t) m' h
def Vx:Vc.Spec:=λd m h K=>∃cb c,d=[cP cb,cI c]/\bD m h cb/\∀v m',Nh v->aLX c v->bP m m' cb->bD m' h cb->K (aV v) m' h
theorem Ol:bm 19 Nl:=by
 refine⟨Sz.1,λc d m h w K e f=>Sz.2 c d m h w K ?_ f⟩;obtain⟨cb,n,rfl,⟨r,g⟩,j⟩:=e;refine⟨cb,n,r,rfl,g,λm' o t=>j _ m' ?_ ?_ o ⟨_,t⟩⟩
 .cases r with
  |nil=>simp[Yr]
  |cons b r=>
   simp only[Yr]
   grind
 .cases r with
  |nil=>simp[Yr]
  |cons b r=>
   simp only[Yr];split
   .simp
   .exact .inl (Int.emod_lt_of_pos _ aC)
noncomputable def bHJ h:=
 dE [(19,Nl)] [(18,{A:=Nat×ByteArray×MH,st:=λ⟨i,t,m⟩=>bU 37 38 [(3,vv (.string t)),(4,iv i)] [] m h}),(23,{A:=Nat×ByteArray×MH,st:=λ⟨i,t,m⟩=>bU 37 38 [(3,vv (.string t)),(5,iv i)] [] m h})] [] [] false
abbrev kD(a:Nat)(b:Int)(c:Nat->Option Obj)(d:Nat->Nat->Option Value)(e:Int->MH->Prop):=∃(x:Nat)(j:Int),aA (eZ (Oo a 0) b=eZ (Oo x 0) j) (bD c d x) (∀(f:Int)(g:MH),bG (cH f) (f<j\/f=0) (bG (bP c g x) (bD g d x) (e f g)))
attribute [push_cast] kD
def XO(cb:Nat)(n:Int)(m:MH)(h:PH)(K:bo):=
  kD cb n m h (λk c=>K (Af (k==fG (n-1))) c h)
def TF(cb:Nat)(m:MH)(h:PH)(K:bo):=
  kD cb 12 m h (λk c=>dR (k==9) (K (iR (Int.negSucc 0)) c h) (k==10) (K (iR 9223372036854775807) c h) (eU k 11 (K (iR (Int.negSucc 9223372036854775807)) c h) (mK ((4:Int)=0)/\K (iR (Int.tmod k 4)) c h)))
abbrev vX a:=rV (ByteArray.mk (Array.mk a))
abbrev fT(a:Nat)(b:ck):=OfNat.ofNat a::b
abbrev xU a:=fT a []
attribute [push_cast] vX fT xU
def TE(cb:Nat)(m:MH)(h:PH)(K:bo):=
  kD cb 10 m h (λk d=>dR (k==0) (K (vX (xU 97)) d h) (k==1) (K (vX (xU 97)) d h) (dR (k==2) (K (vX (xU 97)) d h) (k==3) (K (vX (xU 98)) d h) (dR (k==4) (K (vX (xU 98)) d h) (k==5) (K (CV.val vQz) d h) (dR (k==6) (K (vX (fT 97 (fT 0 []))) d h) (k==7) (K (vX (xU 255)) d h) (eU k 8 (∃(I:Nat×ByteArray×MH->Prop)(e:Nat×ByteArray×MH->Nat),(∃(x:Nat×ByteArray×MH),aA (I x) (SV.at aQz=SV.at (Nf x.2.1)) (aA (bA x.1) (d=x.2.2) (bT h h)))/\∀(x:Nat×ByteArray×MH),I x->aY (↑x.1:Int) 64 (x.2.1.size<9223372036854775807/\∃(c:Nat×ByteArray×MH),aA (I c) (e c<e x) (aA (SV.at (Nf (x.2.1++ByteArray.mk (Array.mk (xU 255))))=SV.at (Nf c.2.1)) (gK (bE x.1 1)=bO c.1) (dY x.2.2 c.2.2 h h))) (K
 (rV x.2.1) x.2.2 h)) (∃(I:Nat×ByteArray×MH->Prop)(e:Nat×ByteArray×MH->Nat),(∃(x:Nat×ByteArray×MH),aA (I x) (SV.at aQz=SV.at (Nf x.2.1)) (aA (bA x.1) (d=x.2.2) (bT h h)))/\∀(x:Nat×ByteArray×MH),I x->aY (↑x.1:Int) 64 (x.2.1.size<9223372036854775807/\∃(c:Nat×ByteArray×MH),aA (I c) (e c<e x) (aA (SV.at (Nf (x.2.1++ByteArray.mk (Array.mk (xU 98))))=SV.at (Nf c.2.1)) (gK (bE x.1 1)=bO c.1) (dY x.2.2 c.2.2 h h))) (K (rV x.2.1) x.2.2 h)))))))
abbrev oV a b c d:=bD a b c->d
attribute [push_cast] oV
def Xb(cb:Nat)(d:Int)(m:MH)(h:PH)(K:bo):=
  dR (d==3) (kD cb 2 m h (λk e=>K (kQ (bF (fV d) (fV k) C7)) e h)) (d==4) (∃(c:Nat),aA (eO (Oo cb 0) (Oo c 0)) (bD m h c) (∀(k:Int)(e:MH),bG (uR k) (bP m e c) (oV e h c (K (kQ (bF (fV d) (fV k) C7)) e h)))) (∃(c:Nat),aA (eO (Oo cb 0) (Oo c 0)) (bD m h c) (∀(t:ByteArray)(e:MH),bG (t.size<=64) (bP m e c) (oV e h c (K (kQ (bF (fV 5) cL (oN (Value.string t)))) e h))))
theorem cKX{n}(d:bD m h cb)(e:∀r m',bP m m' cb->bD m' h cb->K (cB r) m' h):XO cb n m h K:=
 ⟨cb,n,rfl,d,λ_ m' _ _ f c=>e _ m' f c⟩
theorem Jm:G1 ⟨#[]⟩=true:=by simp[G1,ByteArray.toList_eq]
theorem cEQ{k}(c:0<=k)(d:k<2\/k=0):kA ⟨3,k,⟨#[]⟩⟩=true:=by
 have:k=0\/k=1:=by omega
 rcases this with rfl|rfl<;>simp[kA,Jm]
theorem bkJ k:kA ⟨4,k,⟨#[]⟩⟩=true:=by simp[kA,Jm]
theorem cDJ{t}(h:t.size<=64):kA ⟨5,0,t⟩=true:=by
 simp[kA];omega
theorem CS:bm 25 RJ:=by
 refine iQ func25 ?_;rintro c m h K ⟨cb,n,rfl,_,_,d,e⟩;refine⟨dE [(19,Nl)] [] [] [] false,rfl,aE Ol aG,XO cb n m h K,ax,?_⟩;exact cKX d e
theorem ahX:bm 145 aJZ:=by
 refine iQ func145 ?_;rintro f m h K ⟨cb,rfl,g,d⟩;refine⟨dE [(19,Nl)] [] [] [] false,rfl,aE Ol aG,TF cb m h K,ax,?_⟩;dsimp only[TF,push_cast];refine⟨cb,12,rfl,g,λk m' j n e c=>aD (λ_=>d _ m' ⟨aC,aC⟩ e c) (λ_=>aD (λ_=>d _ m' ⟨aC,aC⟩ e c) (λ_=>aD (λ_=>d _ m' ⟨aC,aC⟩ e c) (λ_=>⟨aC,d _ m' ?_ e c⟩)))⟩;rw[Int.tmod_eq_emod_of_nonneg j];exact⟨aC,aC⟩
theorem ahQ:bm 146 cwQ:=by
 refine iQ func146 ?_;rintro g m h K ⟨cb,rfl,j,d⟩;refine⟨bHJ h,rfl,aE Ol aG,TE cb m h K,ax,?_⟩;dsimp only[TE,push_cast];refine⟨cb,10,rfl,j,λk m' y z e c=>?_⟩;refine aD (λ_=>d _ m' az e c) (λ_=>aD (λ_=>d _ m' az e c) (λ_=>aD (λ_=>d _ m' az e c) (λ_=>aD (λ_=>d _ m' az e c) (λ_=>aD (λ_=>d _ m' az e c) (λ_=>aD (λ_=>d _ m' az e c) (λ_=>aD (λ_=>d _ m' az e c) (λ_=>aD (λ_=>d _ m' az e c) (λ_=>aD (λ_=>?_) (λ_=>?_)))))))))
 all_goals
  refine⟨λ⟨i,t,n⟩=>n=m'/\i<=64/\t.size=i,λ⟨i,_,_⟩=>64-i,⟨(0,⟨#[]⟩,m'),⟨rfl,aC,rfl⟩,MT⟩,?_⟩;rintro⟨i,t,m'⟩ ⟨rfl,A,f⟩;dsimp only;refine aF (λo=>⟨?_,(i+1,_,m'),⟨rfl,aC,?_⟩,bi,MT⟩) (λu=>d t m' aC e c)
  .rw[f];show i+1<=_;omega
  .rw[ByteArray.size_append,f];rfl
theorem Ms:bm 88 Vx:=by
 refine iQ func88 ?_;rintro z m h K ⟨cb,c,rfl,j,n⟩;refine⟨dE [(19,Nl),(145,aJZ),(146,cwQ)] [] [] [] false,rfl,aE Ol (aE ahX (aE ahQ aG)),Xb cb c m h K,ax,?_⟩;dsimp only[Xb,push_cast];refine aD (λe=>⟨cb,2,rfl,j,λk m' A B g d=>n ⟨c,k,⟨#[]⟩⟩ m' ⟨⟨bg,bg⟩,by show(ByteArray.mk #[]).size<=64;decide⟩ (λ_=>?_) g d⟩) (λo=>aD (λe=>⟨cb,rfl,j,λk m' f g d=>n ⟨c,k,⟨#[]⟩⟩ m' ⟨f,by show(ByteArray.mk #[]).size<=64;decide⟩ (λ_=>?_) g d⟩) (λu=>⟨cb,rfl,j,λt m' y g d=>n ⟨5,0,t⟩ m' ⟨⟨ay,ay⟩,y⟩ (λf=>?_) g d⟩))
 .have e:c=3:=bk e
  subst e;exact⟨cEQ A B,rfl⟩
 .have e:c=4:=bk e
  subst e;exact⟨bkJ k,rfl⟩
 .have o:c≠3:=bg
  have u:c≠4:=bg
  exact⟨cDJ y,by rcases f with f|f|f;exact absurd f o;exact absurd f u;exact f.symm⟩
mutual
def D6:Pred->Prop
 |.mk _ _ l r args=>Nh l.value/\Nh r.value/\Nj args
def Nj:cn->Prop
 |[]=>True
 |p::ps=>D6 p/\Nj ps
end
theorem Rw:∀{l:cn},Nj l↔∀p∈l,D6 p
 |[]=>by simp[Nj]
 |p::ps=>by simp[Nj,Rw (l:=ps)]
theorem tI:Nh zeroV:=⟨⟨az,az⟩,az⟩
structure YG(cols params:bn)(kind:Int)(o:OV):Prop where
 val:Nh o.value
 kind:KOk kind->kindOf cols params o=kind
def Ov(l:bn):=∀k∈l,KOk k
structure PW(cols params:bn)(d:Nat)(p:Pred):Prop where
 vals:D6 p
 valid:Ov cols->kI cols params p=true
 siz:Rs d p
def YF:Vc.Spec:=λf m h K=>∃cb s t e d c,f=[cP cb,cS s,cS t,cI e]/\bD m h cb/\Ints h s d/\Ints h t c/\d.length<=1000/\c.length<=1000/\∀o m',YG d c e o->bP m m' cb->bD m' h cb->K (aO o) m' h
def KP(K:bo)(m:MH)(h:PH)(cb:Nat)(R:Pred->Prop):=∀v p m' h',PH.le h h'->fH h' p v->R p->bP m m' cb->bD m' h' cb->K (aP v) m' h'
def bRX N:=λe m h K=>∃cb s t d c,∃deep:Nat,e=[cP cb,cS s,cS t,cI deep]/\bD m h cb/\Ints h s d/\Ints h t c/\d.length<=1000/\c.length<=1000/\deep<N/\deep<=1000/\KP K m h cb (PW d c deep)
structure B5(cols params:bn)(d:Nat)(p:Pred):Prop where
 vals:D6 p
 valid:d<=2->Ov cols->Ov params->iC cols params p=0
def Gs:=λe m h K=>∃cb s t d c,∃deep:Nat,e=[cP cb,cS s,cS t,cI deep]/\bD m h cb/\Ints h s d/\Ints h t c/\d.length<=1000/\c.length<=1000/\deep<=1000/\KP K m h cb (B5 d c deep)
def pv b:=vv (.pointer (some ⟨b,0,none⟩))
noncomputable def bKJ cb s t c m h:=
 dE [(19,Nl),(88,Vx)] [(3,{A:=Nat×dn,st:=λ⟨i,d⟩=>bU 64 68 [(0,pv cb),(2,sv t),(3,iv c),(8,.at (.ptr 8 0)),(9,.at (.lst 29)),(15,sv s),(16,iv s.len),(17,iv i)] [(8,.cells 32 (fS.enc.map .val)),(29,.lst 32 5 (d.map OV.enc))] m h}),
  (9,{A:=Nat×dn,st:=λ⟨i,d⟩=>bU 64 68 [(0,pv cb),(3,iv c),(8,.at (.ptr 8 0)),(9,.at (.lst 29)),(31,sv t),(32,iv t.len),(33,iv i)] [(8,.cells 32 (fS.enc.map .val)),(29,.lst 32 5 (d.map OV.enc))] m h})] [] [] false
noncomputable def cfQ(N cb:Nat)(s t:Sl)(deep:Nat)(c:PH):=
 dE [(19,Nl),(25,RJ),(128,YF),(88,Vx),(65,bRX N)] [(18,{A:=Int×Int×dj×MH×PH,st:=λ⟨op,n,d,m,h⟩=>bU 107 111 [(0,pv cb),(1,sv s),(2,sv t),(3,iv deep),(8,.at (.ptr 8 0)),(12,.at (.ptr 12 0)),(13,iv n)] [(8,.cells 35 (jG.enc.map .val)),(12,.cells 35 (((⟨op,0,fS,fS,⟨none,0,0⟩⟩:PV).enc.take 12).map .val++[.lst 104])),(104,.lst 35 13 (d.map PV.enc))] m h})] [(3,{A:=Int×Bool×MH,st:=λ⟨k,b,m⟩=>bU 107 111 [(0,pv cb),(1,sv s),(2,sv t),(3,iv deep),(8,.at (.ptr 8 0)),(9,iv k),(16,bv b)] [(8,.cells 35 (jG.enc.map .val))] m c}),
  (5,{A:=Int×Bool×MH,st:=λ⟨k,b,m⟩=>bU 107 111 [(0,pv cb),(1,sv s),(2,sv t),(3,iv deep),(8,.at (.ptr 8 0)),(9,iv k),(27,bv b)] [(8,.cells 35 (jG.enc.map .val))] m c}),
  (8,{A:=Int×MH,st:=λ⟨k,m⟩=>bU 107 111 [(0,pv cb),(1,sv s),(2,sv t),(8,.at (.ptr 8 0)),(10,iv k)] [(8,.cells 35 (jG.enc.map .val))] m c}),
  (9,{A:=PV×Int×MH,st:=λ⟨p,k,m⟩=>bU 107 111 [(0,pv cb),(1,sv s),(2,sv t),(8,.at (.ptr 8 0)),(10,iv k),(11,.at (.ptr 11 0))] [(8,.cells 35 (jG.enc.map .val)),(11,.cells 35 (p.enc.map .val))] m c}),
  (11,{A:=PV×MH,st:=λ⟨p,m⟩=>bU 107 111 [(0,pv cb),(8,.at (.ptr 8 0)),(11,.at (.ptr 11 0))] [(8,.cells 35 (jG.enc.map .val)),(11,.cells 35 (p.enc.map .val))] m c}),
  (13,{A:=PV×MH,st:=λ⟨p,m⟩=>bU 107 111 [(8,.at (.ptr 8 0)),(11,.at (.ptr 11 0))] [(8,.cells 35 (jG.enc.map .val)),(11,.cells 35 (p.enc.map .val))] m c})] [] false
abbrev hU:=j9 0
abbrev Fu:=eQ (oQ 32 (gA hU hU (gA (j9 0) hU (wA aQz))))
abbrev uW a b c:=bR a b []=bR a b c
abbrev nD(a:Nat×dn):=List.map OV.enc a.2
abbrev KG(a b:Nat×dn):=gK (bE a.1 1)=bO b.1
abbrev pE(a:Int)(b:List bt)(c:bt->Prop):=aA (cH a) (a<sQ b) (∃(x:bt),c x)
abbrev FJ(a:Nat)(b:Int)(c:Nat->Option Obj)(d:Nat->Nat->Option Value)(e:VV->MH->Prop):=∃(x:Nat)(j:Int),aA (eZ (Oo a 0) b=eZ (Oo x 0) j) (bD c d x) (∀(f:VV)(g:MH),bG (Nh f) (aLX j f) (bG (bP c g x) (bD g d x) (e f g)))
attribute [push_cast] hU Fu uW nD KG pE FJ
def TN(cb:Nat)(s t:Sl)(d:Int)(m:MH)(h:PH)(K:bo):=
  ∃(I:Nat×dn->Prop)(g:Nat×dn->Nat),(∃(x:Nat×dn),aA (I x) (cQ cb) (aA (aJ t) (iI d) (aA iH (eL 29) (aA (aJ s) (bI s) (aA (bA x.1) Fu (aA (uW 32 5 (nD x)) (m=m) (bT h h)))))))/\∀(x:Nat×dn),I x->aY (↑x.1:Int) (aH s) (bJ (λb o=>aI (aW s.a b o) (0<=(↑x.1:Int)) ((↑x.1:Int)<aH s) (∃(y:Int),aK m h b (o+bM x.1 1) (bB y)/\eU y d (aA (i7 (jW (nD x) 1) 48) (dO (nD x)) (∃(c:Nat×dn),aA (I c) (g c<g x) (aA (cQ cb) (aJ t) (aA (iI d) iH (aA (eL 29) (aJ s) (aA (bI s) (KG x c) (aA Fu (bR 32 5 (dL (nD x) (bF (fV 1) (fV (↑x.1:Int)) (bF cL cL C7)))=bR 32 5 (nD c)) (dY m m h h)))))))) (∃(c:Nat×dn),aA (I
 c) (g c<g x) (aA (cQ cb) (aJ t) (aA (iI d) iH (aA (eL 29) (aJ s) (aA (bI s) (KG x c) (aA Fu (bR 32 5 (nD x)=bR 32 5 (nD c)) (dY m m h h)))))))))) (∃(I1:Nat×dn->Prop)(j:Nat×dn->Nat),(∃(c:Nat×dn),aA (I1 c) (cQ cb) (aA (iI d) iH (aA (eL 29) (aJ t) (aA (bI t) (bA c.1) (aA Fu (bR 32 5 (nD x)=bR 32 5 (nD c)) (aA (m=m) (h=h) True))))))/\∀(c:Nat×dn),I1 c->aY (↑c.1:Int) (aH t) (bJ (λb o=>aI (aW t.a b o) (0<=(↑c.1:Int)) ((↑c.1:Int)<aH t) (∃(y:Int),aK m h b (o+bM c.1 1) (bB y)/\eU y d (aA (i7 (jW (nD c) 1) 48) (dO (nD c)) (∃(f:Nat×dn),aA (I1 f) (j f<j c) (aA (cQ cb) (iI d) (aA iH (eL
 29) (aA (aJ t) (bI t) (aA (KG c f) Fu (aA (bR 32 5 (dL (nD c) (bF (fV 2) (fV (↑c.1:Int)) (bF cL cL C7)))=bR 32 5 (nD f)) (m=m) (bT h h)))))))) (∃(f:Nat×dn),aA (I1 f) (j f<j c) (aA (cQ cb) (iI d) (aA iH (eL 29) (aA (aJ t) (bI t) (aA (KG c f) Fu (aA (bR 32 5 (nD c)=bR 32 5 (nD f)) (m=m) (bT h h)))))))))) (kD cb (bE (nD c).length 1) m h (λk n=>aY k (sQ (nD c)) (pE k (nD c) (λe=>mI (nD c) k.toNat e/\∃(y:OV),tW 5 e y.enc/\K (kQ y.enc) n h)) (FJ cb d n h (λv u=>K (kQ (bF (fV 3) cL (bF (fV v.kind) (fV v.int) (oN (Value.string v.text))))) u h)))))
abbrev oB(a:Nat)(b:Int)(c:Nat->Option Obj)(d:Nat->Nat->Option Value)(e:Nat->Bool->Prop):=∃(x:Nat)(f:Int),aA (eZ (Oo a 0) b=eZ (Oo x 0) f) (cH f) (aA (f<=1000) (bD c d x) (∀(g:Bool),e x g))
abbrev vJ:=eQ (oQ 35 zP)
abbrev Kh(a:Int×Bool×MH->Prop)(b:Nat)(c d:Sl)(e:Nat)(g:Int)(i:(Int×Bool×MH)->Prop)(j:Nat->Option Obj)(k:PH):=∃(x:Int×Bool×MH),aA (a x) (cQ b) (aA (aJ c) (aJ d) (aA (eQ (bO e)) iH (aA (dH g x.1) (i x) (cZ vJ j x.2.2 k k))))
abbrev cY a b:=Oo a 0::b
abbrev nO a:=a<=1000
abbrev gS(a:bn):=nO a.length
abbrev Bj(a:OV):=j9 a.index
abbrev CA(a:Nat->Sl->Sl->bn->bn->Nat->Prop):=∃(x:Nat)(c:Sl),Aw (λd e f=>∃(g:Nat),a x c d e f g)
abbrev Fo(a:PV->Pred->Prop):=∀(x:PV)(c:Pred),a x c
abbrev eT(a:MH->PH->Prop):=∀(x:MH)(c:PH),a x c
abbrev Ki(a:cr)(b:MH)(c:PH)(d:Nat)(e:PV->MH->PH->Prop):=CA (λx t u j n f=>aA (a=cY x (cX t (iZ u (↑f:Int)))) (bD b c x) (aA (Ints c t j) (Ints c u n) (aA (gS j) (gS n) (aA (f<d) (nO f) (Fo (λy z=>eT (λo g=>bQ c g (fH g z y) (bG (PW j n f z) (bP b o x) (oV o g x (e y o g))))))))))
abbrev KH a b:=gA (j9 a) hU (gA (j9 b) hU (gA hU hU (gA aQz hU (gA hU hU (gA (j9 b) aQz (wA (At.lst 104)))))))
abbrev FM(a:Int×Int×dj×MH×PH):=List.map PV.enc a.2.2.1
abbrev dJ(a:MH)(b:MH×PH):=a=b.1
abbrev CC(a:Int×Int×dj×MH×PH):=a.2.2.2
abbrev fC(a:PH)(b:MH×PH):=a=b.2
attribute [push_cast] oB vJ Kh cY nO gS Bj CA Fo eT Ki KH FM dJ CC fC
def Xp(N cb:Nat)(s t:Sl)(deep:Nat)(m:MH)(h:PH)(K:bo):=
  kD cb 9 m h (λk E=>∃(I:Int×Bool×MH->Prop),eU k 0 (oB cb 2 E h (λc r=>∀(e:MH),bG (bP E e c) (bD e h c) (Kh I cb s t deep k (λx=>kN r x.2.1) e h))) (Kh I cb s t deep k (λx=>El x.2.1) E h)/\∀(x:Int×Bool×MH),gX (I x) x.2.1 (kD cb 2 x.2.2 h (λj e=>K (kQ (bF (fV (fG (1+j))) cL (bF cL cL (bF cL cL (bF vQz cL (bF cL cL (bF cL vQz fW))))))) e h)) (∃(I1:Int×Bool×MH->Prop),aY x.1 6 (Kh I1 cb s t deep x.1 (λn=>yR n.2.1) x.2.2 h) (Kh I1 cb s t deep x.1 (λn=>kN (decide ((↑deep:Int)<1)) n.2.1) x.2.2 h)/\∀(n:Int×Bool×MH),I1 n->dR n.2.1 (∃(I2:Int×MH->Prop),fR (aH s) 0 (kD cb (aH s) n.2.2 h (λj e=>bJ (λb o=>aI (aW s.a b o) (0<=j) (j<
 aH s) (∃(y:Int),aK e h b (o+gY j 1) (bB y)/\∃(d:Int×MH),aA (I2 d) (cQ cb) (aA (aJ s) (aJ t) (aA iH (dH y d.1) (aA vJ (e=d.2) (bT h h)))))))) (∃(d:Int×MH),aA (I2 d) (cQ cb) (aA (aJ s) (aJ t) (aA iH (dH 4 d.1) (aA vJ (n.2.2=d.2) (bT h h)))))/\∀(d:Int×MH),I2 d->∃(I3:PV×Int×MH->Prop),kD cb 6 d.2 h (λj e=>∃(c:Nat),qP (λA C=>∃(H:Int),Jr (λB p=>aA (cY cb (cX s (iZ t d.1))=cY c (cX A (iZ C H))) (bD e h c) (aA (Ints h A B) (Ints h C p) (aA (gS B) (gS p) (∀(o:OV)(z:MH),bG (YG B p H o) (bP e z c) (oV z h c (FJ cb d.1 z h (λv F=>∃(f:PV×Int×MH),aA (I3 f) (cQ cb) (aA (aJ s) (aJ t) (aA iH (dH d.1
 f.2.1) (aA (eP 11) vJ (cZ (oQ 35 (gA (j9 3) (j9 (fG (1+j))) (gA (j9 o.kind) (Bj o) (gA (j9 (pY o)) (j9 (Gz o)) (gA (Nf (Bz o)) (j9 3) (gA hU (j9 v.kind) (gA (j9 v.int) (Nf v.text) (wA JJ)))))))=pZ 35 f.1.enc) F f.2.2 h h)))))))))))))/\∀(f:PV×Int×MH),I3 f->∃(I4:PV×MH->Prop),oB cb 3 f.2.2 h (λc r=>∀(e:MH),bG (bP f.2.2 e c) (bD e h c) (branch r (∃(B:Nat),qP (λA C=>∃(j:Int),Jr (λG p=>aA (cY cb (cX s (iZ t f.2.1))=cY B (cX A (iZ C j))) (bD e h B) (aA (Ints h A G) (Ints h C p) (aA (gS G) (gS p) (∀(o:OV)(z:MH),bG (YG G p j o) (bP e z B) (oV z h B (∃(g:PV×MH),aA (I4 g) (cQ cb) (aA iH (eP 11) (aA vJ (oQ 35 (gA (j9 f.1.op) (j9
 f.1.cmp) (gA (j9 f.1.left.kind) (Bj f.1.left) (gA (j9 (pY f.1.left)) (j9 (Gz f.1.left)) (gA (Nf (Bz f.1.left)) (j9 o.kind) (gA (Bj o) (j9 (pY o)) (gA (j9 (Gz o)) (Nf (Bz o)) (wA (yG f.1.args))))))))=pZ 35 g.1.enc) (aA (z=g.2) (h=h) True))))))))))) (∃(g:PV×MH),aA (I4 g) (cQ cb) (aA iH (eP 11) (aA vJ (pZ 35 f.1.enc=pZ 35 g.1.enc) (aA (e=g.2) (h=h) True))))))/\∀(g:PV×MH),I4 g->∃(I5:PV×MH->Prop),oB cb 6 g.2 h (λc r=>∀(e:MH),bG (bP g.2 e c) (bD e h c) (branch r (∃(u:PV×MH),aA (I5 u) iH (aA (eP 11) vJ (cZ (oQ 35 (gA (j9 g.1.op) (j9 g.1.cmp) (gA (j9 g.1.right.kind) (Bj g.1.right) (gA (j9 (pY g.1.right)) (j9 (Gz g.1.right)) (gA (Nf (Bz g.1.right)) (j9 g.1.left.kind) (gA
 (Bj g.1.left) (j9 (pY g.1.left)) (gA (j9 (Gz g.1.left)) (Nf (Bz g.1.left)) (wA (yG g.1.args))))))))=pZ 35 u.1.enc) e u.2 h h))) (∃(u:PV×MH),aA (I5 u) iH (aA (eP 11) vJ (cZ (pZ 35 g.1.enc=pZ 35 u.1.enc) e u.2 h h)))))/\∀(u:PV×MH),I5 u->K (gP u.1) u.2 h) (n.1==6) (Ki (cY cb (cX s (iZ t (fG ((↑deep:Int)-1))))) n.2.2 h N (λv e D=>bY D 13 (lT v.enc) (λA J=>K (kQ (bF (fV 6) cL (bF cL cL (bF cL cL (bF vQz cL (bF cL cL (bF cL vQz (aR A)))))))) e J))) (kD cb 3 n.2.2 h (λj e=>∃(I2:Int×Int×dj×MH×PH->Prop)(z:Int×Int×dj×MH×PH->Nat),(∃(d:Int×Int×dj×MH×PH),aA (I2 d) (cQ cb) (aA (aJ s) (aJ t) (aA (eQ (bO deep)) iH (aA (eP 12)
 (dH j d.2.1) (aA vJ (oQ 35 (KH (fG (fG (4+n.1)-7)) 0)=oQ 35 (KH d.1 0)) (aA (uW 35 13 (FM d)) (dJ e (CC d)) (kZ (fC h (CC d)))))))))/\∀(d:Int×Int×dj×MH×PH),I2 d->iA d.2.1 0 (Ki (cY cb (cX s (iZ t (fG ((↑deep:Int)-1))))) (CC d).1 (CC d).2 N (λv F D=>aA (i7 (jW (FM d) 1) 136) (dO (FM d)) (∃(f:Int×Int×dj×MH×PH),aA (I2 f) (z f<z d) (aA (cQ cb) (aJ s) (aA (aJ t) (eQ (bO deep)) (aA iH (eP 12) (aA (dH (fG (d.2.1-1)) f.2.1) vJ (aA (oQ 35 (KH d.1 0)=oQ 35 (KH f.1 0)) (bR 35 13 (dL (FM d) v.enc)=bR 35 13 (FM f)) (aA (dJ F (CC f)) (fC D (CC f)) True))))))))) (bY (CC d).2 13 (FM d) (λA D
 =>K (kQ (bF (fV d.1) cL (bF cL cL (bF cL cL (bF vQz cL (bF cL cL (bF cL vQz (aR A)))))))) (CC d).1 D))))))
def XK(N cb:Nat)(s t:Sl)(deep:Nat)(m:MH)(h:PH)(K:bo):=
  Ki (cY cb (cX s (iZ t (↑deep:Int)))) m h N (λv e d=>FG (cX s (fZ t (gP v))) d (λc p f=>eU (iC c p f) 2 (Ki (cY cb (cX s (iZ t 1))) e d N (λg j n=>K (gP g) j n)) (K (gP v) e d)))
theorem Yf:eqV zeroV zeroV=true:=by simp[eqV]
theorem DD:GY 0 fS fS=true:=by simp[GY,eqO,eqV]
theorem Zg{cols params x}(h:cols[i]? =some x):kindOf cols params ⟨1,i,zeroV⟩=x:=by
 have d:=(List.getElem?_eq_some_iff.1 h).1;have e:kindOf cols params ⟨1,i,zeroV⟩=rX cols ⟨1,i,zeroV⟩:=rfl;have c:=Yf;rw[e];simp only[rX,c,Bool.not_true,Bool.or_false]
 grind
theorem Zf{cols params x}(h:params[i]? =some x):kindOf cols params ⟨2,i,zeroV⟩=x:=by
 have d:=(List.getElem?_eq_some_iff.1 h).1;have e:kindOf cols params ⟨2,i,zeroV⟩=rX params ⟨2,i,zeroV⟩:=rfl;have c:=Yf;rw[e];simp only[rX,c,Bool.not_true,Bool.or_false]
 grind
theorem Wz{cols params c v}(f:Nh v)(g:aLX c v):YG cols params c ⟨3,0,v⟩:=⟨f,λh=>by
 obtain⟨j,d⟩:=g h;have e:kindOf cols params ⟨3,0,v⟩=if((0:Int) !=0|| !pI v)then 0 else v.kind:=rfl
 rw[e,if_neg,d];simp only[pI,j,d];rcases h with rfl|rfl|rfl<;>decide⟩
theorem ajX:bm 128 YF:=by
 refine iQ func128 ?_;rintro U m h K ⟨cb,s,t,d,e,c,rfl,V,P,Q,Z,l2,R⟩;refine⟨bKJ cb s t d m h,rfl,aE Ol (aE Ms aG),TN cb s t d m h K,ax,?_⟩;dsimp only[TN,push_cast];have E:=P.slen;have F:=Q.slen;refine⟨λ⟨i,f⟩=>i<=e.length/\f.length<=i/\∀o∈f,YG e c d o,λ⟨i,_⟩=>e.length-i,⟨(0,[]),⟨aC,ay,ay⟩,MT⟩,?_⟩;rintro⟨i,f⟩ ⟨S,y,g⟩;dsimp only;refine aF (λj=>?_) (λz=>?_)
 .obtain⟨x,A⟩:=eV E j;obtain⟨G,H,I,J⟩:=P.at' A;refine⟨G,H,I,aC,j,x,.imm J,aD (λW=>⟨bf,bf,(i+1,f++[⟨1,i,zeroV⟩]),⟨aC,bf,?_⟩,aC,?_⟩) (λ_=>⟨(i+1,f),⟨aC,bg,g⟩,aC,MT⟩)⟩
  .intro o u;rcases mem_append.1 u with n|n
   .grind
   .simp at n;subst n;exact⟨tI,λ_=>by rw[Zg (bk A)];grind⟩
  .rw[map_append];exact MT
 refine⟨λ⟨i,f⟩=>i<=c.length/\f.length<=1000+i/\∀o∈f,YG e c d o,λ⟨i,_⟩=>c.length-i,⟨(0,f),⟨aC,aC,g⟩,MT⟩,?_⟩;clear S y g z;rintro⟨i,f⟩ ⟨S,y,g⟩;dsimp only;refine aF (λj=>?_) (λz=>?_)
 .obtain⟨x,A⟩:=eV F j;obtain⟨G,H,I,J⟩:=Q.at' A;refine⟨G,H,I,aC,j,x,.imm J,aD (λW=>⟨bf,bf,(i+1,f++[⟨2,i,zeroV⟩]),⟨aC,bf,?_⟩,aC,?_⟩) (λ_=>⟨(i+1,f),⟨aC,bg,g⟩,aC,MT⟩)⟩
  .intro o u;rcases mem_append.1 u with n|n
   .grind
   .simp at n;subst n;exact⟨tI,λ_=>by rw[Zf (bk A)];grind⟩
  .rw[map_append];exact MT
 .refine⟨cb,_,rfl,V,λk m' X n u B=>aF (λT=>?_) (λT=>⟨cb,d,rfl,B,λv L Y M O C=>R ⟨3,0,v⟩ L (Wz Y M) (u.trans O) C⟩)⟩;have D:k.toNat<f.length:=bg
  exact⟨X,T,_,by rw[getElem?_map,getElem?_eq_getElem D];rfl,f[k.toNat],rfl,R _ m' (g _ (getElem_mem D)) u B⟩
theorem Qp{h v}(c:v.args=⟨none,0,0⟩):fH h (.mk v.op v.cmp v.left v.right []) v:=fH.mk (by rw[c];exact .nil _ _ _ _)
structure b1X(cols params:bn)(kd:Int)(p:PV):Prop where
 args_:p.args=⟨none,0,0⟩
 op_:p.op=3
 cmp_:1<=p.cmp/\p.cmp<=6
 left_:YG cols params kd p.left
 right_:YG cols params kd p.right
 kind_:Ov cols->KOk kd
theorem b7J{k}(h:KOk k):k≠0:=by rcases h with rfl|rfl|rfl<;>decide
theorem b1X.pw{cols params f p}(x:b1X cols params f p) d:PW cols params d (.mk p.op p.cmp p.left p.right []):=by
 refine⟨⟨x.left_.val,x.right_.val,trivial⟩,λg=>?_,Rs.leaf d⟩;have c:=x.kind_ g;have j:=x.left_.kind c;have n:=x.right_.kind c;have o:=b7J c;have e:=x.cmp_;rw[x.op_];simp[kI,j,n,o,e.1,e.2]
theorem cFQ{cols params d}(x:PW cols params d p):PW cols params (d+1) (.mk 6 0 fS fS [p]):=
 ⟨⟨tI,tI,x.vals,trivial⟩,λf=>by
  have e:=DD;simp[kI,yJ,e,x.valid f],Rs.node (λq c=>by simp at c;subst c;exact x.siz) ay⟩
theorem cFX{cols params d op ps}(f:op=4\/op=5)(x:∀p∈ps,PW cols params d p)(g:ps.length<=3):PW cols params (d+1) (.mk op 0 fS fS ps):=
 ⟨⟨tI,tI,Rw.2 λp c=>(x p c).vals⟩,λj=>by
  have e:=DD;have n:yJ cols params ps=true:=by rw[GR,all_eq_true];exactλp c=>(x p c).valid j
  rcases f with rfl|rfl<;>simp[kI,e,n],Rs.node (λq o=>(x q o).siz) g⟩
theorem aCZ:∀N,bm 65 (bRX N)
 |0=>by
  refine fK (fn:=Tryz.f65) (c:=dX Tryz.f65) func65 rfl az ?_;rintro a0 m h K ⟨cb,s,t,f,d,deep,rfl,_,_,_,_,_,hN,_⟩;omega
 |N+1=>by
  refine iQ func65 ?_;rintro a0 m h K ⟨cb,s,t,f,d,deep,rfl,hc,M,ht,l1,l2,hN,hd,hK⟩;refine⟨cfQ N cb s t deep h,rfl,aE Ol (aE CS (aE ajX (aE Ms (aE (aCZ N) aG)))),Xp N cb s t deep m h K,ax,?_⟩;dsimp only[Xp,push_cast];have a7:=M.slen;refine⟨cb,9,rfl,hc,λk B L O g y=>?_⟩;refine⟨λ⟨k,_,z⟩=>0<=k/\k<=8/\bP m z cb/\bD z h cb,aD (λ_=>⟨cb,2,rfl,aC,aC,y,λr E C D=>⟨(k,r,E),⟨L,aC,g.trans C,D⟩,MT⟩⟩) (λ_=>⟨(k,false,B),⟨L,aC,g,y⟩,MT⟩),?_⟩;clear L O g y k B;rintro⟨k,b,B⟩ ⟨L,O,g,y⟩;dsimp only;refine aD (λ_=>⟨cb,2,rfl,y,λj E R j1 C D=>?_⟩) (λ_=>?_)
  .refine hK ⟨IntKind.i64.wrap (1+j),0,fS,fS,⟨none,0,0⟩⟩ _ E h (.refl _) (Qp rfl) ⟨⟨tI,tI,trivial⟩,λ_=>?_,Rs.leaf _⟩ (g.trans C) D;have hj:j=0\/j=1:=by omega
   have e1:IntKind.i64.wrap 1=1:=az
   have e2:IntKind.i64.wrap 2=2:=az
   rcases hj with rfl|rfl
   .simp[kI,e1,DD]
   .simp[kI,e2,DD]
  refine⟨λ⟨k,b,z⟩=>0<=k/\k<=8/\(b=false->6<=k/\1<=deep)/\bP m z cb/\bD z h cb,aF (λ_=>⟨(k,true,B),⟨L,O,λe=>(by cases e),g,y⟩,MT⟩) (λhk=>⟨(k,_,B),⟨L,O,λe=>?_,g,y⟩,MT⟩),?_⟩
  .grind
  clear L O g y k B;rintro⟨k,b,B⟩ ⟨L,O,kb,g,y⟩;dsimp only;refine aD (λ_=>?_) (λhb=>?_)
  .refine⟨λ⟨G,z⟩=>(Ov f->KOk G)/\bP m z cb/\bD z h cb,aF (λa6=>⟨cb,s.len,rfl,y,λj E R j1 C D=>?_⟩) (λ_=>⟨(4,B),⟨λ_=>.inr (.inl rfl),g,y⟩,MT⟩),?_⟩
   .obtain⟨b1,a1,e1,r1⟩:=M.inb (n:=j) R aC
    have hm:f.getD j.toNat 0∈f:=by
     grind
    exact⟨b1,a1,e1,R,aC,_,.imm r1,(_,E),⟨λS=>S _ hm,g.trans C,D⟩,MT⟩
   clear g y B;rintro⟨G,B⟩ ⟨T,g,y⟩;dsimp only;refine⟨λ⟨p,G,z⟩=>b1X f d G p/\bP m z cb/\bD z h cb,⟨cb,6,rfl,y,λj E R j1 C D=>⟨cb,s,t,G,f,d,rfl,D,M,ht,l1,l2,λo m3 ho U V=>⟨cb,G,rfl,V,λv m4 hv a2 o4 c4=>⟨(⟨3,IntKind.i64.wrap (1+j),o,⟨3,0,v⟩,⟨none,0,0⟩⟩,G,m4),⟨⟨rfl,rfl,?_,ho,Wz hv a2,T⟩,((g.trans C).trans U).trans o4,c4⟩,MT⟩⟩⟩⟩,?_⟩
   .show 1<=IntKind.i64.wrap (1+j)/\IntKind.i64.wrap (1+j)<=6;rw[fB aC aC];omega
   clear g y B T G;rintro⟨p,G,B⟩ ⟨pw,g,y⟩;dsimp only;refine⟨λ⟨p,z⟩=>b1X f d G p/\bP m z cb/\bD z h cb,⟨cb,3,rfl,aC,aC,y,λr E C D=>aD (λ_=>⟨cb,s,t,G,f,d,rfl,D,M,ht,l1,l2,λo m3 ho U V=>⟨(⟨p.op,p.cmp,p.left,o,p.args⟩,m3),⟨⟨pw.args_,pw.op_,pw.cmp_,pw.left_,ho,pw.kind_⟩,(g.trans C).trans U,V⟩,MT⟩⟩) (λ_=>⟨(p,E),⟨pw,g.trans C,D⟩,MT⟩)⟩,?_⟩;clear pw g y B p;rintro⟨p,B⟩ ⟨pw,g,y⟩;dsimp only;refine⟨λ⟨p,z⟩=>b1X f d G p/\bP m z cb/\bD z h cb,⟨cb,6,rfl,aC,aC,y,λr E C D=>aD (λ_=>⟨(⟨p.op,p.cmp,p.right,p.left,p.args⟩,E),⟨⟨pw.args_,pw.op_,pw.cmp_,pw.right_,pw.left_,pw.kind_⟩,g.trans C,D⟩,MT⟩) (λ_=>⟨(p,E),⟨pw,g.trans C,D⟩,MT⟩)⟩,?_⟩;clear pw g y B p;rintro⟨p,B⟩ ⟨pw,g,y⟩;exact hK p _ B h (.refl _) (Qp pw.args_) (pw.pw deep) g y
  have a3:=kb hb;have hw:IntKind.i64.wrap ((deep:Int)-1)=((deep-1:Nat):Int):=by rw[fB aC aC];omega
  rw[hw];have W:deep=deep-1+1:=by omega
  refine aD (λ_=>⟨cb,s,t,f,d,deep-1,rfl,y,M,ht,l1,l2,aC,aC,λv p E h2 F hr hp C D X Y H I=>?_⟩) (λa4=>⟨cb,3,rfl,y,λj E R j1 C D=>?_⟩)
  .refine hK ⟨6,0,fS,fS,X⟩ (.mk 6 0 fS fS [p]) E Y (F.trans H) (fH.mk (v:=⟨6,0,fS,fS,X⟩) ⟨⟨[v],I,rfl,λi x J=>?_⟩,ay⟩) (by rw[W];exact cFQ hp) (g.trans C) (D.mono H)
   match i,J with
   |0,J=>simp at J;subst J;exact⟨v,rfl,hr.mono H⟩
   |_+1,J=>simp at J
  refine⟨λ⟨op,n,P,z,J⟩=>(op=4\/op=5)/\ -1<=n/\n<=2/\(P.length:Int)<=2-n/\PH.le h J/\bP m z cb/\bD z J cb/\∃ps:cn,ps.length=P.length/\(∀q∈ps,PW f d (deep-1) q)/\∀(i:Nat) q,ps[i]? =some q->∃u,P[i]? =some u/\fH J q u,λ⟨_,n,_,_,_⟩=>(n+1).toNat,⟨(_,j,[],E,h),⟨?_,aC,aC,bf,.refl _,g.trans C,D,[],rfl,ay,λi q Q=>by simp at Q⟩,MT⟩,?_⟩
  .have a4:k≠6:=bg
   have a5:k=7\/k=8:=by omega
   rcases a5 with rfl|rfl
   .exact .inl az
   .exact .inr az
  rintro⟨op,n,P,z,J⟩ ⟨Z,n0,n1,ul,F,ox,cx,ps,pl,pw,a'⟩;dsimp only;refine aF (λhn=>⟨cb,s,t,f,d,deep-1,rfl,cx,M.mono F,ht.mono F,l1,l2,aC,aC,λv p m3 Y A hr hp U V=>⟨bf,bf,(op,n-1,P++[v],m3,Y),⟨Z,bg,bg,bf,F.trans A,ox.trans U,V,ps++[p],by simp[pl],?_,?_⟩,?_,?_⟩⟩) (λhn X Y A I=>?_)
  .grind
  .intro i q Q;by_cases hi:i<ps.length
   .rw[getElem?_append_left hi]at Q;obtain⟨u,h1,h2⟩:=a' i q Q;exact⟨u,bg,h2.mono A⟩
   grind
  .grind
  .rw[map_append,fB aC aC];exact MT
  .exact hK ⟨op,0,fS,fS,X⟩ (.mk op 0 fS fS ps) z Y (F.trans A) (fH.mk (v:=⟨op,0,fS,fS,X⟩) ⟨⟨P,I,pl,λi q Q=>(a' i q Q).imp λu hu=>⟨hu.1,hu.2.mono A⟩⟩,aC⟩) (by rw[W];exact cFX Z pw aC) ox (cx.mono A)
theorem Yl(h:Ov l):l.all gM=true:=all_eq_true.2 λk c=>by
 rcases h k c with e|e|e<;>subst e<;>rfl
theorem axQ{cols params d}(x:PW cols params d p)(e:d<=2)(c:Ov cols)(f:Ov params):iC cols params p=0:=by
 have j:=P9 p 0;have o:=x.siz.n;have g:=N8 p 8 (by have:=x.siz.d;omega)
 have t:gF d<=13:=by match d,e with
  |0,_=>decide
  |1,_=>decide
  |2,_=>decide
 unfold iC;rw[Yl c,Yl f,if_neg ay,g,if_neg bf,x.valid c];rfl
theorem My:bm 27 Gs:=by
 refine iQ func27 ?_;rintro G m h K ⟨cb,s,t,e,c,deep,rfl,H,j,n,z,A,I,B⟩;refine⟨dE [(65,bRX 1001),(66,u6)] [] [] [] false,rfl,aE (aCZ 1001) (aE Mv aG),XK 1001 cb s t deep m h K,ax,?_⟩;dsimp only[XK,push_cast];refine⟨cb,s,t,e,c,deep,rfl,H,j,n,z,A,aC,I,λv p J L d C D E F=>⟨s,t,v,e,c,p,rfl,j.mono d,n.mono d,C,aD (λ_=>⟨cb,s,t,e,c,1,rfl,F,j.mono d,n.mono d,z,A,aC,aC,λM O P Q f o g R S=>B M O P Q (d.trans f) o ⟨g.vals,λ_ u y=>axQ g az u y⟩ (E.trans R) S⟩) (λ_=>B v p J L d C ⟨D.vals,λT u y=>axQ D T u y⟩ E F)⟩⟩
def cE:Sl:=⟨none,0,0⟩
def aNQ:Vc.Spec:=λc m h K=>∃n k,c=[RY n,cI k]/\K (.val (.agg ⟨(pS.mk n k).enc⟩)) m h
def bUX:Vc.Spec:=λc m h K=>∃t,c=[cI t]/\K (aQ ⟨1,t,jG,cE,cE,cE,cE,0,cE⟩) m h
def cuZ(v:QV)(g o:Sl)(k:Int):QV:=⟨v.op,v.table,v.where_,v.columns,v.on,g,o,k,v.args⟩
def cxX:Vc.Spec:=λd m h K=>∃cb v s c,d=[cP cb,aQ (cuZ v cE cE v.limit),cS s]/\bD m h cb/\Ints h s c/\c.length<=1000/\
 ∀g o k gr od m' h',PH.le h h'->Ints h' g gr->jB h' o od->gr.length<=c.length->od.length<=c.length->0<=k->k<=3->bP m m' cb->bD m' h' cb->K (aQ (cuZ v g o k)) m' h'
noncomputable def ciZ(cb:Nat)(v:QV)(s:Sl)(h:PH):=
 dE [(19,Nl),(25,RJ)] [(2,{A:=Nat×bn×bz×MH,st:=λ⟨i,gr,od,m⟩=>bU 37 40 [(0,pv cb),(4,.at (.ptr 4 0)),(6,.at (.ptr 6 0)),(9,iv s.len),(10,iv i)] [(4,.cells 41 ((v.enc.take 17).map .val++[.lst 19,.lst 30,.val (.int .i64 v.limit),.val (.slice v.args.a v.args.len v.args.cap)])),(6,.cells 41 (D9.enc.map .val)),(19,.lst 3 1 (gr.map eI)),(30,.lst 77 2 (od.map Dz))] m h})] [] [] false
def byX(n:ByteArray)(k:Int)(m:MH)(h:PH)(K:bo):=
  K (kQ (rQ n k)) m h
abbrev Cd a:=US (fV 1) (fV a)
attribute [push_cast] Cd
def bzQ(t:Int)(m:MH)(h:PH)(K:bo):=
  K (kQ (Cd t)) m h
abbrev HQ a:=eQ (oQ 41 (gA (j9 a.op) (yT a) (BQ a a.on (At.lst 19) (At.lst 30) (oJ (j9 a.limit) (yG a.args)))))
abbrev jZ:=eQ (oQ 41 zQ)
abbrev sW(a:Nat×bn×bz×MH):=List.map Dz a.2.2.1
abbrev Kj(a:Nat×bn×bz×MH->Prop)(b:Nat×bn×bz×MH->Nat)(c:Nat×bn×bz×MH)(d:Nat)(e:Sl)(g:Prop)(i j:(Nat×bn×bz×MH)->Prop)(k:MH)(l:PH):=∃(x:Nat×bn×bz×MH),aA (a x) (b x<b c) (aA (cQ d) (eP 4) (aA (eP 6) (bI e) (aA (gK (bE c.1 1)=bO x.1) g (aA jZ (i x) (aA (j x) (k=x.2.2.2) (bT l l))))))
attribute [push_cast] HQ jZ sW Kj
def XD(cb:Nat)(v:QV)(s:Sl)(m:MH)(h:PH)(K:bo):=
  ∃(I:Nat×bn×bz×MH->Prop)(o:Nat×bn×bz×MH->Nat),(∃(x:Nat×bn×bz×MH),aA (I x) (cQ cb) (aA (eP 4) (eP 6) (aA (bI s) (bA x.1) (aA (HQ v) jZ (aA (sS x.2.1) (uW 77 2 (sW x)) (aA (m=x.2.2.2) (h=h) True))))))/\∀(x:Nat×bn×bz×MH),I x->aY (↑x.1:Int) (aH s) (oB cb 3 x.2.2.2 h (λc r=>∀(f:MH),bG (bP x.2.2.2 f c) (bD f h c) (branch r (aA (i7 (jW (gW x.2.1) 1) 8) (dO (gW x.2.1)) (oB cb 3 f h (λj t=>∀(e:MH),bG (bP f e j) (bD e h j) (branch t (oB cb 2 e h (λn u=>∀(g:MH),bG (bP e g n) (bD g h n) (aA (i7 (jW (sW x) 1) 16) (dO (sW x)) (Kj I o x cb s (HQ v) (λd=>lK
 (dL (gW x.2.1) (bB (↑x.1:Int))) d.2.1) (λd=>bR 77 2 (dL (sW x) (jX (fV (↑x.1:Int)) (Value.bool u)))=bR 77 2 (sW d)) g h)))) (Kj I o x cb s (HQ v) (λd=>lK (dL (gW x.2.1) (bB (↑x.1:Int))) d.2.1) (λd=>bR 77 2 (sW x)=bR 77 2 (sW d)) e h))))) (oB cb 3 f h (λj t=>∀(e:MH),bG (bP f e j) (bD e h j) (branch t (oB cb 2 e h (λn u=>∀(g:MH),bG (bP e g n) (bD g h n) (aA (i7 (jW (sW x) 1) 16) (dO (sW x)) (Kj I o x cb s (HQ v) (λd=>lK (gW x.2.1) d.2.1) (λd=>bR 77 2 (dL (sW x) (jX (fV (↑x.1:Int)) (Value.bool u)))=bR 77 2 (sW d)) g h)))) (Kj I o x cb s (HQ v) (λd=>lK (gW x.2.1) d.2.1) (λd=>bR 77 2
 (sW x)=bR 77 2 (sW d)) e h))))))) (kD cb 4 x.2.2.2 h (λk f=>bY h 1 (gW x.2.1) (λy z=>bY z 2 (sW x) (λA B=>K (kQ (vI v v (vP v (bF (dP v.on) (dP y) (bF (dP A) (fV k) (aR v.args)))))) f B))))
theorem a2J:bm 72 aNQ:=by
 refine iQ func72 ?_;rintro c m h K ⟨n,k,rfl,d⟩;refine⟨dE [] [] [] [] false,rfl,aG,byX n k m h K,ax,?_⟩;exact d
theorem SQ:bm 33 bUX:=by
 refine iQ func33 ?_;rintro c m h K ⟨t,rfl,d⟩;refine⟨dE [] [] [] [] false,rfl,aG,bzQ t m h K,ax,?_⟩;exact d
theorem a5Z:bm 36 cxX:=by
 refine iQ func36 ?_;rintro J m h K ⟨cb,v,s,c,rfl,L,M,Y,O⟩;refine⟨ciZ cb v s h,rfl,aE Ol (aE CS aG),XD cb v s m h K,ax,?_⟩;dsimp only[XD,push_cast];have P:=M.slen;refine⟨λ⟨i,gr,od,F⟩=>i<=c.length/\gr.length<=i/\od.length<=i/\bP m F cb/\bD F h cb,λ⟨i,_,_,_⟩=>c.length-i,⟨(0,[],[],m),⟨aC,ay,ay,.refl _ _,L⟩,MT⟩,?_⟩;rintro⟨i,gr,od,Z⟩ ⟨hi,hg,ho,n,G⟩;dsimp only;refine aF (λQ=>?_) (λR=>?_)
 .have fin:∀(f:bn)(g:bz) m',f.length<=i+1->g.length<=i+1->bP m m' cb->bD m' h cb->(i+1<=c.length/\f.length<=i+1/\g.length<=i+1/\bP m m' cb/\bD m' h cb):=λf g m' H B S T=>⟨aC,H,B,S,T⟩
  refine⟨cb,3,rfl,aC,aC,G,λr I j A=>aD (λ_=>⟨bf,bf,cb,3,rfl,aC,aC,A,λC o t u=>aD (λ_=>⟨cb,2,rfl,aC,aC,u,λy z D E=>⟨bf,bf,(i+1,gr++[(i:Int)],od++[((i:Int),y)],z),fin (gr++[(i:Int)]) (od++[((i:Int),y)]) z bf bf (((n.trans j).trans t).trans D) E,aC,?_⟩⟩) (λ_=>⟨(i+1,gr++[(i:Int)],od,o),fin (gr++[(i:Int)]) od o bf aC ((n.trans j).trans t) u,aC,?_⟩)⟩)
   (λ_=>⟨cb,3,rfl,aC,aC,A,λC o t u=>aD (λ_=>⟨cb,2,rfl,aC,aC,u,λy z D E=>⟨bf,bf,(i+1,gr,od++[((i:Int),y)],z),fin gr (od++[((i:Int),y)]) z aC bf (((n.trans j).trans t).trans D) E,aC,?_⟩⟩) (λ_=>⟨(i+1,gr,od,o),fin gr od o aC aC ((n.trans j).trans t) u,aC,MT⟩)⟩)⟩
  .simp only[map_append];exact MT
  .simp only[map_append];exact MT
  .simp only[map_append];exact MT
 .refine⟨cb,4,rfl,G,λk I U k1 j A V H e W X B d C=>?_⟩;exact O V X k gr od I B (e.trans d) ⟨W.mono d,aC⟩ ⟨C,aC⟩ aC aC U aC (n.trans j) (A.mono (e.trans d))
def bWX:Vc.Spec:=λc m h K=>∃cb s t a b,c=[cP cb,cS s,cS t]/\bD m h cb/\Ints h s a/\Ints h t b/\a.length<=1000/\b.length<=1000/\
 ∀o on m' h',PH.le h h'->jC h' o on->on.length<=10->bP m m' cb->bD m' h' cb->K (cS o) m' h'
noncomputable def cjQ cb s t h:=
 dE [(19,Nl)] [(3,{A:=Int×bu×MH,st:=λ⟨n,on,m⟩=>bU 77 80 [(0,pv cb),(1,sv s),(2,sv t),(7,.at (.lst 75)),(8,iv n)] [(75,.lst 130 2 (on.map sH))] m h}),
  (8,{A:=Int×Nat×bu×(Int×Int)×Bool×MH,st:=λ⟨n,i,on,p,f,m⟩=>bU 77 80 [(0,pv cb),(1,sv s),(2,sv t),(7,.at (.lst 75)),(8,iv n),(9,.at (.ptr 9 0)),(10,bv f),(49,.at (.lst 75)),(50,iv on.length),(51,iv i)] [(9,.cells 130 [.val (.int .i64 p.1),.val (.int .i64 p.2)]),(75,.lst 130 2 (on.map sH))] m h})] [] [] false
abbrev Er a:=List.map sH a
abbrev Ch(a:Int×bu×MH):=Er a.2.1
abbrev FO(a:Int×Nat×bu×(Int×Int)×Bool×MH):=a.2.2.2.2.1
abbrev Cg(a:Int×Nat×bu×(Int×Int)×Bool×MH):=a.2.2.1.length
abbrev zW(a:Int×Nat×bu×(Int×Int)×Bool×MH):=a.2.2.2.1
abbrev uA(a:Int×Nat×bu×(Int×Int)×Bool×MH):=Er a.2.2.1
abbrev AY(a:Int×Nat×bu×(Int×Int)×Bool×MH):=a.2.2.2.2.2
abbrev OL(a:di->Prop)(b:di->Nat)(c d:Nat)(e g:Sl)(i:Int×Nat×bu×(Int×Int)×Bool×MH)(j:di->Int×Nat×bu×(Int×Int)×Bool×MH)(k:di->Prop):=∃(x:Int×Nat×bu×(Int×Int)×Bool×MH),aA (a x) (b x<c) (aA (cQ d) (aJ e) (aA (aJ g) (eL 75) (aA (dH i.1 (j x).1) (eP 9) (k x))))
attribute [push_cast] Er Ch FO Cg zW uA AY OL
def XF(cb:Nat)(s t:Sl)(m:MH)(h:PH)(K:bo):=
  kD cb 3 m h (λk F=>∃(I:Int×bu×MH->Prop)(n:Int×bu×MH->Nat),(∃(x:Int×bu×MH),aA (I x) (cQ cb) (aA (aJ s) (aJ t) (aA (eL 75) (dH k x.1) (aA (uW 130 2 (Ch x)) (F=x.2.2) (bT h h)))))/\∀(x:Int×bu×MH),I x->fR x.1 0 (fR (aH s) 0 (fR (aH t) 0 (kD cb (aH s) x.2.2 h (λu G=>kD cb (aH t) G h (λz A=>aA (cH 0) ((0:Int)<2) (bJ (λb o=>aI (aW s.a b o) (0<=u) (u<aH s) (∃(y:Int),aI (aK A h b (o+gY u 1) (bB y)) ((0:Int)<=1) ((1:Int)<2) (bJ (λC D=>aI (aW t.a C D) (0<=z) (z<aH t) (∃(E:Int),aK A h C (D+gY z 1) (bB E)/\∃(I1:Int×Nat×bu×(Int×Int)×Bool×MH->Prop)(f:Int×Nat×List (Int
 ×Int)×(Int×Int)×Bool×MH->Nat),(∃(c:Int×Nat×bu×(Int×Int)×Bool×MH),aA (I1 c) (cQ cb) (aA (aJ s) (aJ t) (aA (eL 75) (dH x.1 c.1) (aA (eP 9) (kN (y==E) (FO c)) (aA (eL 75) (cD (Ch x).length (Cg c)) (aA (bA c.2.1) (FN (oJ (j9 u) (j9 z)) (xD (zW c))) (cZ (bR 130 2 (Ch x)=bR 130 2 (uA c)) A (AY c) h h)))))))/\∀(c:Int×Nat×bu×(Int×Int)×Bool×MH),I1 c->aY (↑c.2.1:Int) (↑(Cg c):Int) (pE (↑c.2.1:Int) (uA c) (λe=>mI (uA c) (lD c.2.1) e/\∃(B:Int×Int),hX (tW 2 e (vO B)) (FO c) (aA (cH 0) ((0:Int)<2) (aA (cH 0) ((0:Int)<2) (cV B.1 (zW c).1 (aA (cH 1) ((1:Int)<2) (aA (cH 1) ((1:Int)<2)
 (OL (λd=>I1 d) (λd=>f d) (f c) cb s t c (λd=>d) (λd=>aA (kN (B.2 !=(zW c).2) (FO d)) (eL 75) (aA (cD (Cg c) (Cg d)) (gK (bE c.2.1 1)=bO d.2.1) (aA (FN (xD (zW c)) (xD (zW d))) (bR 130 2 (uA c)=bR 130 2 (uA d)) (aA (AY c=AY d) (h=h) True))))))) (OL (λd=>I1 d) (λd=>f d) (f c) cb s t c (λd=>d) (λd=>aA (El (FO d)) (eL 75) (aA (cD (Cg c) (Cg d)) (gK (bE c.2.1 1)=bO d.2.1) (aA (FN (xD (zW c)) (xD (zW d))) (bR 130 2 (uA c)=bR 130 2 (uA d)) (aA (AY c=AY d) (h=h) True)))))))) (OL (λd=>I1 d) (λd=>f d) (f c) cb s t c (λd=>d) (λd=>aA (El (FO d)) (eL 75) (aA
 (cD (Cg c) (Cg d)) (gK (bE c.2.1 1)=bO d.2.1) (aA (FN (xD (zW c)) (xD (zW d))) (bR 130 2 (uA c)=bR 130 2 (uA d)) (aA (AY c=AY d) (h=h) True))))))) (branch (FO c) (aA (i7 (jW (uA c) 1) 16) (dO (uA c)) (∃(d:Int×bu×MH),aA (I d) (n d<n x) (aA (cQ cb) (aJ s) (aA (aJ t) (eL 75) (aA (dH (fG (c.1-1)) d.1) (bR 130 2 (dL (uA c) (vO (zW c)))=bR 130 2 (Ch d)) (dY (AY c) d.2.2 h h)))))) (∃(d:Int×bu×MH),aA (I d) (n d<n x) (aA (cQ cb) (aJ s) (aA (aJ t) (eL 75) (aA (dH (fG (c.1-1)) d.1) (bR 130 2 (uA c)=bR 130 2 (Ch d)) (dY (AY c) d.2.2 h h))))))))))))))) (bY h 2 (Ch x) (λg j=>
 K (mQ g) x.2.2 j))) (bY h 2 (Ch x) (λg j=>K (mQ g) x.2.2 j))) (bY h 2 (Ch x) (λg j=>K (mQ g) x.2.2 j)))
theorem a6Q:bm 34 bWX:=by
 refine iQ func34 ?_;rintro L m h K ⟨cb,s,t,a,b,rfl,M,C,D,l1,l2,O⟩;refine⟨cjQ cb s t h,rfl,aE Ol aG,XF cb s t m h K,ax,?_⟩;dsimp only[XF,push_cast];have P:=C.slen;have Q:=D.slen;refine⟨cb,3,rfl,M,λk g E R d j=>⟨λ⟨n,on,A⟩=>0<=n/\n<=2/\(on.length:Int)<=2-n/\bP m A cb/\bD A h cb,λ⟨n,_,_⟩=>n.toNat,⟨(k,[],g),⟨E,aC,bf,d,j⟩,MT⟩,?_⟩⟩;clear E R d j g;rintro⟨n,on,g⟩ ⟨n0,n1,S,d,j⟩;dsimp only;have out:∀(e:Sl)(h':PH),PH.le h h'->dC h' e 2 (on.map sH)->K (.val (.slice e.a e.len e.cap)) g h':=λe h' o u=>O e on g h' o ⟨u,aC⟩ aC d (j.mono o);refine aF (λhn=>aF (λhp=>aF (λhq=>?_) (λ_=>out)) (λ_=>out)) (λ_=>out);refine⟨cb,s.len,rfl,j,λx m2 F x1 G T=>⟨cb,t.len,rfl,T,λy c H y1 I J=>?_⟩⟩;obtain⟨U,V,W,X⟩:=C.inb (n:=x) F aC;obtain⟨Y,Z,e2,r2⟩:=D.inb (n:=y) H aC;refine⟨aC,aC,U,V,W,F,aC,_,.imm X,aC,aC,Y,Z,e2,H,aC,_,.imm r2,?_⟩;refine⟨λ⟨n',i,B,p,f,A⟩=>n'=n/\B=on/\A=c/\i<=on.length,λ⟨_,i,_,_,_,_⟩=>on.length-i,⟨(n,0,on,(x,y),a.getD x.toNat 0==b.getD y.toNat 0,c),⟨rfl,rfl,rfl,aC⟩,?_⟩,?_⟩
 .rw[length_map];exact MT
 rintro⟨n,i,on,p,f,c⟩ ⟨rfl,rfl,rfl,hi⟩;dsimp only;refine aF (λa'=>?_) (λa0=>?_)
 .have hl:i<on.length:=by omega
  have z:(on.map sH)[i]? =some (sH on[i]):=bg
  refine⟨aC,bg,_,z,on[i],rfl,aD (λ_=>⟨aC,aC,aC,aC,aD (λ_=>⟨aC,aC,aC,aC,(n,i+1,on,p,_,c),⟨rfl,rfl,rfl,bj⟩,bi,MT⟩) (λ_=>⟨(n,i+1,on,p,_,c),⟨rfl,rfl,rfl,bj⟩,bi,MT⟩)⟩) (λ_=>⟨(n,i+1,on,p,_,c),⟨rfl,rfl,rfl,bj⟩,bi,MT⟩)⟩
 .have hw:IntKind.i64.wrap (n-1)=n-1:=fB aC aC;rw[hw];refine aD (λ_=>⟨bg,bg,(n-1,on++[p],c),⟨aC,aC,bf,(d.trans G).trans I,J⟩,aC,?_⟩) (λ_=>⟨(n-1,on,c),⟨aC,aC,bg,(d.trans G).trans I,J⟩,aC,MT⟩);rw[map_append];exact MT
def cSX:Vc.Spec:=λd m h K=>∃s e,∃c:Nat,d=[cS s,cI c]/\dC h s 1 (aX e)/\s.len<=s.cap/\c<=1000/\∀cb m' h',PH.le h h'->m cb=none->bP m m' cb->bD m' h' cb->K (cP cb) m' h'
abbrev Da(a b:Prop)(c:(List bt)->Prop):=aA a b (∃(x:List bt),c x)
attribute [push_cast] Da
def aBX(s:Sl)(c:Nat)(m:MH)(h:PH)(K:bo):=
  Da (cH (ite ((↑c:Int)<aH s) (↑c:Int) (aH s))) (ite ((↑c:Int)<aH s) (↑c:Int) (aH s)<=(↑s.cap:Int)) (λy=>aA (fN 1 y) (uN m h (Sl.mk s.a (ite ((↑c:Int)<aH s) (↑c:Int) (aH s)).toNat s.cap) 1 y) (aA (i7 y.length 1) (nT y.length) (bY h 1 y (λf d=>∀(b:Nat)(e:MH),bG (cF m d b) (bK m e b (jX (dP f) cL) 86) (K (Oo b 0) e d)))))
theorem JY l:fN 1 (aX l):=by
 constructor
 .intro e c;obtain⟨x,_,rfl⟩:=mem_map.1 c;rfl
 .intro e c u d;obtain⟨x,_,rfl⟩:=mem_map.1 c;simp at d;subst d;rfl
theorem dC.cut{s}(r:dC h s sz xs) n(c:n<=xs.length):dC h ⟨s.a,n,s.cap⟩ sz (xs.take n):=by
 refine⟨bf,?_,by have d:=r.len;have f:=r.cap;grind⟩;rcases r.row with e|⟨b,o,g,k⟩
 .grind
 grind
theorem byQ:bm 8 cSX:=by
 refine iQ func8 ?_;rintro t m h K ⟨s,g,c,rfl,n,A,B,u⟩;refine⟨qV [] [] [] [] [86] [] false,rfl,aG,aBX s c m h K,ax,?_⟩;have C:s.len=g.length:=by have:=n.len;simpa[aX]using this
 dsimp only[aBX,push_cast];have d:(if(c:Int)<(s.len:Int)then(c:Int)else(s.len:Int))=((min c s.len:Nat):Int):=by omega
 rw[d];have e:=dC.cut n (min c s.len) (by simp[aX];omega);refine⟨aC,aC,aX (g.take (min c s.len)),JY _,.imm ?_,by simp[aX];omega,by simp[aX];omega,λy h' j f b m' z o=>?_⟩
 .rw[show aX (g.take (min c s.len))=(aX g).take (min c s.len)by simp[aX,map_take]];exact e
 .exact u b m' h' j z.m_ ⟨o.other⟩ ⟨_,⟨⟨y,_,0,o.at_,f,aC,bf,rfl⟩⟩⟩
def czJ:Vc.Spec:=λc m h K=>∃n:Nat,c=[.val (.slice none 0 0),cI n]/\n<=1000/\K (.lst 3 1 []) m h
noncomputable def bGZ c m h:=
 dE [(198,czJ)] [(3,{A:=Nat×Nat,st:=λ⟨i,n⟩=>bU 36 37 [(0,sv c),(3,iv n),(9,sv c),(10,iv c.len),(11,iv i)] [] m h}),
  (11,{A:=Nat×bn,st:=λ⟨i,l⟩=>bU 36 37 [(6,.at (.lst 24)),(25,sv c),(26,iv c.len),(27,iv i)] [(24,.lst 3 1 (l.map eI))] m h})] [] [] false
abbrev Jp(a:Int):=a<=140737488355328
abbrev wG(a:Int)(b:bt):=replicate a.toNat b
attribute [push_cast] Jp wG
def Te(n:Nat)(m:MH)(h:PH)(K:bo):=
  fR (fG ((↑n:Int)-fG ((0:Int)-0))) 0 (aA (cH 0) (cH 0) (aA (0<fG ((↑n:Int)-0)) (Jp (fG ((↑n:Int)-0)*8)) (aI (Jp (fG ((↑n:Int)-0))) ((0:Int)<=0) (cH (sQ (wG (fG ((↑n:Int)-0)) (oN cL)))) (K (CV.lst 3 1 []) m h)))) (K (CV.lst 3 1 []) m h)
abbrev Ib(a:(Nat×Nat->Prop)->(Nat×Nat)->Prop)(b:(Nat×Nat->Prop)->(Nat×Nat->Nat)->(Nat×Nat)->Prop):=∃(x:Nat×Nat->Prop)(d:Nat×Nat->Nat),(∃(c:Nat×Nat),a x c)/\∀(c:Nat×Nat),b x d c
abbrev F1(a:Nat):=eZ EZ (↑a:Int)
abbrev G4(a:MH)(b:PH)(c d e g:Nat)(i:bt)(j:(List bt)->Prop):=aK a b c (d+bM e g) i/\∃(x:List bt),j x
attribute [push_cast] Ib F1 G4
def Tx d m h K:=
  Ib (λI x=>aA (I x) (aJ d) (aA (bA x.2) (aJ d) (aA (bI d) (bA x.1) (aA (m=m) (h=h) True)))) (λI g x=>I x->aY (↑x.1:Int) (aH d) (bJ (λb o=>aI (aW d.a b o) (0<=(↑x.1:Int)) ((↑x.1:Int)<aH d) (∃(y:Sl),aK m h b (o+bM x.1 1) (aR y)/\aY (bE x.2 (aH y)) 0 False (∃(c:Nat×Nat),aA (I c) (g c<g x) (aA (aJ d) (gK (bE x.2 (aH y))=bO c.2) (aA (aJ d) (bI d) (aA (gK (bE x.1 1)=bO c.1) (m=m) (bT h h)))))))) (∃(n:Nat),aA (F1 x.2=F1 n) (nO n) (KN (λI1 c=>aA (I1 c) (eL 24) (aA (aJ d) (bI d) (aA (bA c.1) (sS c.2) (aA (m=m) (h=h) True)))) (λI1 j c=>I1 c->aY (↑c.1:Int) (aH d) (bJ (λb o=>aI (aW d.a b o) (0<=(↑c.1:Int)) ((↑c.1:Int)<aH
 d) (∃(y:Sl),G4 m h b o c.1 1 (aR y) (λe=>aA (fN 1 e) (dC h (dN y) 1 e) (aA (sL (p9 c) e 8) (sM (p9 c) e) (∃(f:Nat×bn),aA (I1 f) (j f<j c) (aA (eL 24) (aJ d) (aA (bI d) (gK (bE c.1 1)=bO f.1) (aA (lK (p9 c++e) f.2) (m=m) (bT h h)))))))))) (tZ h (p9 c) K m)))))
theorem ZZ:bm 198 czJ:=by
 refine iQ func198 ?_;rintro d m h K ⟨n,rfl,f,c⟩;refine⟨dE [] [] [] [] true,rfl,aG,Te n m h K,ax,?_⟩;dsimp only[Te,push_cast];have e:IntKind.i64.wrap ((n:Int)-0)=n:=by rw[fB aC aC];omega
 have g:IntKind.i64.wrap ((n:Int)-IntKind.i64.wrap (0-0))=n:=by rw[show IntKind.i64.wrap (0-0)=0 from by rw[fB aC aC];rfl,e]
 exact aF (λj=>⟨aC,aC,aC,aC,aC,aC,aC,c⟩) (λ_=>c)
def BL(ks:List bn):=(ks.map List.length).sum
theorem Nx{k}(c:ks[i]? =some k):BL (ks.take (i+1))=BL (ks.take i)+k.length:=by
 unfold BL;rw[take_add_one,c];simp
theorem LW{ks:List bn}(h:∀k∈ks,k.length<=12):∀i,BL (ks.take i)<=12*i
 |0=>by simp[BL]
 |i+1=>by
  have c:=LW h i;cases e:ks[i]? with
  |none=>rw[take_add_one,e];grind
  |some k=>rw[Nx e];grind
theorem Q5:bm 154 LR:=by
 refine iQ func154 ?_;rintro F m h K ⟨B,ks,rfl,y,M,d,G⟩;refine⟨bGZ B m h,rfl,aE ZZ aG,Tx B m h K,ax,?_⟩;dsimp only[Tx,push_cast];have j:=bL.slen y;refine⟨λ⟨i,n⟩=>i<=ks.length/\n=BL (ks.take i),λ⟨i,_⟩=>ks.length-i,⟨(0,0),⟨aC,by simp[BL]⟩,MT⟩,?_⟩;rintro⟨i,n⟩ ⟨C,rfl⟩;dsimp only;have H:=LW d i;refine aF (λc=>?_) (λt=>?_)
 .obtain⟨k,e⟩:=eV j c;obtain⟨b,o,g,z,r,f⟩:=bL.at y e;have I:=f.slen;have u:=d k (mem_of_getElem? e)
  have J:IntKind.i64.wrap ((BL (ks.take i):Int)+(g.len:Int))=((BL (ks.take (i+1)):Nat):Int):=by
   rw[Nx e,fB aC aC];omega
  refine⟨b,o,z,aC,c,g,.imm r,?_⟩;rw[J];exact aF (λD=>by omega) (λ_=>⟨(i+1,BL (ks.take (i+1))),⟨aC,rfl⟩,aC,MT⟩)
 .refine⟨BL (ks.take i),rfl,aC,?_⟩;refine⟨λ⟨i,l⟩=>i<=ks.length/\l=(ks.take i).flatten,λ⟨i,_⟩=>ks.length-i,⟨(0,[]),⟨aC,ay⟩,MT⟩,?_⟩;clear H t C;rintro⟨i,l⟩ ⟨C,rfl⟩;dsimp only;have L:(ks.take i).flatten.length<=12*i:=by have:=LW d i;simpa[BL,length_flatten]using this
  refine aF (λc=>?_) (λt g h' A E=>G g h' A ⟨?_,?_⟩)
  .obtain⟨k,e⟩:=eV j c;obtain⟨b,o,g,z,r,f⟩:=bL.at y e;have u:=d k (mem_of_getElem? e);refine⟨b,o,z,aC,c,g,.imm r,k.map eI,Bs k,f.row,?_,?_,(i+1,(ks.take (i+1)).flatten),⟨aC,rfl⟩,aC,?_⟩
   .grind
   .grind
   .rw[take_add_one,e,Option.toList_some,flatten_append,map_append,flatten_cons,flatten_nil,append_nil];exact MT
  .grind
  grind
theorem a2Z:∀N,bm 75 (Gu N):=aBJ Q5
abbrev BS a:=Array.mk (oN (R9 a 0))
attribute [push_cast] BS
def Xk(v:QV)(m:MH)(h:PH)(K:bo):=
  ∀(b:Nat)(c:MH),bG (cF m h b) (bK m c b v.enc 41) (K (mJ 139 (BS b)) c h)
end Go.Ps
