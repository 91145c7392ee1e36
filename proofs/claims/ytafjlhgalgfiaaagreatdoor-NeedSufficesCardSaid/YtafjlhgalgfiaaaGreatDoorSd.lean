/- Own work. -/
import Derived.Test.YtafjlhgalgfiaaaGreatDoorSc
set_option linter.unusedVariables false
set_option linter.unusedSimpArgs false
namespace Go.Ps
open Go Go.Vc Go.Proofs List Tryz
variable{K:cn}{m:MH}{h:PH}{s:jP}{ps:cq}{cb:Nat}{sc:cA}{v:QV}{p:Pred}{l:cq}{i:Nat}{N:Nat}{m':MH}{h':PH}{co:cq}{gr:cq}{od:cv}{ta:Int}{li:Int}{xs:List cr}{sz:Nat}{ks:List cq}{rs:cq}{r:Sl}{a:cq}{b:Nat}
def bS h s l:=bN h 3 VV.enc Eq s l
theorem bS.mono{s l}(x:bS h s l)(le:PH.le h h'):bS h' s l:=bN.mono x le λ_ _ e=>e
def Et:QV:=⟨0,0,jI,⟨none,0,0⟩,⟨none,0,0⟩,⟨none,0,0⟩,⟨none,0,0⟩,0,⟨none,0,0⟩⟩
theorem bwJ(l:dt):fU 21 (l.map QV.enc):=by
 constructor
 .intro e c;obtain⟨x,_,rfl⟩:=mem_map.1 c;rfl
 .intro e c u d;obtain⟨x,_,rfl⟩:=mem_map.1 c;simp[QV.enc]at d;rcases d with rfl|rfl|rfl|rfl|rfl|rfl|rfl|rfl|rfl|rfl|rfl|rfl|rfl|rfl|rfl|rfl|rfl|rfl|rfl|rfl|rfl<;>rfl
mutual
def bqZ:Pred->Nat
 |.mk _ _ _ _ args=>1+Mh args
def Mh:di->Nat
 |[]=>0
 |p::ps=>bqZ p+Mh ps
end
mutual
def axJ:Pred->Nat
 |.mk _ _ _ _ args=>1+OP args
def OP:di->Nat
 |[]=>0
 |p::ps=>max (axJ p) (OP ps)
end
mutual
theorem QR:∀(p:Pred)(n:Int),rY p n<=n+bqZ p
 |.mk _ _ _ _ args,n=>by
  have:=Ox args (n+1);simp only[rY,bqZ];omega
theorem Ox:∀(ps:di)(n:Int),nL ps n<=n+Mh ps
 |[],n=>by simp[nL,Mh]
 |p::ps,n=>by
  have c:=QR p n;have d:=Ox ps (rY p n);simp only[nL,Mh];omega
end
mutual
theorem OR:∀(p:Pred)(n:Nat),axJ p<=n->pT p n=false
 |.mk _ _ _ _ args,0,h=>by simp only[axJ]at h;omega
 |.mk _ _ _ _ args,n+1,h=>by
  simp only[axJ]at h;simp only[pT];exact Me args n aC
theorem Me:∀(ps:di)(n:Nat),OP ps<=n->xM ps n=false
 |[],_,_=>rfl
 |p::ps,n,h=>by
  simp only[OP]at h;simp only[xM,OR p n aC,Me ps n aC,Bool.or_false]
end
def gF:Nat->Nat
 |0=>1
 |d+1=>1+3*gF d
structure Sb(d:Nat)(p:Pred):Prop where
 n:bqZ p<=gF d
 d:axJ p<=d+1
theorem cRJ:∀d,1<=gF d
 |0=>Nat.le_refl _
 |d+1=>by rw[gF];omega
theorem Sb.leaf d{op c a b}:Sb d (.mk op c a b []):=⟨by simp[bqZ,Mh,cRJ],by simp[axJ,OP]⟩
theorem Sb.node{d op c a b ps}(h:∀p∈ps,Sb d p)(g:ps.length<=3):Sb (d+1) (.mk op c a b ps):=by
 have j:∀l:di,(∀p∈l,Sb d p)->Mh l<=l.length*gF d/\OP l<=d+1:=λl=>by
  induction l with
  |nil=>intro _;simp[Mh,OP]
  |cons p l o=>
   intro f;have t:=o λx u=>f x (mem_cons_of_mem _ u);have e:=f p (mem_cons_self ..);have:=e.n;have:=e.d;simp only[Mh,OP,ci,Nat.add_mul,Nat.one_mul];omega
 have t:=j ps h;have e:ps.length*gF d<=3*gF d:=Nat.mul_le_mul_right _ g;exact⟨by simp only[bqZ,gF];omega,by simp only[axJ];omega⟩
mutual
def oD:Query->Nat
 |.mk _ _ _ _ _ _ _ _ args=>1+lZ args
def lZ:dc->Nat
 |[]=>0
 |q::qs=>oD q+lZ qs
end
mutual
def RX:Query->Nat
 |.mk _ _ _ _ _ _ _ _ args=>1+HV args
def HV:dc->Nat
 |[]=>0
 |q::qs=>max (RX q) (HV qs)
end
mutual
def gP(c:Nat):Query->Nat
 |.mk op _ _ _ _ _ _ _ args=>if op=1 then c else if op=4 then yF c args else wK c args
def wK(c:Nat):dc->Nat
 |[]=>0
 |q::qs=>gP c q+wK c qs
def yF(c:Nat):dc->Nat
 |[]=>1
 |q::qs=>gP c q*yF c qs
end
mutual
theorem QP:∀(p:Query)(n:Int),u9 p n<=n+oD p/\(u9 p n<=24->u9 p n=n+oD p)
 |.mk _ _ _ _ _ _ _ _ args,n=>by
  have:=Ow args (n+1);simp only[u9,oD];omega
theorem Ow:∀(ps:dc)(n:Int),qK ps n<=n+lZ ps/\(qK ps n<=24->qK ps n=n+lZ ps)
 |[],n=>by simp[qK,lZ]
 |p::ps,n=>by
  have c:=QP p n;have d:=Ow ps (u9 p n);simp only[qK,lZ];omega
end
theorem Ie{q}(h:pY q=true):oD q<=24:=by
 simp only[pY,bz,ce]at h;have:=(QP q 0).2 h.1;omega
def gN:Nat->Nat
 |0=>3
 |d+1=>2+2*gN d
def gD:Nat->Nat
 |0=>3
 |d+1=>2+gD d
def gB:Nat->Nat
 |0=>4
 |d+1=>gB d*gB d
structure uG(n d b:Nat)(q:Query):Prop where
 n:oD q<=n
 d:RX q<=d
 b:gP 4 q<=b
def Wx d q:=uG (gN d) (gD d) (gB d) q
def DO:Nat->Query->Prop
 |0,q=>uG 1 1 4 q
 |d+1,q=>uG (1+2*gN d) (1+gD d) (gB d*gB d) q
theorem uG.mono{n d c e f q}(x:uG n d b q)(g:n<=c)(j:d<=e)(o:b<=f):uG c e f q:=⟨cj x.n g,cj x.d j,cj x.b o⟩
theorem GN:∀d,3<=gN d/\3<=gD d/\4<=gB d
 |0=>az
 |d+1=>by
  obtain⟨e,f,c⟩:=GN d;have:4*4<=gB d*gB d:=Nat.mul_le_mul c c;simp only[gN,gD,gB];omega
theorem DO.arg:∀{d:Nat}{q:Query},DO d q->Wx d q
 |0,_,x=>uG.mono x az az az
 |d+1,_,x=>uG.mono x (by simp only[gN];omega) (by simp only[gD];omega) (by simp only[gB];omega)
theorem uG.one{n d q}(x:uG n d b q)(c:4<=b){op w on}:uG (n+1) (d+1) b (.mk op ta w co on gr od li [q]):=by
 obtain⟨e,f,g⟩:=x;refine⟨by simp only[oD,lZ];omega,by simp only[RX,HV];omega,?_⟩;simp only[gP,yF,wK]
 grind
theorem uG.two{n:Nat}{d f g c q p}(x:uG n d b q)(y:uG f g c p)(j:4<=b)(e:4<=c){op w on}:uG (1+n+f) (1+max d g) (b*c) (.mk op ta w co on gr od li [q,p]):=by
 obtain⟨u,z,o⟩:=x;obtain⟨A,B,t⟩:=y;have C:b*4<=b*c:=Nat.mul_le_mul_left _ e;have D:4*c<=b*c:=Nat.mul_le_mul_right _ j;have E:gP 4 q*gP 4 p<=b*c:=Nat.mul_le_mul o t;refine⟨by simp only[oD,lZ];omega,by simp only[RX,HV];omega,?_⟩;simp only[gP,yF,wK]
 grind
theorem uG.scan{w on}:uG 1 1 4 (.mk 1 ta w co on gr od li []):=⟨by simp[oD,lZ],by simp[RX,HV],by simp[gP]⟩
theorem DO.node{d op w on args}(h:∀a∈args,Wx d a)(e:args.length<=2):DO (d+1) (.mk op ta w co on gr od li args):=by
 have c:=(GN d).2.2;have f:gB d*4<=gB d*gB d:=Nat.mul_le_mul_left _ c
 match args,h,e with
 |[],_,_=>exact⟨by simp only[oD,lZ];omega,by simp only[RX,HV];omega,by simp only[gP,yF,wK];grind⟩
 |[q],h,_=>exact uG.mono (uG.one (h q ay) c) aC aC aC
 |[q,p],h,_=>exact uG.mono (uG.two (h q ay) (h p ay) c c) aC aC (Nat.le_refl _)
theorem DO.filter{d q}(x:DO d q){op w on}:Wx d (.mk op ta w co on gr od li [q]):=by
 cases d with
 |zero=>exact uG.mono (uG.one x az) az az az
 |succ d=>
  have c:=(GN d).2.2;have e:gB d*4<=gB d*gB d:=Nat.mul_le_mul_left _ c;exact uG.mono (uG.one x aC) (by simp only[gN];omega) (by simp only[gD];omega) (by simp only[gB];omega)
theorem Wx.three d{q}(x:uG 3 3 4 q):Wx d q:=uG.mono x (GN d).1 (GN d).2.1 (GN d).2.2
theorem DO.mono{q:Query}:∀{d e:Nat},DO d q->d<=e->DO e q
 |d,0,x,h=>bg
 |d,e+1,x,h=>by
  by_cases c:d=e+1
  .grind
  .have y:=DO.arg (x.mono (e:=e) aC);have f:=(GN e).2.2;have g:gB e*1<=gB e*gB e:=Nat.mul_le_mul_left _ aC;exact uG.mono y aC aC aC
abbrev kW(a:MH)(b:PH)(c d:Nat)(e:Sl->Prop):=∃(x:Sl),aL a b c d (aM x)/\e x
noncomputable abbrev xU a:=oW (Value.int IntKind.u8 a)
abbrev mS a:=a->False
attribute [push_cast] kW xU mS
def Yx(cb:Nat)(n:Int)(m:MH)(h:PH)(K:cn):=
  ∃(y:Int),aL m h cb 1 (bC y)/\∃(e:Sl),aL m h cb 0 (aM e)/\iG y (aG e) (K (gG 0) m h) (bA n 1 (K (gG 0) m h) (∃(f:Int),aL m h cb 1 (bC f)/\tF m cb 1 (bC (fM (f+1))) (λc=>kW c h cb 0 (λg=>∃(d:Int),aL c h cb 1 (bC d)/\bK (λb o=>aI (aW g.a b o) (0<=fM (d-1)) (fM (d-1)<aG g) (∃(j:UInt8),aA (aL c h b (o+iA (fM (d-1)) 1) (xU (Ab j))) (mS (n=0)) (K (gG (Int.tmod (fM (Ab j)) n)) c h)))))))
theorem cVQ cb n m h K:Yx cb n m h K=(xK (ctx [] [] [] [] false) Tryz.f19 (dY Tryz.f19) (entry 40 [.val (.pointer (some ⟨cb,0,none⟩)),.val (.int .i64 n)] m h) K):=ax
def cDZ:Vc.Spec:=λc m h K=>∃(cb:Nat)(n:Int)(r:dh),c=[.val (.pointer (some ⟨cb,0,none⟩)),.val (.int .i64 n)]/\aEJ m h cb r/\
 ∀m',bO m m' cb->aEJ m' h cb (Y1 n r).2->K (.val (.int .i64 (Y1 n r).1)) m' h
theorem To:cm 19 cDZ:=by
 refine fP (fn:=Tryz.f19) (c:=dY Tryz.f19) func19 rfl az ?_;rintro G m h K ⟨cb,n,r,rfl,⟨s,d,k,y,e,E,f,rfl⟩,t⟩;refine⟨ctx [] [] [] [] false,rfl,aH,?_⟩;show xK (ctx [] [] [] [] false) Tryz.f19 (dY Tryz.f19) (entry 40 [.val (.pointer (some ⟨cb,0,none⟩)),.val (.int .i64 n)] m h) K;rw[<-cVQ];dsimp only[Yx,push_cast];have H:s.len=d.length:=by have:=e.len;simpa[aY]using this
 refine⟨k,.of_m y rfl,s,.of_m y rfl,aF (λI=>?_) (λA=>aF (λB=>?_) (λB=>?_))⟩
 .have u:d.drop k=[]:=bf
  rw[u]at t;exact t m ⟨λ_ _=>rfl⟩ ⟨s,d,k,y,e,E,f,by rw[u];rfl⟩
 .have j:k<d.length:=by omega
  have u:d.drop k=d[k]::d.drop (k+1):=drop_eq_getElem_cons j;rw[u]at t;simp only[Y1,if_pos B]at t;refine t m ⟨λ_ _=>rfl⟩ ⟨s,d,k,y,e,E,f,u.symm⟩
 .have j:k<d.length:=by omega
  have u:d.drop k=d[k]::d.drop (k+1):=drop_eq_getElem_cons j;rw[u]at t;simp only[Y1,if_neg B]at t;have J:IntKind.i64.wrap ((k:Int)+1)=((k+1:Nat):Int):=by rw[fG]<;>omega
  have C:IntKind.i64.wrap (((k+1:Nat):Int)-1)=(k:Int):=by rw[fG]<;>omega
  refine⟨k,.of_m y rfl,_,_,⟨y⟩,ay,λm' F=>?_⟩;have g:=F.at_;rw[J]at g;simp only[splice]at g;obtain z|⟨b,o,L,D⟩:=e.row
  .exfalso;have:=congrArg List.length z;simp[aY]at this
   grind
  refine⟨s,.of_m g rfl,((k+1:Nat):Int),.of_m g rfl,b,o,L,?_⟩;rw[C];refine⟨aC,aC,d[k],.imm ?_,aC,?_⟩
  .have:=D k [.int .u8 d[k].toNat] (by simp[aY,j])
   grind
  .have A:d[k].toNat<256:=d[k].toNat_lt;rw[fG aC aC,Int.tmod_eq_emod_of_nonneg aC];refine t m' ⟨F.other⟩ ⟨s,d,k+1,g,e,aC,f,rfl⟩
def bB m h cb:=∃r,aEJ m h cb r
theorem bB.mono(x:bB m h cb)(le:PH.le h h'):bB m h' cb:=by
 obtain⟨r,s,c,k,d,e,f⟩:=x;exact⟨r,s,c,k,d,e.mono le,f⟩
theorem bO.refl m cb:bO m m cb:=⟨λ_ _=>rfl⟩
theorem bO.trans{d}(a:bO m m' cb)(b:bO m' d cb):bO m d cb:=⟨λc e=>(b.other c e).trans (a.other c e)⟩
def u7 n:= -9223372036854775808<=n/\n<=9223372036854775807
structure NY(v:VV):Prop where
 int_:u7 v.int
 text_:v.text.size<=64
def KOk(k:Int):=k=3\/k=4\/k=5
def aWZ k v:=KOk k->kG v=true/\v.kind=k
def N3:Vc.Spec:=λc m h K=>∃cb n,c=[cP cb,cI n]/\bB m h cb/\∀k m',0<=k->(k<n\/k=0)->bO m m' cb->bB m' h cb->K (cI k) m' h
def Sw:Vc.Spec:=λc m h K=>∃cb n,c=[cP cb,cI n]/\0<=n/\n<=1000/\bB m h cb/\∀r m',bO m m' cb->bB m' h cb->K (cB r) m' h
def aVQ:Vc.Spec:=λc m h K=>∃cb,c=[cP cb]/\bB m h cb/\∀k m',u7 k->bO m m' cb->bB m' h cb->K (cI k) m' h
def cGX:Vc.Spec:=λc m h K=>∃cb,c=[cP cb]/\bB m h cb/\∀t m',t.size<=64->bO m m' cb->bB m' h cb->K (SJ t) m' h
def Wh:Vc.Spec:=λd m h K=>∃cb c,d=[cP cb,cI c]/\bB m h cb/\∀v m',NY v->aWZ c v->bO m m' cb->bB m' h cb->K (aV v) m' h
theorem O7:cm 19 N3:=by
 refine⟨To.1,λc d m h w K e f=>To.2 c d m h w K ?_ f⟩;obtain⟨cb,n,rfl,⟨r,g⟩,j⟩:=e;refine⟨cb,n,r,rfl,g,λm' o t=>j _ m' ?_ ?_ o ⟨_,t⟩⟩
 .cases r with
  |nil=>simp[Y1]
  |cons b r=>
   simp only[Y1]
   grind
 .cases r with
  |nil=>simp[Y1]
  |cons b r=>
   simp only[Y1];split
   .simp
   .exact .inl (Int.emod_lt_of_pos _ aC)
noncomputable def bQJ h:=
 dJ [(19,N3)] [(18,{A:=Nat×ByteArray×MH,st:=λ⟨i,t,m⟩=>bZ 37 38 [(3,vv (.string t)),(4,iv i)] [] m h}),(23,{A:=Nat×ByteArray×MH,st:=λ⟨i,t,m⟩=>bZ 37 38 [(3,vv (.string t)),(5,iv i)] [] m h})] [] [] false
abbrev kK(a:Nat)(b:Int)(c:Nat->Option Obj)(d:Nat->Nat->Option Value)(e:Int->MH->Prop):=∃(x:Nat)(j:Int),aA (fC (cQp a 0) b=fC (cQp x 0) j) (bB c d x) (∀(f:Int)(g:MH),bF (cM f) (f<j\/f=0) (bF (bO c g x) (bB g d x) (e f g)))
attribute [push_cast] kK
def Yq(cb:Nat)(n:Int)(m:MH)(h:PH)(K:cn):=
  kK cb n m h (λk c=>K (As (k==fM (n-1))) c h)
def Up(cb:Nat)(m:MH)(h:PH)(K:cn):=
  kK cb 12 m h (λk c=>dP (k==9) (K (gG (Int.negSucc 0)) c h) (k==10) (K (gG 9223372036854775807) c h) (eY k 11 (K (gG (Int.negSucc 9223372036854775807)) c h) (mS ((4:Int)=0)/\K (gG (Int.tmod k 4)) c h)))
noncomputable abbrev wG a:=sE (ByteArray.mk (Array.mk a))
noncomputable abbrev gJ(a:Nat)(b:dh):=OfNat.ofNat a::b
noncomputable abbrev yK a:=gJ a []
attribute [push_cast] wG gJ yK
def Uo(cb:Nat)(m:MH)(h:PH)(K:cn):=
  kK cb 10 m h (λk d=>dP (k==0) (K (wG (yK 97)) d h) (k==1) (K (wG (yK 97)) d h) (dP (k==2) (K (wG (yK 97)) d h) (k==3) (K (wG (yK 98)) d h) (dP (k==4) (K (wG (yK 98)) d h) (k==5) (K (CV.val vQz) d h) (dP (k==6) (K (wG (gJ 97 (gJ 0 []))) d h) (k==7) (K (wG (yK 255)) d h) (eY k 8 (∃(I:Nat×ByteArray×MH->Prop)(e:Nat×ByteArray×MH->Nat),(∃(x:Nat×ByteArray×MH),aA (I x) (SV.at aQz=SV.at (NW x.2.1)) (aA (bE x.1) (d=x.2.2) (bU h h)))/\∀(x:Nat×ByteArray×MH),I x->bA (↑x.1:Int) 64 (x.2.1.size<9223372036854775807/\∃(c:Nat×ByteArray×MH),aA (I c) (e c<e x) (aA (SV.at (NW (x.2.1++ByteArray.mk (Array.mk (yK 255))))=SV.at (NW c.2.1)) (gX (bH x.1 1)=bP c.1) (eG x.2.2 c.2.2 h h))) (K
 (sE x.2.1) x.2.2 h)) (∃(I:Nat×ByteArray×MH->Prop)(e:Nat×ByteArray×MH->Nat),(∃(x:Nat×ByteArray×MH),aA (I x) (SV.at aQz=SV.at (NW x.2.1)) (aA (bE x.1) (d=x.2.2) (bU h h)))/\∀(x:Nat×ByteArray×MH),I x->bA (↑x.1:Int) 64 (x.2.1.size<9223372036854775807/\∃(c:Nat×ByteArray×MH),aA (I c) (e c<e x) (aA (SV.at (NW (x.2.1++ByteArray.mk (Array.mk (yK 98))))=SV.at (NW c.2.1)) (gX (bH x.1 1)=bP c.1) (eG x.2.2 c.2.2 h h))) (K (sE x.2.1) x.2.2 h)))))))
abbrev pF a b c d:=bB a b c->d
attribute [push_cast] pF
def XO(cb:Nat)(d:Int)(m:MH)(h:PH)(K:cn):=
  dP (d==3) (kK cb 2 m h (λk e=>K (kE (aX (fV d) (fV k) FU)) e h)) (d==4) (∃(c:Nat),aA (fY (jO cb) (jO c)) (bB m h c) (∀(k:Int)(e:MH),bF (u7 k) (bO m e c) (pF e h c (K (kE (aX (fV d) (fV k) FU)) e h)))) (∃(c:Nat),aA (fY (jO cb) (jO c)) (bB m h c) (∀(t:ByteArray)(e:MH),bF (t.size<=64) (bO m e c) (pF e h c (K (kE (aX (fV 5) bI (oW (Value.string t)))) e h))))
theorem cUJ{n}(d:bB m h cb)(e:∀r m',bO m m' cb->bB m' h cb->K (cB r) m' h):Yq cb n m h K:=
 ⟨cb,n,rfl,d,λ_ m' _ _ f c=>e _ m' f c⟩
theorem JW:Hu ⟨#[]⟩=true:=by simp[Hu,ByteArray.toList_eq]
theorem cOX{k}(c:0<=k)(d:k<2\/k=0):kG ⟨3,k,⟨#[]⟩⟩=true:=by
 have:k=0\/k=1:=by omega
 rcases this with rfl|rfl<;>simp[kG,JW]
theorem buX k:kG ⟨4,k,⟨#[]⟩⟩=true:=by simp[kG,JW]
theorem cOQ{t}(h:t.size<=64):kG ⟨5,0,t⟩=true:=by
 simp[kG];omega
theorem Db:cm 25 Sw:=by
 refine iU func25 ?_;rintro c m h K ⟨cb,n,rfl,_,_,d,e⟩;refine⟨dJ [(19,N3)] [] [] [] false,rfl,aE O7 aH,Yq cb n m h K,ax,?_⟩;exact cUJ d e
theorem arZ:cm 145 aVQ:=by
 refine iU func145 ?_;rintro f m h K ⟨cb,rfl,g,d⟩;refine⟨dJ [(19,N3)] [] [] [] false,rfl,aE O7 aH,Up cb m h K,ax,?_⟩;dsimp only[Up,push_cast];refine⟨cb,12,rfl,g,λk m' j n e c=>aD (λ_=>d _ m' ⟨aC,aC⟩ e c) (λ_=>aD (λ_=>d _ m' ⟨aC,aC⟩ e c) (λ_=>aD (λ_=>d _ m' ⟨aC,aC⟩ e c) (λ_=>⟨aC,d _ m' ?_ e c⟩)))⟩;rw[Int.tmod_eq_emod_of_nonneg j];exact⟨aC,aC⟩
theorem arX:cm 146 cGX:=by
 refine iU func146 ?_;rintro g m h K ⟨cb,rfl,j,d⟩;refine⟨bQJ h,rfl,aE O7 aH,Uo cb m h K,ax,?_⟩;dsimp only[Uo,push_cast];refine⟨cb,10,rfl,j,λk m' y z e c=>?_⟩;refine aD (λ_=>d _ m' az e c) (λ_=>aD (λ_=>d _ m' az e c) (λ_=>aD (λ_=>d _ m' az e c) (λ_=>aD (λ_=>d _ m' az e c) (λ_=>aD (λ_=>d _ m' az e c) (λ_=>aD (λ_=>d _ m' az e c) (λ_=>aD (λ_=>d _ m' az e c) (λ_=>aD (λ_=>d _ m' az e c) (λ_=>aD (λ_=>?_) (λ_=>?_)))))))))
 all_goals
  refine⟨λ⟨i,t,n⟩=>n=m'/\i<=64/\t.size=i,λ⟨i,_,_⟩=>64-i,⟨(0,⟨#[]⟩,m'),⟨rfl,aC,rfl⟩,MT⟩,?_⟩;rintro⟨i,t,m'⟩ ⟨rfl,A,f⟩;dsimp only;refine aF (λo=>⟨?_,(i+1,_,m'),⟨rfl,aC,?_⟩,bi,MT⟩) (λu=>d t m' aC e c)
  .rw[f];show i+1<=_;omega
  .rw[ByteArray.size_append,f];rfl
theorem M8:cm 88 Wh:=by
 refine iU func88 ?_;rintro z m h K ⟨cb,c,rfl,j,n⟩;refine⟨dJ [(19,N3),(145,aVQ),(146,cGX)] [] [] [] false,rfl,aE O7 (aE arZ (aE arX aH)),XO cb c m h K,ax,?_⟩;dsimp only[XO,push_cast];refine aD (λe=>⟨cb,2,rfl,j,λk m' A B g d=>n ⟨c,k,⟨#[]⟩⟩ m' ⟨⟨bg,bg⟩,by show(ByteArray.mk #[]).size<=64;decide⟩ (λ_=>?_) g d⟩) (λo=>aD (λe=>⟨cb,rfl,j,λk m' f g d=>n ⟨c,k,⟨#[]⟩⟩ m' ⟨f,by show(ByteArray.mk #[]).size<=64;decide⟩ (λ_=>?_) g d⟩) (λu=>⟨cb,rfl,j,λt m' y g d=>n ⟨5,0,t⟩ m' ⟨⟨ay,ay⟩,y⟩ (λf=>?_) g d⟩))
 .have e:c=3:=bk e
  subst e;exact⟨cOX A B,rfl⟩
 .have e:c=4:=bk e
  subst e;exact⟨buX k,rfl⟩
 .have o:c≠3:=bg
  have u:c≠4:=bg
  exact⟨cOQ y,by rcases f with f|f|f;exact absurd f o;exact absurd f u;exact f.symm⟩
mutual
def Ep:Pred->Prop
 |.mk _ _ l r args=>NY l.value/\NY r.value/\N0 args
def N0:di->Prop
 |[]=>True
 |p::ps=>Ep p/\N0 ps
end
theorem Sf:∀{l:di},N0 l↔∀p∈l,Ep p
 |[]=>by simp[N0]
 |p::ps=>by simp[N0,Sf (l:=ps)]
theorem tW:NY zeroV:=⟨⟨az,az⟩,az⟩
structure Zj(cols params:cq)(kind:Int)(o:OV):Prop where
 val:NY o.value
 kind:KOk kind->kindOf cols params o=kind
def Pd(l:cq):=∀k∈l,KOk k
structure PW(cols params:cq)(d:Nat)(p:Pred):Prop where
 vals:Ep p
 valid:Pd cols->kO cols params p=true
 siz:Sb d p
def Zi:Vc.Spec:=λf m h K=>∃cb s t e d c,f=[cP cb,cS s,cS t,cI e]/\bB m h cb/\Ints h s d/\Ints h t c/\d.length<=1000/\c.length<=1000/\∀o m',Zj d c e o->bO m m' cb->bB m' h cb->K (aO o) m' h
def KP(K:cn)(m:MH)(h:PH)(cb:Nat)(R:Pred->Prop):=∀v p m' h',PH.le h h'->fO h' p v->R p->bO m m' cb->bB m' h' cb->K (aP v) m' h'
def b1J N:=λe m h K=>∃cb s t d c,∃deep:Nat,e=[cP cb,cS s,cS t,cI deep]/\bB m h cb/\Ints h s d/\Ints h t c/\d.length<=1000/\c.length<=1000/\deep<N/\deep<=1000/\KP K m h cb (PW d c deep)
structure Ck(cols params:cq)(d:Nat)(p:Pred):Prop where
 vals:Ep p
 valid:d<=2->Pd cols->Pd params->iI cols params p=0
def GZ:=λe m h K=>∃cb s t d c,∃deep:Nat,e=[cP cb,cS s,cS t,cI deep]/\bB m h cb/\Ints h s d/\Ints h t c/\d.length<=1000/\c.length<=1000/\deep<=1000/\KP K m h cb (Ck d c deep)
def pv b:=vv (.pointer (some ⟨b,0,none⟩))
noncomputable def bUQ cb s t c m h:=
 dJ [(19,N3),(88,Wh)] [(3,{A:=Nat×eh,st:=λ⟨i,d⟩=>bZ 64 68 [(0,pv cb),(2,sv t),(3,iv c),(8,.at (.ptr 8 0)),(9,.at (.lst 29)),(15,sv s),(16,iv s.len),(17,iv i)] [(8,.cells 32 (gA.enc.map .val)),(29,.lst 32 5 (d.map OV.enc))] m h}),
  (9,{A:=Nat×eh,st:=λ⟨i,d⟩=>bZ 64 68 [(0,pv cb),(3,iv c),(8,.at (.ptr 8 0)),(9,.at (.lst 29)),(31,sv t),(32,iv t.len),(33,iv i)] [(8,.cells 32 (gA.enc.map .val)),(29,.lst 32 5 (d.map OV.enc))] m h})] [] [] false
noncomputable def cqQ(N cb:Nat)(s t:Sl)(deep:Nat)(c:PH):=
 dJ [(19,N3),(25,Sw),(128,Zi),(88,Wh),(65,b1J N)] [(18,{A:=Int×Int×dz×MH×PH,st:=λ⟨op,n,d,m,h⟩=>bZ 107 111 [(0,pv cb),(1,sv s),(2,sv t),(3,iv deep),(8,.at (.ptr 8 0)),(12,.at (.ptr 12 0)),(13,iv n)] [(8,.cells 35 (jI.enc.map .val)),(12,.cells 35 (((⟨op,0,gA,gA,⟨none,0,0⟩⟩:PV).enc.take 12).map .val++[.lst 104])),(104,.lst 35 13 (d.map PV.enc))] m h})] [(3,{A:=Int×Bool×MH,st:=λ⟨k,b,m⟩=>bZ 107 111 [(0,pv cb),(1,sv s),(2,sv t),(3,iv deep),(8,.at (.ptr 8 0)),(9,iv k),(16,bv b)] [(8,.cells 35 (jI.enc.map .val))] m c}),
  (5,{A:=Int×Bool×MH,st:=λ⟨k,b,m⟩=>bZ 107 111 [(0,pv cb),(1,sv s),(2,sv t),(3,iv deep),(8,.at (.ptr 8 0)),(9,iv k),(27,bv b)] [(8,.cells 35 (jI.enc.map .val))] m c}),
  (8,{A:=Int×MH,st:=λ⟨k,m⟩=>bZ 107 111 [(0,pv cb),(1,sv s),(2,sv t),(8,.at (.ptr 8 0)),(10,iv k)] [(8,.cells 35 (jI.enc.map .val))] m c}),
  (9,{A:=PV×Int×MH,st:=λ⟨p,k,m⟩=>bZ 107 111 [(0,pv cb),(1,sv s),(2,sv t),(8,.at (.ptr 8 0)),(10,iv k),(11,.at (.ptr 11 0))] [(8,.cells 35 (jI.enc.map .val)),(11,.cells 35 (p.enc.map .val))] m c}),
  (11,{A:=PV×MH,st:=λ⟨p,m⟩=>bZ 107 111 [(0,pv cb),(8,.at (.ptr 8 0)),(11,.at (.ptr 11 0))] [(8,.cells 35 (jI.enc.map .val)),(11,.cells 35 (p.enc.map .val))] m c}),
  (13,{A:=PV×MH,st:=λ⟨p,m⟩=>bZ 107 111 [(8,.at (.ptr 8 0)),(11,.at (.ptr 11 0))] [(8,.cells 35 (jI.enc.map .val)),(11,.cells 35 (p.enc.map .val))] m c})] [] false
noncomputable abbrev iE:=kF 0
abbrev FZ:=eQ (oQ 32 (gL iE iE (gL (kF 0) iE (DX aQz))))
abbrev vD a b c:=bV a b []=bV a b c
noncomputable abbrev nN(a:Nat×eh):=List.map OV.enc a.2
abbrev Lr(a b:Nat×eh):=gX (bH a.1 1)=bP b.1
noncomputable abbrev rB(a:Nat):=fV (↑a:Int)
abbrev pP(a:Int)(b:List cr)(c:cr->Prop):=aA (cM a) (a<tE b) (∃(x:cr),c x)
abbrev Gd(a:Nat)(b:Int)(c:Nat->Option Obj)(d:Nat->Nat->Option Value)(e:VV->MH->Prop):=∃(x:Nat)(j:Int),aA (fC (cQp a 0) b=fC (cQp x 0) j) (bB c d x) (∀(f:VV)(g:MH),bF (NY f) (aWZ j f) (bF (bO c g x) (bB g d x) (e f g)))
attribute [push_cast] iE FZ vD nN Lr rB pP Gd
def Ux(cb:Nat)(s t:Sl)(d:Int)(m:MH)(h:PH)(K:cn):=
  ∃(I:Nat×eh->Prop)(g:Nat×eh->Nat),(∃(x:Nat×eh),aA (I x) (cT cb) (aA (aJ t) (fD d) (aA iM (eL 29) (aA (aJ s) (bJ s) (aA (bE x.1) FZ (aA (vD 32 5 (nN x)) (m=m) (bU h h)))))))/\∀(x:Nat×eh),I x->bA (↑x.1:Int) (aG s) (bK (λb o=>aI (aW s.a b o) (0<=(↑x.1:Int)) ((↑x.1:Int)<aG s) (∃(y:Int),aL m h b (o+bM x.1 1) (bC y)/\eY y d (aA (jA (j4 (nN x) 1) 48) (dR (nN x)) (∃(c:Nat×eh),aA (I c) (g c<g x) (aA (cT cb) (aJ t) (aA (fD d) iM (aA (eL 29) (aJ s) (aA (bJ s) (Lr x c) (aA FZ (bV 32 5 (dN (nN x) (aX (fV 1) (rB x.1) (aX bI bI FU)))=bV 32 5 (nN c)) (eG m m h h)))))))) (∃(c:Nat×eh),aA (I c)
 (g c<g x) (aA (cT cb) (aJ t) (aA (fD d) iM (aA (eL 29) (aJ s) (aA (bJ s) (Lr x c) (aA FZ (bV 32 5 (nN x)=bV 32 5 (nN c)) (eG m m h h)))))))))) (∃(I1:Nat×eh->Prop)(j:Nat×eh->Nat),(∃(c:Nat×eh),aA (I1 c) (cT cb) (aA (fD d) iM (aA (eL 29) (aJ t) (aA (bJ t) (bE c.1) (aA FZ (bV 32 5 (nN x)=bV 32 5 (nN c)) (aA (m=m) (h=h) True))))))/\∀(c:Nat×eh),I1 c->bA (↑c.1:Int) (aG t) (bK (λb o=>aI (aW t.a b o) (0<=(↑c.1:Int)) ((↑c.1:Int)<aG t) (∃(y:Int),aL m h b (o+bM c.1 1) (bC y)/\eY y d (aA (jA (j4 (nN c) 1) 48) (dR (nN c)) (∃(f:Nat×eh),aA (I1 f) (j f<j c) (aA (cT cb) (fD d) (aA iM (eL 29)
 (aA (aJ t) (bJ t) (aA (Lr c f) FZ (aA (bV 32 5 (dN (nN c) (aX (fV 2) (rB c.1) (aX bI bI FU)))=bV 32 5 (nN f)) (m=m) (bU h h)))))))) (∃(f:Nat×eh),aA (I1 f) (j f<j c) (aA (cT cb) (fD d) (aA iM (eL 29) (aA (aJ t) (bJ t) (aA (Lr c f) FZ (aA (bV 32 5 (nN c)=bV 32 5 (nN f)) (m=m) (bU h h)))))))))) (kK cb (bH (nN c).length 1) m h (λk n=>bA k (tE (nN c)) (pP k (nN c) (λe=>mQ (nN c) k.toNat e/\∃(y:OV),uK 5 e y.enc/\K (kE y.enc) n h)) (Gd cb d n h (λv u=>K (kE (aX (fV 3) bI (aX (fV v.kind) (fV v.int) (oW (Value.string v.text))))) u h)))))
abbrev pM(a:Nat)(b:Int)(c:MH)(d:PH)(e:Nat->Bool->Prop):=∃(x:Nat)(f:Int),aA (fC (cQp a 0) b=fC (cQp x 0) f) (cM f) (aA (f<=1000) (bB c d x) (∀(g:Bool),e x g))
abbrev vT:=eQ (oQ 35 zP)
abbrev KW(a:Int×Bool×MH->Prop)(b:Nat)(c d:Sl)(e:Nat)(g:Int)(i:(Int×Bool×MH)->Prop)(j:Nat->Option Obj)(k:PH):=∃(x:Int×Bool×MH),aA (a x) (cT b) (aA (aJ c) (aJ d) (aA (eQ (bP e)) iM (aA (dH g x.1) (i x) (dL vT j x.2.2 k k))))
noncomputable abbrev dA a b:=cQp a 0::b
abbrev nZ a:=a<=1000
abbrev gU(a:cq):=nZ a.length
noncomputable abbrev BB(a:OV):=kF a.index
abbrev CR(a:Nat->Sl->Sl->cq->cq->Nat->Prop):=∃(x:Nat)(c:Sl),AO (λd e f=>∃(g:Nat),a x c d e f g)
abbrev FV(a:PV->Pred->Prop):=∀(x:PV)(c:Pred),a x c
abbrev eX(a:MH->PH->Prop):=∀(x:MH)(c:PH),a x c
abbrev KX(a:dl)(b:MH)(c:PH)(d:Nat)(e:PV->MH->PH->Prop):=CR (λx t u j n f=>aA (a=dA x (dE t (i6 u (↑f:Int)))) (bB b c x) (aA (Ints c t j) (Ints c u n) (aA (gU j) (gU n) (aA (f<d) (nZ f) (FV (λy z=>eX (λo g=>bR c g (fO g z y) (bF (PW j n f z) (bO b o x) (pF o g x (e y o g))))))))))
noncomputable abbrev Ls a b:=gL (kF a) iE (gL (kF b) iE (gL iE iE (gL aQz iE (gL iE iE (gL (kF b) aQz (DX (At.lst 104)))))))
noncomputable abbrev Gg(a:Int×Int×dz×MH×PH):=List.map PV.enc a.2.2.1
abbrev bW(a:MH)(b:MH×PH):=a=b.1
noncomputable abbrev CT(a:Int×Int×dz×MH×PH):=a.2.2.2
abbrev eH(a:PH)(b:MH×PH):=a=b.2
attribute [push_cast] pM vT KW dA nZ gU BB CR FV eX KX Ls Gg bW CT eH
def X2(N cb:Nat)(s t:Sl)(deep:Nat)(m:MH)(h:PH)(K:cn):=
  kK cb 9 m h (λk E=>∃(I:Int×Bool×MH->Prop),eY k 0 (pM cb 2 E h (λc r=>∀(e:MH),bF (bO E e c) (bB e h c) (KW I cb s t deep k (λx=>jQ r x.2.1) e h))) (KW I cb s t deep k (λx=>EH x.2.1) E h)/\∀(x:Int×Bool×MH),hX (I x) x.2.1 (kK cb 2 x.2.2 h (λj e=>K (kE (aX (fV (fM (1+j))) bI (aX bI bI (aX bI bI (aX vQz bI (aX bI bI (aX bI vQz iP))))))) e h)) (∃(I1:Int×Bool×MH->Prop),bA x.1 6 (KW I1 cb s t deep x.1 (λn=>zC n.2.1) x.2.2 h) (KW I1 cb s t deep x.1 (λn=>jQ (decide ((↑deep:Int)<1)) n.2.1) x.2.2 h)/\∀(n:Int×Bool×MH),I1 n->dP n.2.1 (∃(I2:Int×MH->Prop),fZ (aG s) 0 (kK cb (aG s) n.2.2 h (λj e=>bK (λb o=>aI (aW s.a b o) (0<=j) (j<
 aG s) (∃(y:Int),aL e h b (o+iA j 1) (bC y)/\∃(d:Int×MH),aA (I2 d) (cT cb) (aA (aJ s) (aJ t) (aA iM (dH y d.1) (aA vT (e=d.2) (bU h h)))))))) (∃(d:Int×MH),aA (I2 d) (cT cb) (aA (aJ s) (aJ t) (aA iM (dH 4 d.1) (aA vT (n.2.2=d.2) (bU h h)))))/\∀(d:Int×MH),I2 d->∃(I3:PV×Int×MH->Prop),kK cb 6 d.2 h (λj e=>∃(c:Nat),sG (λA C=>∃(H:Int),J3 (λB p=>aA (dA cb (dE s (i6 t d.1))=dA c (dE A (i6 C H))) (bB e h c) (aA (Ints h A B) (Ints h C p) (aA (gU B) (gU p) (∀(o:OV)(z:MH),bF (Zj B p H o) (bO e z c) (pF z h c (Gd cb d.1 z h (λv F=>∃(f:PV×Int×MH),aA (I3 f) (cT cb) (aA (aJ s) (aJ t) (aA iM (dH d.1
 f.2.1) (aA (eP 11) vT (dL (oQ 35 (gL (kF 3) (kF (fM (1+j))) (gL (kF o.kind) (BB o) (gL (kF (qL o)) (kF (G7 o)) (gL (NW (BR o)) (kF 3) (gL iE (kF v.kind) (gL (kF v.int) (NW v.text) (DX Km)))))))=sS 35 f.1.enc) F f.2.2 h h)))))))))))))/\∀(f:PV×Int×MH),I3 f->∃(I4:PV×MH->Prop),pM cb 3 f.2.2 h (λc r=>∀(e:MH),bF (bO f.2.2 e c) (bB e h c) (branch r (∃(B:Nat),sG (λA C=>∃(j:Int),J3 (λG p=>aA (dA cb (dE s (i6 t f.2.1))=dA B (dE A (i6 C j))) (bB e h B) (aA (Ints h A G) (Ints h C p) (aA (gU G) (gU p) (∀(o:OV)(z:MH),bF (Zj G p j o) (bO e z B) (pF z h B (∃(g:PV×MH),aA (I4 g) (cT cb) (aA iM (eP 11) (aA vT (oQ 35 (gL (kF f.1.op) (kF
 f.1.cmp) (gL (kF f.1.left.kind) (BB f.1.left) (gL (kF (qL f.1.left)) (kF (G7 f.1.left)) (gL (NW (BR f.1.left)) (kF o.kind) (gL (BB o) (kF (qL o)) (gL (kF (G7 o)) (NW (BR o)) (pG f.1.args)))))))=sS 35 g.1.enc) (aA (z=g.2) (h=h) True))))))))))) (∃(g:PV×MH),aA (I4 g) (cT cb) (aA iM (eP 11) (aA vT (sS 35 f.1.enc=sS 35 g.1.enc) (aA (e=g.2) (h=h) True))))))/\∀(g:PV×MH),I4 g->∃(I5:PV×MH->Prop),pM cb 6 g.2 h (λc r=>∀(e:MH),bF (bO g.2 e c) (bB e h c) (branch r (∃(u:PV×MH),aA (I5 u) iM (aA (eP 11) vT (dL (oQ 35 (gL (kF g.1.op) (kF g.1.cmp) (gL (kF g.1.right.kind) (BB g.1.right) (gL (kF (qL g.1.right)) (kF (G7 g.1.right)) (gL (NW (BR g.1.right)) (kF g.1.left.kind) (gL
 (BB g.1.left) (kF (qL g.1.left)) (gL (kF (G7 g.1.left)) (NW (BR g.1.left)) (pG g.1.args)))))))=sS 35 u.1.enc) e u.2 h h))) (∃(u:PV×MH),aA (I5 u) iM (aA (eP 11) vT (dL (sS 35 g.1.enc=sS 35 u.1.enc) e u.2 h h)))))/\∀(u:PV×MH),I5 u->K (kE u.1.enc) u.2 h) (n.1==6) (KX (dA cb (dE s (i6 t (fM ((↑deep:Int)-1))))) n.2.2 h N (λv e D=>cF D 13 (lY v.enc) (λA J=>K (kE (aX (fV 6) bI (aX bI bI (aX bI bI (aX vQz bI (aX bI bI (aX bI vQz (aM A)))))))) e J))) (kK cb 3 n.2.2 h (λj e=>∃(I2:Int×Int×dz×MH×PH->Prop)(z:Int×Int×dz×MH×PH->Nat),(∃(d:Int×Int×dz×MH×PH),aA (I2 d) (cT cb) (aA (aJ s) (aJ t) (aA (eQ (bP deep)) iM (aA (eP 12)
 (dH j d.2.1) (aA vT (oQ 35 (Ls (fM (fM (4+n.1)-7)) 0)=oQ 35 (Ls d.1 0)) (aA (vD 35 13 (Gg d)) (bW e (CT d)) (lF (eH h (CT d)))))))))/\∀(d:Int×Int×dz×MH×PH),I2 d->iG d.2.1 0 (KX (dA cb (dE s (i6 t (fM ((↑deep:Int)-1))))) (CT d).1 (CT d).2 N (λv F D=>aA (jA (j4 (Gg d) 1) 136) (dR (Gg d)) (∃(f:Int×Int×dz×MH×PH),aA (I2 f) (z f<z d) (aA (cT cb) (aJ s) (aA (aJ t) (eQ (bP deep)) (aA iM (eP 12) (aA (dH (fM (d.2.1-1)) f.2.1) vT (aA (oQ 35 (Ls d.1 0)=oQ 35 (Ls f.1 0)) (bV 35 13 (dN (Gg d) v.enc)=bV 35 13 (Gg f)) (aA (bW F (CT f)) (eH D (CT f)) True))))))))) (cF (CT d).2 13 (Gg d) (λA
 D=>K (kE (aX (fV d.1) bI (aX bI bI (aX bI bI (aX vQz bI (aX bI bI (aX bI vQz (aM A)))))))) (CT d).1 D))))))
def Ym(N cb:Nat)(s t:Sl)(deep:Nat)(m:MH)(h:PH)(K:cn):=
  KX (dA cb (dE s (i6 t (↑deep:Int)))) m h N (λv e d=>Ga (dE s (gT t (lN v))) d (λc p f=>eY (iI c p f) 2 (KX (dA cb (dE s (i6 t 1))) e d N (λg j n=>K (kE g.enc) j n)) (K (kE v.enc) e d)))
theorem YP:eqV zeroV zeroV=true:=by simp[eqV]
theorem DW:Hr 0 gA gA=true:=by simp[Hr,eqO,eqV]
theorem ZV{cols params x}(h:cols[i]? =some x):kindOf cols params ⟨1,i,zeroV⟩=x:=by
 have d:=(bm h);have e:kindOf cols params ⟨1,i,zeroV⟩=sI cols ⟨1,i,zeroV⟩:=rfl;have c:=YP;rw[e];simp only[sI,c,Bool.not_true,Bool.or_false]
 grind
theorem ZU{cols params x}(h:params[i]? =some x):kindOf cols params ⟨2,i,zeroV⟩=x:=by
 have d:=(bm h);have e:kindOf cols params ⟨2,i,zeroV⟩=sI params ⟨2,i,zeroV⟩:=rfl;have c:=YP;rw[e];simp only[sI,c,Bool.not_true,Bool.or_false]
 grind
theorem Xh{cols params c v}(f:NY v)(g:aWZ c v):Zj cols params c ⟨3,0,v⟩:=⟨f,λh=>by
 obtain⟨j,d⟩:=g h;have e:kindOf cols params ⟨3,0,v⟩=if((0:Int) !=0|| !pW v)then 0 else v.kind:=rfl
 rw[e,if_neg,d];simp only[pW,j,d];rcases h with rfl|rfl|rfl<;>decide⟩
theorem atJ:cm 128 Zi:=by
 refine iU func128 ?_;rintro U m h K ⟨cb,s,t,d,e,c,rfl,V,P,Q,Z,l2,R⟩;refine⟨bUQ cb s t d m h,rfl,aE O7 (aE M8 aH),Ux cb s t d m h K,ax,?_⟩;dsimp only[Ux,push_cast];have E:=P.slen;have F:=Q.slen;refine⟨λ⟨i,f⟩=>i<=e.length/\f.length<=i/\∀o∈f,Zj e c d o,λ⟨i,_⟩=>e.length-i,⟨(0,[]),⟨aC,ay,ay⟩,MT⟩,?_⟩;rintro⟨i,f⟩ ⟨S,y,g⟩;dsimp only;refine aF (λj=>?_) (λz=>?_)
 .obtain⟨x,A⟩:=fF E j;obtain⟨G,H,I,J⟩:=P.at' A;refine⟨G,H,I,aC,j,x,.imm J,aD (λW=>⟨bf,bf,(i+1,f++[⟨1,i,zeroV⟩]),⟨aC,bf,?_⟩,aC,?_⟩) (λ_=>⟨(i+1,f),⟨aC,bg,g⟩,aC,MT⟩)⟩
  .intro o u;rcases mem_append.1 u with n|n
   .grind
   .simp at n;subst n;exact⟨tW,λ_=>by rw[ZV (bk A)];grind⟩
  .rw[bu];exact MT
 refine⟨λ⟨i,f⟩=>i<=c.length/\f.length<=1000+i/\∀o∈f,Zj e c d o,λ⟨i,_⟩=>c.length-i,⟨(0,f),⟨aC,aC,g⟩,MT⟩,?_⟩;clear S y g z;rintro⟨i,f⟩ ⟨S,y,g⟩;dsimp only;refine aF (λj=>?_) (λz=>?_)
 .obtain⟨x,A⟩:=fF F j;obtain⟨G,H,I,J⟩:=Q.at' A;refine⟨G,H,I,aC,j,x,.imm J,aD (λW=>⟨bf,bf,(i+1,f++[⟨2,i,zeroV⟩]),⟨aC,bf,?_⟩,aC,?_⟩) (λ_=>⟨(i+1,f),⟨aC,bg,g⟩,aC,MT⟩)⟩
  .intro o u;rcases mem_append.1 u with n|n
   .grind
   .simp at n;subst n;exact⟨tW,λ_=>by rw[ZU (bk A)];grind⟩
  .rw[bu];exact MT
 .refine⟨cb,_,rfl,V,λk m' X n u B=>aF (λT=>?_) (λT=>⟨cb,d,rfl,B,λv L Y M O C=>R ⟨3,0,v⟩ L (Xh Y M) (u.trans O) C⟩)⟩;have D:k.toNat<f.length:=bg
  exact⟨X,T,_,by rw[getElem?_map,bn D];rfl,f[k.toNat],rfl,R _ m' (g _ (getElem_mem D)) u B⟩
theorem Q8{h v}(c:v.args=⟨none,0,0⟩):fO h (.mk v.op v.cmp v.left v.right []) v:=fO.mk (by rw[c];exact .nil _ _ _ _)
structure ccQ(cols params:cq)(kd:Int)(p:PV):Prop where
 args_:p.args=⟨none,0,0⟩
 op_:p.op=3
 cmp_:1<=p.cmp/\p.cmp<=6
 left_:Zj cols params kd p.left
 right_:Zj cols params kd p.right
 kind_:Pd cols->KOk kd
theorem ciJ{k}(h:KOk k):k≠0:=by rcases h with rfl|rfl|rfl<;>decide
theorem ccQ.pw{cols params f p}(x:ccQ cols params f p) d:PW cols params d (.mk p.op p.cmp p.left p.right []):=by
 refine⟨⟨x.left_.val,x.right_.val,trivial⟩,λg=>?_,Sb.leaf d⟩;have c:=x.kind_ g;have j:=x.left_.kind c;have n:=x.right_.kind c;have o:=ciJ c;have e:=x.cmp_;rw[x.op_];simp[kO,j,n,o,e.1,e.2]
theorem cPX{cols params d}(x:PW cols params d p):PW cols params (d+1) (.mk 6 0 gA gA [p]):=
 ⟨⟨tW,tW,x.vals,trivial⟩,λf=>by
  have e:=DW;simp[kO,yW,e,x.valid f],Sb.node (λq c=>by simp at c;subst c;exact x.siz) ay⟩
theorem cPZ{cols params d op ps}(f:op=4\/op=5)(x:∀p∈ps,PW cols params d p)(g:ps.length<=3):PW cols params (d+1) (.mk op 0 gA gA ps):=
 ⟨⟨tW,tW,Sf.2 λp c=>(x p c).vals⟩,λj=>by
  have e:=DW;have n:yW cols params ps=true:=by rw[Hl,all_eq_true];exactλp c=>(x p c).valid j
  rcases f with rfl|rfl<;>simp[kO,e,n],Sb.node (λq o=>(x q o).siz) g⟩
theorem aNJ:∀N,cm 65 (b1J N)
 |0=>by
  refine fP (fn:=Tryz.f65) (c:=dY Tryz.f65) func65 rfl az ?_;rintro a0 m h K ⟨cb,s,t,f,d,deep,rfl,_,_,_,_,_,hN,_⟩;omega
 |N+1=>by
  refine iU func65 ?_;rintro a0 m h K ⟨cb,s,t,f,d,deep,rfl,hc,M,ht,l1,l2,hN,hd,hK⟩;refine⟨cqQ N cb s t deep h,rfl,aE O7 (aE Db (aE atJ (aE M8 (aE (aNJ N) aH)))),X2 N cb s t deep m h K,ax,?_⟩;dsimp only[X2,push_cast];have a7:=M.slen;refine⟨cb,9,rfl,hc,λk B L O g y=>?_⟩;refine⟨λ⟨k,_,z⟩=>0<=k/\k<=8/\bO m z cb/\bB z h cb,aD (λ_=>⟨cb,2,rfl,aC,aC,y,λr E C D=>⟨(k,r,E),⟨L,aC,g.trans C,D⟩,MT⟩⟩) (λ_=>⟨(k,false,B),⟨L,aC,g,y⟩,MT⟩),?_⟩;clear L O g y k B;rintro⟨k,b,B⟩ ⟨L,O,g,y⟩;dsimp only;refine aD (λ_=>⟨cb,2,rfl,y,λj E R j1 C D=>?_⟩) (λ_=>?_)
  .refine hK ⟨IntKind.i64.wrap (1+j),0,gA,gA,⟨none,0,0⟩⟩ _ E h (.refl _) (Q8 rfl) ⟨⟨tW,tW,trivial⟩,λ_=>?_,Sb.leaf _⟩ (g.trans C) D;have hj:j=0\/j=1:=by omega
   have e1:IntKind.i64.wrap 1=1:=az
   have e2:IntKind.i64.wrap 2=2:=az
   rcases hj with rfl|rfl
   .simp[kO,e1,DW]
   .simp[kO,e2,DW]
  refine⟨λ⟨k,b,z⟩=>0<=k/\k<=8/\(b=false->6<=k/\1<=deep)/\bO m z cb/\bB z h cb,aF (λ_=>⟨(k,true,B),⟨L,O,λe=>(by cases e),g,y⟩,MT⟩) (λhk=>⟨(k,_,B),⟨L,O,λe=>?_,g,y⟩,MT⟩),?_⟩
  .grind
  clear L O g y k B;rintro⟨k,b,B⟩ ⟨L,O,kb,g,y⟩;dsimp only;refine aD (λ_=>?_) (λhb=>?_)
  .refine⟨λ⟨G,z⟩=>(Pd f->KOk G)/\bO m z cb/\bB z h cb,aF (λa6=>⟨cb,s.len,rfl,y,λj E R j1 C D=>?_⟩) (λ_=>⟨(4,B),⟨λ_=>.inr (.inl rfl),g,y⟩,MT⟩),?_⟩
   .obtain⟨b1,a1,e1,r1⟩:=M.inb (n:=j) R aC
    have hm:f.getD j.toNat 0∈f:=by
     grind
    exact⟨b1,a1,e1,R,aC,_,.imm r1,(_,E),⟨λS=>S _ hm,g.trans C,D⟩,MT⟩
   clear g y B;rintro⟨G,B⟩ ⟨T,g,y⟩;dsimp only;refine⟨λ⟨p,G,z⟩=>ccQ f d G p/\bO m z cb/\bB z h cb,⟨cb,6,rfl,y,λj E R j1 C D=>⟨cb,s,t,G,f,d,rfl,D,M,ht,l1,l2,λo m3 ho U V=>⟨cb,G,rfl,V,λv m4 hv a2 o4 c4=>⟨(⟨3,IntKind.i64.wrap (1+j),o,⟨3,0,v⟩,⟨none,0,0⟩⟩,G,m4),⟨⟨rfl,rfl,?_,ho,Xh hv a2,T⟩,((g.trans C).trans U).trans o4,c4⟩,MT⟩⟩⟩⟩,?_⟩
   .show 1<=IntKind.i64.wrap (1+j)/\IntKind.i64.wrap (1+j)<=6;rw[fG aC aC];omega
   clear g y B T G;rintro⟨p,G,B⟩ ⟨pw,g,y⟩;dsimp only;refine⟨λ⟨p,z⟩=>ccQ f d G p/\bO m z cb/\bB z h cb,⟨cb,3,rfl,aC,aC,y,λr E C D=>aD (λ_=>⟨cb,s,t,G,f,d,rfl,D,M,ht,l1,l2,λo m3 ho U V=>⟨(⟨p.op,p.cmp,p.left,o,p.args⟩,m3),⟨⟨pw.args_,pw.op_,pw.cmp_,pw.left_,ho,pw.kind_⟩,(g.trans C).trans U,V⟩,MT⟩⟩) (λ_=>⟨(p,E),⟨pw,g.trans C,D⟩,MT⟩)⟩,?_⟩;clear pw g y B p;rintro⟨p,B⟩ ⟨pw,g,y⟩;dsimp only;refine⟨λ⟨p,z⟩=>ccQ f d G p/\bO m z cb/\bB z h cb,⟨cb,6,rfl,aC,aC,y,λr E C D=>aD (λ_=>⟨(⟨p.op,p.cmp,p.right,p.left,p.args⟩,E),⟨⟨pw.args_,pw.op_,pw.cmp_,pw.right_,pw.left_,pw.kind_⟩,g.trans C,D⟩,MT⟩) (λ_=>⟨(p,E),⟨pw,g.trans C,D⟩,MT⟩)⟩,?_⟩;clear pw g y B p;rintro⟨p,B⟩ ⟨pw,g,y⟩;exact hK p _ B h (.refl _) (Q8 pw.args_) (pw.pw deep) g y
  have a3:=kb hb;have hw:IntKind.i64.wrap ((deep:Int)-1)=((deep-1:Nat):Int):=by rw[fG aC aC];omega
  rw[hw];have W:deep=deep-1+1:=by omega
  refine aD (λ_=>⟨cb,s,t,f,d,deep-1,rfl,y,M,ht,l1,l2,aC,aC,λv p E h2 F hr hp C D X Y H I=>?_⟩) (λa4=>⟨cb,3,rfl,y,λj E R j1 C D=>?_⟩)
  .refine hK ⟨6,0,gA,gA,X⟩ (.mk 6 0 gA gA [p]) E Y (F.trans H) (fO.mk (v:=⟨6,0,gA,gA,X⟩) ⟨⟨[v],I,rfl,λi x J=>?_⟩,ay⟩) (by rw[W];exact cPX hp) (g.trans C) (D.mono H)
   match i,J with
   |0,J=>simp at J;subst J;exact⟨v,rfl,hr.mono H⟩
   |_+1,J=>simp at J
  refine⟨λ⟨op,n,P,z,J⟩=>(op=4\/op=5)/\ -1<=n/\n<=2/\(P.length:Int)<=2-n/\PH.le h J/\bO m z cb/\bB z J cb/\∃ps:di,ps.length=P.length/\(∀q∈ps,PW f d (deep-1) q)/\∀(i:Nat) q,ps[i]? =some q->∃u,P[i]? =some u/\fO J q u,λ⟨_,n,_,_,_⟩=>(n+1).toNat,⟨(_,j,[],E,h),⟨?_,aC,aC,bf,.refl _,g.trans C,D,[],rfl,ay,λi q Q=>by simp at Q⟩,MT⟩,?_⟩
  .have a4:k≠6:=bg
   have a5:k=7\/k=8:=by omega
   rcases a5 with rfl|rfl
   .exact .inl az
   .exact .inr az
  rintro⟨op,n,P,z,J⟩ ⟨Z,n0,n1,ul,F,ox,cx,ps,pl,pw,a'⟩;dsimp only;refine aF (λhn=>⟨cb,s,t,f,d,deep-1,rfl,cx,M.mono F,ht.mono F,l1,l2,aC,aC,λv p m3 Y A hr hp U V=>⟨bf,bf,(op,n-1,P++[v],m3,Y),⟨Z,bg,bg,bf,F.trans A,ox.trans U,V,ps++[p],by simp[pl],?_,?_⟩,?_,?_⟩⟩) (λhn X Y A I=>?_)
  .grind
  .intro i q Q;by_cases hi:i<ps.length
   .rw[getElem?_append_left hi]at Q;obtain⟨u,h1,h2⟩:=a' i q Q;exact⟨u,bg,h2.mono A⟩
   grind
  .grind
  .rw[bu,fG aC aC];exact MT
  .exact hK ⟨op,0,gA,gA,X⟩ (.mk op 0 gA gA ps) z Y (F.trans A) (fO.mk (v:=⟨op,0,gA,gA,X⟩) ⟨⟨P,I,pl,λi q Q=>(a' i q Q).imp λu hu=>⟨hu.1,hu.2.mono A⟩⟩,aC⟩) (by rw[W];exact cPZ Z pw aC) ox (cx.mono A)
theorem YV(h:Pd l):l.all gS=true:=all_eq_true.2 λk c=>by
 rcases h k c with e|e|e<;>subst e<;>rfl
theorem aIZ{cols params d}(x:PW cols params d p)(e:d<=2)(c:Pd cols)(f:Pd params):iI cols params p=0:=by
 have j:=QR p 0;have o:=x.siz.n;have g:=OR p 8 (by have:=x.siz.d;omega)
 have t:gF d<=13:=by match d,e with
  |0,_=>decide
  |1,_=>decide
  |2,_=>decide
 unfold iI;rw[YV c,YV f,if_neg ay,g,if_neg bf,x.valid c];rfl
theorem Nf:cm 27 GZ:=by
 refine iU func27 ?_;rintro G m h K ⟨cb,s,t,e,c,deep,rfl,H,j,n,z,A,I,B⟩;refine⟨dJ [(65,b1J 1001),(66,vI)] [] [] [] false,rfl,aE (aNJ 1001) (aE Nb aH),Ym 1001 cb s t deep m h K,ax,?_⟩;dsimp only[Ym,push_cast];refine⟨cb,s,t,e,c,deep,rfl,H,j,n,z,A,aC,I,λv p J L d C D E F=>⟨s,t,v,e,c,p,rfl,j.mono d,n.mono d,C,aD (λ_=>⟨cb,s,t,e,c,1,rfl,F,j.mono d,n.mono d,z,A,aC,aC,λM O P Q f o g R S=>B M O P Q (d.trans f) o ⟨g.vals,λ_ u y=>aIZ g az u y⟩ (E.trans R) S⟩) (λ_=>B v p J L d C ⟨D.vals,λT u y=>aIZ D T u y⟩ E F)⟩⟩
def cH:Sl:=⟨none,0,0⟩
def aYZ:Vc.Spec:=λc m h K=>∃n k,c=[SJ n,cI k]/\K (.val (.agg ⟨(qE.mk n k).enc⟩)) m h
def b4Z:Vc.Spec:=λc m h K=>∃t,c=[cI t]/\K (aQ ⟨1,t,jI,cH,cH,cH,cH,0,cH⟩) m h
def cEJ(v:QV)(g o:Sl)(k:Int):QV:=⟨v.op,v.table,v.where_,v.columns,v.on,g,o,k,v.args⟩
def cHZ:Vc.Spec:=λd m h K=>∃cb v s c,d=[cP cb,aQ (cEJ v cH cH v.limit),cS s]/\bB m h cb/\Ints h s c/\c.length<=1000/\
 ∀g o k gr od m' h',PH.le h h'->Ints h' g gr->jC h' o od->gr.length<=c.length->od.length<=c.length->0<=k->k<=3->bO m m' cb->bB m' h' cb->K (aQ (cEJ v g o k)) m' h'
noncomputable def ctX(cb:Nat)(v:QV)(s:Sl)(h:PH):=
 dJ [(19,N3),(25,Sw)] [(2,{A:=Nat×cq×cv×MH,st:=λ⟨i,gr,od,m⟩=>bZ 37 40 [(0,pv cb),(4,.at (.ptr 4 0)),(6,.at (.ptr 6 0)),(9,iv s.len),(10,iv i)] [(4,.cells 41 ((v.enc.take 17).map .val++[.lst 19,.lst 30,.val (.int .i64 v.limit),.val (.slice v.args.a v.args.len v.args.cap)])),(6,.cells 41 (Et.enc.map .val)),(19,.lst 3 1 (gr.map eI)),(30,.lst 77 2 (od.map DT))] m h})] [] [] false
def bHX(n:ByteArray)(k:Int)(m:MH)(h:PH)(K:cn):=
  K (kE (sA n k)) m h
noncomputable abbrev Ct a:=VE (fV 1) (fV a)
attribute [push_cast] Ct
def bIQ(t:Int)(m:MH)(h:PH)(K:cn):=
  K (kE (Ct t)) m h
abbrev Iv a:=eQ (oQ 41 (gL (kF a.op) (zE a) (B9 a a.on (At.lst 19) (At.lst 30) (oT (kF a.limit) (BY a.args)))))
abbrev j7:=eQ (oQ 41 zQ)
noncomputable abbrev tK(a:Nat×cq×cv×MH):=List.map DT a.2.2.1
abbrev KY(a:Nat×cq×cv×MH->Prop)(b:Nat×cq×cv×MH->Nat)(c:Nat×cq×cv×MH)(d:Nat)(e:Sl)(g:Prop)(i j:(Nat×cq×cv×MH)->Prop)(k:MH)(l:PH):=∃(x:Nat×cq×cv×MH),aA (a x) (b x<b c) (aA (cT d) (eP 4) (aA (eP 6) (bJ e) (aA (gX (bH c.1 1)=bP x.1) g (aA j7 (i x) (aA (j x) (k=x.2.2.2) (bU l l))))))
attribute [push_cast] Iv j7 tK KY
def Yg(cb:Nat)(v:QV)(s:Sl)(m:MH)(h:PH)(K:cn):=
  ∃(I:Nat×cq×cv×MH->Prop)(o:Nat×cq×cv×MH->Nat),(∃(x:Nat×cq×cv×MH),aA (I x) (cT cb) (aA (eP 4) (eP 6) (aA (bJ s) (bE x.1) (aA (Iv v) j7 (aA (tG x.2.1) (vD 77 2 (tK x)) (aA (m=x.2.2.2) (h=h) True))))))/\∀(x:Nat×cq×cv×MH),I x->bA (↑x.1:Int) (aG s) (pM cb 3 x.2.2.2 h (λc r=>∀(f:MH),bF (bO x.2.2.2 f c) (bB f h c) (branch r (aA (jA (j4 (hU x.2.1) 1) 8) (dR (hU x.2.1)) (pM cb 3 f h (λj t=>∀(e:MH),bF (bO f e j) (bB e h j) (branch t (pM cb 2 e h (λn u=>∀(g:MH),bF (bO e g n) (bB g h n) (aA (jA (j4 (tK x) 1) 16) (dR (tK x)) (KY I o x cb s (Iv v) (λd=>lS
 (dN (hU x.2.1) (bC (↑x.1:Int))) d.2.1) (λd=>bV 77 2 (dN (tK x) (j5 (rB x.1) (Value.bool u)))=bV 77 2 (tK d)) g h)))) (KY I o x cb s (Iv v) (λd=>lS (dN (hU x.2.1) (bC (↑x.1:Int))) d.2.1) (λd=>bV 77 2 (tK x)=bV 77 2 (tK d)) e h))))) (pM cb 3 f h (λj t=>∀(e:MH),bF (bO f e j) (bB e h j) (branch t (pM cb 2 e h (λn u=>∀(g:MH),bF (bO e g n) (bB g h n) (aA (jA (j4 (tK x) 1) 16) (dR (tK x)) (KY I o x cb s (Iv v) (λd=>lS (hU x.2.1) d.2.1) (λd=>bV 77 2 (dN (tK x) (j5 (rB x.1) (Value.bool u)))=bV 77 2 (tK d)) g h)))) (KY I o x cb s (Iv v) (λd=>lS (hU x.2.1) d.2.1) (λd=>bV 77 2 (tK x)=bV
 77 2 (tK d)) e h))))))) (kK cb 4 x.2.2.2 h (λk f=>cF h 1 (hU x.2.1) (λy z=>cF z 2 (tK x) (λA B=>K (kE (vS v v (vZ v (aX (dX v.on) (dX y) (aX (dX A) (fV k) (aM v.args)))))) f B))))
theorem beQ:cm 72 aYZ:=by
 refine iU func72 ?_;rintro c m h K ⟨n,k,rfl,d⟩;refine⟨dJ [] [] [] [] false,rfl,aH,bHX n k m h K,ax,?_⟩;exact d
theorem TG:cm 33 b4Z:=by
 refine iU func33 ?_;rintro c m h K ⟨t,rfl,d⟩;refine⟨dJ [] [] [] [] false,rfl,aH,bIQ t m h K,ax,?_⟩;exact d
theorem bgZ:cm 36 cHZ:=by
 refine iU func36 ?_;rintro J m h K ⟨cb,v,s,c,rfl,L,M,Y,O⟩;refine⟨ctX cb v s h,rfl,aE O7 (aE Db aH),Yg cb v s m h K,ax,?_⟩;dsimp only[Yg,push_cast];have P:=M.slen;refine⟨λ⟨i,gr,od,F⟩=>i<=c.length/\gr.length<=i/\od.length<=i/\bO m F cb/\bB F h cb,λ⟨i,_,_,_⟩=>c.length-i,⟨(0,[],[],m),⟨aC,ay,ay,.refl _ _,L⟩,MT⟩,?_⟩;rintro⟨i,gr,od,Z⟩ ⟨hi,hg,ho,n,G⟩;dsimp only;refine aF (λQ=>?_) (λR=>?_)
 .have fin:∀(f:cq)(g:cv) m',f.length<=i+1->g.length<=i+1->bO m m' cb->bB m' h cb->(i+1<=c.length/\f.length<=i+1/\g.length<=i+1/\bO m m' cb/\bB m' h cb):=λf g m' H B S T=>⟨aC,H,B,S,T⟩
  refine⟨cb,3,rfl,aC,aC,G,λr I j A=>aD (λ_=>⟨bf,bf,cb,3,rfl,aC,aC,A,λC o t u=>aD (λ_=>⟨cb,2,rfl,aC,aC,u,λy z D E=>⟨bf,bf,(i+1,gr++[(i:Int)],od++[((i:Int),y)],z),fin (gr++[(i:Int)]) (od++[((i:Int),y)]) z bf bf (((n.trans j).trans t).trans D) E,aC,?_⟩⟩) (λ_=>⟨(i+1,gr++[(i:Int)],od,o),fin (gr++[(i:Int)]) od o bf aC ((n.trans j).trans t) u,aC,?_⟩)⟩)
   (λ_=>⟨cb,3,rfl,aC,aC,A,λC o t u=>aD (λ_=>⟨cb,2,rfl,aC,aC,u,λy z D E=>⟨bf,bf,(i+1,gr,od++[((i:Int),y)],z),fin gr (od++[((i:Int),y)]) z aC bf (((n.trans j).trans t).trans D) E,aC,?_⟩⟩) (λ_=>⟨(i+1,gr,od,o),fin gr od o aC aC ((n.trans j).trans t) u,aC,MT⟩)⟩)⟩
  .simp only[bu];exact MT
  .simp only[bu];exact MT
  .simp only[bu];exact MT
 .refine⟨cb,4,rfl,G,λk I U k1 j A V H e W X B d C=>?_⟩;exact O V X k gr od I B (e.trans d) ⟨W.mono d,aC⟩ ⟨C,aC⟩ aC aC U aC (n.trans j) (A.mono (e.trans d))
def b6J:Vc.Spec:=λc m h K=>∃cb s t a b,c=[cP cb,cS s,cS t]/\bB m h cb/\Ints h s a/\Ints h t b/\a.length<=1000/\b.length<=1000/\
 ∀o on m' h',PH.le h h'->jD h' o on->on.length<=10->bO m m' cb->bB m' h' cb->K (cS o) m' h'
noncomputable def ctJ cb s t h:=
 dJ [(19,N3)] [(3,{A:=Int×cw×MH,st:=λ⟨n,on,m⟩=>bZ 77 80 [(0,pv cb),(1,sv s),(2,sv t),(7,.at (.lst 75)),(8,iv n)] [(75,.lst 130 2 (on.map sU))] m h}),
  (8,{A:=Int×Nat×cw×(Int×Int)×Bool×MH,st:=λ⟨n,i,on,p,f,m⟩=>bZ 77 80 [(0,pv cb),(1,sv s),(2,sv t),(7,.at (.lst 75)),(8,iv n),(9,.at (.ptr 9 0)),(10,bv f),(49,.at (.lst 75)),(50,iv on.length),(51,iv i)] [(9,.cells 130 [.val (.int .i64 p.1),.val (.int .i64 p.2)]),(75,.lst 130 2 (on.map sU))] m h})] [] [] false
noncomputable abbrev EN a:=List.map sU a
noncomputable abbrev Cx(a:Int×cw×MH):=EN a.2.1
noncomputable abbrev Gi(a:Int×Nat×cw×(Int×Int)×Bool×MH):=a.2.2.2.2.1
noncomputable abbrev Cw(a:Int×Nat×cw×(Int×Int)×Bool×MH):=a.2.2.1.length
noncomputable abbrev Ag(a:Int×Nat×cw×(Int×Int)×Bool×MH):=a.2.2.2.1
noncomputable abbrev uN(a:Int×Nat×cw×(Int×Int)×Bool×MH):=EN a.2.2.1
noncomputable abbrev Bg(a:Int×Nat×cw×(Int×Int)×Bool×MH):=a.2.2.2.2.2
abbrev Pv(a:dy->Prop)(b:dy->Nat)(c d:Nat)(e g:Sl)(i:Int×Nat×cw×(Int×Int)×Bool×MH)(j:dy->Int×Nat×cw×(Int×Int)×Bool×MH)(k:dy->Prop):=∃(x:Int×Nat×cw×(Int×Int)×Bool×MH),aA (a x) (b x<c) (aA (cT d) (aJ e) (aA (aJ g) (eL 75) (aA (dH i.1 (j x).1) (eP 9) (k x))))
attribute [push_cast] EN Cx Gi Cw Ag uN Bg Pv
def Yi(cb:Nat)(s t:Sl)(m:MH)(h:PH)(K:cn):=
  kK cb 3 m h (λk F=>∃(I:Int×cw×MH->Prop)(n:Int×cw×MH->Nat),(∃(x:Int×cw×MH),aA (I x) (cT cb) (aA (aJ s) (aJ t) (aA (eL 75) (dH k x.1) (aA (vD 130 2 (Cx x)) (F=x.2.2) (bU h h)))))/\∀(x:Int×cw×MH),I x->fZ x.1 0 (fZ (aG s) 0 (fZ (aG t) 0 (kK cb (aG s) x.2.2 h (λu G=>kK cb (aG t) G h (λz A=>aA (cM 0) ((0:Int)<2) (bK (λb o=>aI (aW s.a b o) (0<=u) (u<aG s) (∃(y:Int),aI (aL A h b (o+iA u 1) (bC y)) ((0:Int)<=1) ((1:Int)<2) (bK (λC D=>aI (aW t.a C D) (0<=z) (z<aG t) (∃(E:Int),aL A h C (D+iA z 1) (bC E)/\∃(I1:Int×Nat×cw×(Int×Int)×Bool×MH->Prop)(f:Int×Nat×List (Int
 ×Int)×(Int×Int)×Bool×MH->Nat),(∃(c:Int×Nat×cw×(Int×Int)×Bool×MH),aA (I1 c) (cT cb) (aA (aJ s) (aJ t) (aA (eL 75) (dH x.1 c.1) (aA (eP 9) (jQ (y==E) (Gi c)) (aA (eL 75) (cG (Cx x).length (Cw c)) (aA (bE c.2.1) (Gh (oT (kF u) (kF z)) (xT (Ag c))) (dL (bV 130 2 (Cx x)=bV 130 2 (uN c)) A (Bg c) h h)))))))/\∀(c:Int×Nat×cw×(Int×Int)×Bool×MH),I1 c->bA (↑c.2.1:Int) (↑(Cw c):Int) (pP (↑c.2.1:Int) (uN c) (λe=>mQ (uN c) (pD c.2.1) e/\∃(B:Int×Int),iF (uK 2 e (vY B)) (Gi c) (aA (cM 0) ((0:Int)<2) (aA (cM 0) ((0:Int)<2) (cX B.1 (Ag c).1 (aA (cM 1) ((1:Int)<2) (aA (cM 1) ((1:Int)<2)
 (Pv (λd=>I1 d) (λd=>f d) (f c) cb s t c (λd=>d) (λd=>aA (jQ (B.2 !=(Ag c).2) (Gi d)) (eL 75) (aA (cG (Cw c) (Cw d)) (gX (bH c.2.1 1)=bP d.2.1) (aA (Gh (xT (Ag c)) (xT (Ag d))) (bV 130 2 (uN c)=bV 130 2 (uN d)) (aA (Bg c=Bg d) (h=h) True))))))) (Pv (λd=>I1 d) (λd=>f d) (f c) cb s t c (λd=>d) (λd=>aA (EH (Gi d)) (eL 75) (aA (cG (Cw c) (Cw d)) (gX (bH c.2.1 1)=bP d.2.1) (aA (Gh (xT (Ag c)) (xT (Ag d))) (bV 130 2 (uN c)=bV 130 2 (uN d)) (aA (Bg c=Bg d) (h=h) True)))))))) (Pv (λd=>I1 d) (λd=>f d) (f c) cb s t c (λd=>d) (λd=>aA (EH (Gi d)) (eL 75) (aA
 (cG (Cw c) (Cw d)) (gX (bH c.2.1 1)=bP d.2.1) (aA (Gh (xT (Ag c)) (xT (Ag d))) (bV 130 2 (uN c)=bV 130 2 (uN d)) (aA (Bg c=Bg d) (h=h) True))))))) (branch (Gi c) (aA (jA (j4 (uN c) 1) 16) (dR (uN c)) (∃(d:Int×cw×MH),aA (I d) (n d<n x) (aA (cT cb) (aJ s) (aA (aJ t) (eL 75) (aA (dH (fM (c.1-1)) d.1) (bV 130 2 (dN (uN c) (vY (Ag c)))=bV 130 2 (Cx d)) (eG (Bg c) d.2.2 h h)))))) (∃(d:Int×cw×MH),aA (I d) (n d<n x) (aA (cT cb) (aJ s) (aA (aJ t) (eL 75) (aA (dH (fM (c.1-1)) d.1) (bV 130 2 (uN c)=bV 130 2 (Cx d)) (eG (Bg c) d.2.2 h h))))))))))))))) (cF h 2 (Cx x) (λg j=>
 K (qW g) x.2.2 j))) (cF h 2 (Cx x) (λg j=>K (qW g) x.2.2 j))) (cF h 2 (Cx x) (λg j=>K (qW g) x.2.2 j)))
theorem bhQ:cm 34 b6J:=by
 refine iU func34 ?_;rintro L m h K ⟨cb,s,t,a,b,rfl,M,C,D,l1,l2,O⟩;refine⟨ctJ cb s t h,rfl,aE O7 aH,Yi cb s t m h K,ax,?_⟩;dsimp only[Yi,push_cast];have P:=C.slen;have Q:=D.slen;refine⟨cb,3,rfl,M,λk g E R d j=>⟨λ⟨n,on,A⟩=>0<=n/\n<=2/\(on.length:Int)<=2-n/\bO m A cb/\bB A h cb,λ⟨n,_,_⟩=>n.toNat,⟨(k,[],g),⟨E,aC,bf,d,j⟩,MT⟩,?_⟩⟩;clear E R d j g;rintro⟨n,on,g⟩ ⟨n0,n1,S,d,j⟩;dsimp only;have out:∀(e:Sl)(h':PH),PH.le h h'->dD h' e 2 (on.map sU)->K (.val (.slice e.a e.len e.cap)) g h':=λe h' o u=>O e on g h' o ⟨u,aC⟩ aC d (j.mono o);refine aF (λhn=>aF (λhp=>aF (λhq=>?_) (λ_=>out)) (λ_=>out)) (λ_=>out);refine⟨cb,s.len,rfl,j,λx m2 F x1 G T=>⟨cb,t.len,rfl,T,λy c H y1 I J=>?_⟩⟩;obtain⟨U,V,W,X⟩:=C.inb (n:=x) F aC;obtain⟨Y,Z,e2,r2⟩:=D.inb (n:=y) H aC;refine⟨aC,aC,U,V,W,F,aC,_,.imm X,aC,aC,Y,Z,e2,H,aC,_,.imm r2,?_⟩;refine⟨λ⟨n',i,B,p,f,A⟩=>n'=n/\B=on/\A=c/\i<=on.length,λ⟨_,i,_,_,_,_⟩=>on.length-i,⟨(n,0,on,(x,y),a.getD x.toNat 0==b.getD y.toNat 0,c),⟨rfl,rfl,rfl,aC⟩,?_⟩,?_⟩
 .rw[length_map];exact MT
 rintro⟨n,i,on,p,f,c⟩ ⟨rfl,rfl,rfl,hi⟩;dsimp only;refine aF (λa'=>?_) (λa0=>?_)
 .have hl:i<on.length:=by omega
  have z:(on.map sU)[i]? =some (sU on[i]):=bg
  refine⟨aC,bg,_,z,on[i],rfl,aD (λ_=>⟨aC,aC,aC,aC,aD (λ_=>⟨aC,aC,aC,aC,(n,i+1,on,p,_,c),⟨rfl,rfl,rfl,bj⟩,bi,MT⟩) (λ_=>⟨(n,i+1,on,p,_,c),⟨rfl,rfl,rfl,bj⟩,bi,MT⟩)⟩) (λ_=>⟨(n,i+1,on,p,_,c),⟨rfl,rfl,rfl,bj⟩,bi,MT⟩)⟩
 .have hw:IntKind.i64.wrap (n-1)=n-1:=fG aC aC;rw[hw];refine aD (λ_=>⟨bg,bg,(n-1,on++[p],c),⟨aC,aC,bf,(d.trans G).trans I,J⟩,aC,?_⟩) (λ_=>⟨(n-1,on,c),⟨aC,aC,bg,(d.trans G).trans I,J⟩,aC,MT⟩);rw[bu];exact MT
def c2Q:Vc.Spec:=λd m h K=>∃s e,∃c:Nat,d=[cS s,cI c]/\dD h s 1 (aY e)/\s.len<=s.cap/\c<=1000/\∀cb m' h',PH.le h h'->m cb=none->bO m m' cb->bB m' h' cb->K (cP cb) m' h'
abbrev Dv(a b:Prop)(c:(List cr)->Prop):=aA a b (∃(x:List cr),c x)
attribute [push_cast] Dv
def aMZ(s:Sl)(c:Nat)(m:MH)(h:PH)(K:cn):=
  Dv (cM (ite ((↑c:Int)<aG s) (↑c:Int) (aG s))) (ite ((↑c:Int)<aG s) (↑c:Int) (aG s)<=(↑s.cap:Int)) (λy=>aA (fU 1 y) (uZ m h (Sl.mk s.a (ite ((↑c:Int)<aG s) (↑c:Int) (aG s)).toNat s.cap) 1 y) (aA (jA y.length 1) (oC y.length) (cF h 1 y (λf d=>∀(b:Nat)(e:MH),bF (cK m d b) (bL m e b (j5 (dX f) bI) 86) (K (jO b) e d)))))
theorem KB l:fU 1 (aY l):=by
 constructor
 .intro e c;obtain⟨x,_,rfl⟩:=mem_map.1 c;rfl
 .intro e c u d;obtain⟨x,_,rfl⟩:=mem_map.1 c;simp at d;subst d;rfl
theorem dD.cut{s}(r:dD h s sz xs) n(c:n<=xs.length):dD h ⟨s.a,n,s.cap⟩ sz (xs.take n):=by
 refine⟨bf,?_,by have d:=r.len;have f:=r.cap;grind⟩;rcases r.row with e|⟨b,o,g,k⟩
 .grind
 grind
theorem bGJ:cm 8 c2Q:=by
 refine iU func8 ?_;rintro t m h K ⟨s,g,c,rfl,n,A,B,u⟩;refine⟨rI [] [] [] [] [86] [] false,rfl,aH,aMZ s c m h K,ax,?_⟩;have C:s.len=g.length:=by have:=n.len;simpa[aY]using this
 dsimp only[aMZ,push_cast];have d:(if(c:Int)<(s.len:Int)then(c:Int)else(s.len:Int))=((min c s.len:Nat):Int):=by omega
 rw[d];have e:=dD.cut n (min c s.len) (by simp[aY];omega);refine⟨aC,aC,aY (g.take (min c s.len)),KB _,.imm ?_,by simp[aY];omega,by simp[aY];omega,λy h' j f b m' z o=>?_⟩
 .rw[show aY (g.take (min c s.len))=(aY g).take (min c s.len)by simp[aY,map_take]];exact e
 .exact u b m' h' j z.m_ ⟨o.other⟩ ⟨_,⟨⟨y,_,0,o.at_,f,aC,bf,rfl⟩⟩⟩
def cKQ:Vc.Spec:=λc m h K=>∃n:Nat,c=[.val (.slice none 0 0),cI n]/\n<=1000/\K (.lst 3 1 []) m h
noncomputable def bPZ c m h:=
 dJ [(198,cKQ)] [(3,{A:=Nat×Nat,st:=λ⟨i,n⟩=>bZ 36 37 [(0,sv c),(3,iv n),(9,sv c),(10,iv c.len),(11,iv i)] [] m h}),
  (11,{A:=Nat×cq,st:=λ⟨i,l⟩=>bZ 36 37 [(6,.at (.lst 24)),(25,sv c),(26,iv c.len),(27,iv i)] [(24,.lst 3 1 (l.map eI))] m h})] [] [] false
abbrev JZ(a:Int):=a<=140737488355328
noncomputable abbrev AK(a:Int)(b:cr):=replicate a.toNat b
attribute [push_cast] JZ AK
def TW(n:Nat)(m:MH)(h:PH)(K:cn):=
  fZ (fM ((↑n:Int)-fM ((0:Int)-0))) 0 (aA (cM 0) (cM 0) (aA (0<fM ((↑n:Int)-0)) (JZ (fM ((↑n:Int)-0)*8)) (aI (JZ (fM ((↑n:Int)-0))) ((0:Int)<=0) (cM (tE (AK (fM ((↑n:Int)-0)) (oW bI)))) (K (CV.lst 3 1 []) m h)))) (K (CV.lst 3 1 []) m h)
abbrev IP(a:(Nat×Nat->Prop)->(Nat×Nat)->Prop)(b:(Nat×Nat->Prop)->(Nat×Nat->Nat)->(Nat×Nat)->Prop):=∃(x:Nat×Nat->Prop)(d:Nat×Nat->Nat),(∃(c:Nat×Nat),a x c)/\∀(c:Nat×Nat),b x d c
noncomputable abbrev Gv(a:Nat):=fC Ft (↑a:Int)
abbrev Hx(a:MH)(b:PH)(c d e g:Nat)(i:cr)(j:(List cr)->Prop):=aL a b c (d+bM e g) i/\∃(x:List cr),j x
attribute [push_cast] IP Gv Hx
def Uh d m h K:=
  IP (λI x=>aA (I x) (aJ d) (aA (bE x.2) (aJ d) (aA (bJ d) (bE x.1) (aA (m=m) (h=h) True)))) (λI g x=>I x->bA (↑x.1:Int) (aG d) (bK (λb o=>aI (aW d.a b o) (0<=(↑x.1:Int)) ((↑x.1:Int)<aG d) (∃(y:Sl),aL m h b (o+bM x.1 1) (aM y)/\bA (bH x.2 (aG y)) 0 False (∃(c:Nat×Nat),aA (I c) (g c<g x) (aA (aJ d) (gX (bH x.2 (aG y))=bP c.2) (aA (aJ d) (bJ d) (aA (gX (bH x.1 1)=bP c.1) (m=m) (bU h h)))))))) (∃(n:Nat),aA (Gv x.2=Gv n) (nZ n) (Lx (λI1 c=>aA (I1 c) (eL 24) (aA (aJ d) (bJ d) (aA (bE c.1) (tG c.2) (aA (m=m) (h=h) True)))) (λI1 j c=>I1 c->bA (↑c.1:Int) (aG d) (bK (λb o=>aI (aW d.a b o) (0<=(↑c.1:Int)) ((↑c.1:Int)<aG
 d) (∃(y:Sl),Hx m h b o c.1 1 (aM y) (λe=>aA (fU 1 e) (dD h (dO y) 1 e) (aA (sY (qO c) e 8) (sZ (qO c) e) (∃(f:Nat×cq),aA (I1 f) (j f<j c) (aA (eL 24) (aJ d) (aA (bJ d) (gX (bH c.1 1)=bP f.1) (aA (lS (qO c++e) f.2) (m=m) (bU h h)))))))))) (uM h (qO c) K m)))))
theorem ahJ:cm 198 cKQ:=by
 refine iU func198 ?_;rintro d m h K ⟨n,rfl,f,c⟩;refine⟨dJ [] [] [] [] true,rfl,aH,TW n m h K,ax,?_⟩;dsimp only[TW,push_cast];have e:IntKind.i64.wrap ((n:Int)-0)=n:=by rw[fG aC aC];omega
 have g:IntKind.i64.wrap ((n:Int)-IntKind.i64.wrap (0-0))=n:=by rw[show IntKind.i64.wrap (0-0)=0 from by rw[fG aC aC];rfl,e]
 exact aF (λj=>⟨aC,aC,aC,aC,aC,aC,aC,c⟩) (λ_=>c)
def B5(ks:List cq):=(ks.map List.length).sum
theorem Oe{k}(c:ks[i]? =some k):B5 (ks.take (i+1))=B5 (ks.take i)+k.length:=by
 unfold B5;rw[cd,c];simp
theorem Mx{ks:List cq}(h:∀k∈ks,k.length<=12):∀i,B5 (ks.take i)<=12*i
 |0=>by simp[B5]
 |i+1=>by
  have c:=Mx h i;cases e:ks[i]? with
  |none=>rw[cd,e];grind
  |some k=>rw[Oe e];grind
theorem RM:cm 154 Mt:=by
 refine iU func154 ?_;rintro F m h K ⟨B,ks,rfl,y,M,d,G⟩;refine⟨bPZ B m h,rfl,aE ahJ aH,Uh B m h K,ax,?_⟩;dsimp only[Uh,push_cast];have j:=bN.slen y;refine⟨λ⟨i,n⟩=>i<=ks.length/\n=B5 (ks.take i),λ⟨i,_⟩=>ks.length-i,⟨(0,0),⟨aC,by simp[B5]⟩,MT⟩,?_⟩;rintro⟨i,n⟩ ⟨C,rfl⟩;dsimp only;have H:=Mx d i;refine aF (λc=>?_) (λt=>?_)
 .obtain⟨k,e⟩:=fF j c;obtain⟨b,o,g,z,r,f⟩:=bN.at y e;have I:=f.slen;have u:=d k (bo e)
  have J:IntKind.i64.wrap ((B5 (ks.take i):Int)+(g.len:Int))=((B5 (ks.take (i+1)):Nat):Int):=by
   rw[Oe e,fG aC aC];omega
  refine⟨b,o,z,aC,c,g,.imm r,?_⟩;rw[J];exact aF (λD=>by omega) (λ_=>⟨(i+1,B5 (ks.take (i+1))),⟨aC,rfl⟩,aC,MT⟩)
 .refine⟨B5 (ks.take i),rfl,aC,?_⟩;refine⟨λ⟨i,l⟩=>i<=ks.length/\l=(ks.take i).flatten,λ⟨i,_⟩=>ks.length-i,⟨(0,[]),⟨aC,ay⟩,MT⟩,?_⟩;clear H t C;rintro⟨i,l⟩ ⟨C,rfl⟩;dsimp only;have L:(ks.take i).flatten.length<=12*i:=by have:=Mx d i;simpa[B5,length_flatten]using this
  refine aF (λc=>?_) (λt g h' A E=>G g h' A ⟨?_,?_⟩)
  .obtain⟨k,e⟩:=fF j c;obtain⟨b,o,g,z,r,f⟩:=bN.at y e;have u:=d k (bo e);refine⟨b,o,z,aC,c,g,.imm r,k.map eI,BL k,f.row,?_,?_,(i+1,(ks.take (i+1)).flatten),⟨aC,rfl⟩,aC,?_⟩
   .grind
   .grind
   .rw[cd,e,Option.toList_some,flatten_append,bu,flatten_cons,flatten_nil,append_nil];exact MT
  .grind
  grind
theorem bdJ:∀N,cm 75 (G1 N):=aNX RM
noncomputable abbrev Ca a:=Array.mk (oW (SS a 0))
attribute [push_cast] Ca
def XX(v:QV)(m:MH)(h:PH)(K:cn):=
  ∀(b:Nat)(c:MH),bF (cK m h b) (bL m c b v.enc 41) (K (mR 139 (Ca b)) c h)
end Go.Ps
