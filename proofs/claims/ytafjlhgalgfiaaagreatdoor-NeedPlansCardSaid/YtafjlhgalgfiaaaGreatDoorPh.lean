/- Own work. -/
import Derived.Test.YtafjlhgalgfiaaaGreatDoorPg
set_option linter.unusedVariables false
set_option linter.unusedSimpArgs false
namespace Go.Ps
open Go Go.Vc Go.Proofs List Tryz
variable{K:da}{m:MH}{h:PH}{s:jC}{ps:db}{cb:Nat}{sc:cK}{v:QV}{p:Pred}{l:db}{i:Nat}{N:Nat}{m':MH}{h':PH}{co:db}{gr:db}{od:di}{ta:Int}{li:Int}{xs:List dc}{sz:Nat}{ks:List db}{rs:db}{r:Sl}{a:db}{b:Nat}
structure DV(l k:de):Prop where
 mem:∀x,x∈k↔x∈l
 len:k.length=l.length
 srt:k.Pairwise λx y=>eC x y<=0
def Wc(N:Nat):Vc.Spec:=λc m h K=>∃s l,c=[cS s]/\Rows h s l/\l.length<N/\l.length<=8000000/\∀d h' k,PH.le h h'->Rows h' d k->DV l k->K (cS d) m h'
def R5:Vc.Spec:=λc m h K=>∃s l,c=[cS s]/\Rows h s l/\l.length<=8000000/\(∀r∈l,r.length<=1000)/\∀d h',PH.le h h'->Rows h' d (sK l)->K (cS d) m h'
noncomputable def cpQ N s m:=
 cZ [(55,FL),(67,Wc N)] [(5,{A:=Sl×Sl×dg×PH,st:=λ⟨a,b,c,h⟩=>bS 63 64 [(3,sv a),(4,sv b),(5,.at (.lst 25))] [(25,.lst 65 1 (c.map eS))] m h})]
  [(4,{A:=Sl×Sl×PH,st:=λ⟨a,b,h⟩=>bS 63 64 [(0,sv s),(3,sv a),(4,sv b)] [] m h})] [] false
noncomputable def cuQ m:=
 cZ [(55,FL),(58,Wn),(67,Wc 8000001)] [(3,{A:=Nat×Sl×dg×PH,st:=λ⟨i,t,c,h⟩=>bS 34 35 [(3,.at (.lst 31)),(7,sv t),(8,iv t.len),(9,iv i)] [(31,.lst 65 1 (c.map eS))] m h})] [] [] false
noncomputable abbrev qP a:=kE (Int.tdiv (aG a) 2)
abbrev KY(a:Sl->de->Prop):=∃(x:Sl)(c:de),a x c
abbrev E8(a:de)(b:Nat):=a.length<=b
abbrev oU a:=E8 a 8000000
abbrev Ek(a:du)(b:PH)(c:Nat)(d:de->Sl->PH->de->Prop):=KY (λx e=>aA (a=gK x) (Rows b x e) (aA (e.length<c) (oU e) (fB (λg f=>∀(j:de),bY b f (Rows f g j) (d e g f j)))))
abbrev tV(a:Sl):=a.len<=a.cap
abbrev nA a b:=a<=aG b
noncomputable abbrev j3(a:Sl×Sl×dg×PH):=a.2.1
noncomputable abbrev kY(a:Sl×Sl×dg×PH):=a.2.2.1
noncomputable abbrev jN(a:Sl×Sl×dg×PH):=a.2.2.2
abbrev LJ(a b:Sl)(c:Sl×Sl×dg×PH)(d e:Nat)(g:Sl)(i:(Sl×Sl×dg×PH)->Prop):=xD 1 (Sl.mk a.a a.len a.cap) 1 b->aH (dN (jN c) d e 0 (bH g)) (uP (kY c) 1) (Cj (kY c)) (∃(x:Sl×Sl×dg×PH),i x)
attribute [push_cast] qP KY E8 oU Ek tV nA j3 kY jN LJ
def XP(N:Nat)(s:Sl)(m:MH)(h:PH)(K:da):=
  aZ (aG s) 2 (∃(y:List dc),aA (eU 1 y) (cO h (Sl.mk s.a s.len s.cap) 1 y) (aA (y9 y 24) (zA y) (bN h 1 y (λe u=>K (cM e) m u)))) (∃(I:Sl×Sl×PH->Prop),aA (xH ((2:Int)=0)) (xH ((2:Int)=0)) (aA (aA (cF (qP s)) (Da (qP s) s) (aA (Ek (pN (CV.val (Value.slice s.a (qP s).toNat s.cap))) h N (λl e u k=>DV l k->aH (cF (qP s)) (qP s<=aG s) (tV s) (∀(z:Sl),xD 1 (Sl.mk s.a s.len s.cap) (qP s).toNat z->Ek (gK z) u N (λA B C D=>DV A D->∃(x:Sl×Sl×PH),aA (I x) (aJ s) (aA (aY e x.1) (aY B (eF x)) (bO (m=m) C (cX x))))))) (cF (qP s)) (aA (nA (qP s) s) (tV s) (∀(e:Sl),xD 1 (Sl.mk s.a s.len s.cap) (qP s).toNat e->Ek (pN
 (CV.val (Value.slice s.a (qP s).toNat s.cap))) h N (λl z u k=>DV l k->Ek (gK e) u N (λA B C D=>DV A D->∃(x:Sl×Sl×PH),aA (I x) (aJ s) (aA (aY z x.1) (aY B (eF x)) (bO (m=m) C (cX x))))))))) (cF (qP s)) (aA (nA (qP s) s) (tV s) (∀(e:Sl),xD 1 (Sl.mk s.a s.len s.cap) (qP s).toNat e->aA (cF (qP s)) (Da (qP s) s) (Ek (pN (CV.val (Value.slice s.a (qP s).toNat s.cap))) h N (λl z u k=>DV l k->Ek (gK e) u N (λA B C D=>DV A D->∃(x:Sl×Sl×PH),aA (I x) (aJ s) (aA (aY z x.1) (aY B (eF x)) (bO (m=m) C (cX x)))))))))/\∀(x:Sl×Sl×PH),I x->aA (cF 0) (cF (aG s)) (aA (tQ s 24) (tR s) (∃(I1:Sl×Sl×dg×PH->Prop)(t:Sl×Sl×
 dg×PH->Nat),(∃(c:Sl×Sl×dg×PH),aA (I1 c) (aY x.1 c.1) (aA (aY (eF x) (j3 c)) (eL 25) (aH (vA (kY c)) (m=m) (cX x=jN c) True)))/\∀(c:Sl×Sl×dg×PH),I1 c->fX (aG c.1) 0 (fX (aG (j3 c)) 0 (bF (λb o=>aH (aM c.1.a b o) ((0:Int)<=0) (0<aG c.1) (∃(y:Sl),aL m (jN c) b (o+0) (bH y)/\bF (λE F=>aH (aM (j3 c).a E F) ((0:Int)<=0) (0<aG (j3 c)) (∃(n:Sl),aL m (jN c) E (F+0) (bH n)/\wL y n (jN c) (λa G=>EI (eC a G) 0 (bF (λg j=>aH (aM c.1.a g j) ((0:Int)<=0) (0<aG c.1) (∃(f:Sl),aA (aL m (jN c) g (j+0) (bH f)) (aA (aA (dN (jN c) g j 0 (bH f)) (uP (kY c) 1) (aA (Cj (kY c)) (dN (jN
 c) g j 0 (bH f)) (aH rW (1<=aG c.1) (tV c.1) (∀(e:Sl),xD 1 (Sl.mk c.1.a c.1.len c.1.cap) 1 e->∃(d:Sl×Sl×dg×PH),aA (I1 d) (t d<t c) (aA (aY e d.1) (aY (j3 c) (j3 d)) (aA (eL 25) (lN (kY c) f (kY d)) (aA (m=m) (jN c=jN d) True))))))) (dN (jN c) g j 0 (bH f)) (aA rW (nA 1 c.1) (tV c.1/\∀(e:Sl),LJ c.1 e c g j f (λd=>aA (I1 d) (t d<t c) (aA (aY e d.1) (aY (j3 c) (j3 d)) (aA (eL 25) (lN (kY c) f (kY d)) (aA (m=m) (jN c=jN d) True))))))) (aA (dN (jN c) g j 0 (bH f)) rW (aA (nA 1 c.1) (tV c.1) (∀(e:Sl),LJ c.1 e c g j f (λd=>aA (I1 d) (t d<t c) (aA (aY e d.1) (aY (j3 c) (j3
 d)) (aA (eL 25) (lN (kY c) f (kY d)) (aA (m=m) (jN c=jN d) True)))))))))) (bF (λg j=>aH (aM (j3 c).a g j) ((0:Int)<=0) (0<aG (j3 c)) (∃(f:Sl),aA (aL m (jN c) g (j+0) (bH f)) (aA (aA (dN (jN c) g j 0 (bH f)) (uP (kY c) 1) (aA (Cj (kY c)) (dN (jN c) g j 0 (bH f)) (aH rW (1<=aG (j3 c)) (tV (j3 c)) (∀(e:Sl),xD 1 (Sl.mk (j3 c).a (j3 c).len (j3 c).cap) 1 e->∃(d:Sl×Sl×dg×PH),aA (I1 d) (t d<t c) (aA (aY c.1 d.1) (aY e (j3 d)) (aA (eL 25) (lN (kY c) f (kY d)) (aA (m=m) (jN c=jN d) True))))))) (dN (jN c) g j 0 (bH f)) (aA rW (nA 1 (j3 c)) (tV (j3 c)/\∀(e:Sl),LJ (j3 c)
 e c g j f (λd=>aA (I1 d) (t d<t c) (aA (aY c.1 d.1) (aY e (j3 d)) (aA (eL 25) (lN (kY c) f (kY d)) (aA (m=m) (jN c=jN d) True))))))) (aA (dN (jN c) g j 0 (bH f)) rW (aA (nA 1 (j3 c)) (tV (j3 c)) (∀(e:Sl),LJ (j3 c) e c g j f (λd=>aA (I1 d) (t d<t c) (aA (aY c.1 d.1) (aY e (j3 d)) (aA (eL 25) (lN (kY c) f (kY d)) (aA (m=m) (jN c=jN d) True)))))))))))))))) (∃(y:List dc),E6 1 y (cO (jN c) (Sl.mk c.1.a c.1.len c.1.cap) 1 y) (uP (kY c) y.length) (iK (zF (kY c)+y.length)) (λn=>aA (eU 1 n) (cO (jN c) (Sl.mk (j3 c).a (j3 c).len (j3 c).cap) 1 n) (aA (tJ (vU (kY c) y) n 24) (oL (vU (kY
 c) y) n) (bN (jN c) 1 (vU (kY c) y++n) (λe u=>K (cM e) m u)))))) (∃(y:List dc),E6 1 y (cO (jN c) (Sl.mk c.1.a c.1.len c.1.cap) 1 y) (uP (kY c) y.length) (iK (zF (kY c)+y.length)) (λn=>aA (eU 1 n) (cO (jN c) (Sl.mk (j3 c).a (j3 c).len (j3 c).cap) 1 n) (aA (tJ (vU (kY c) y) n 24) (oL (vU (kY c) y) n) (bN (jN c) 1 (vU (kY c) y++n) (λe u=>K (cM e) m u))))))))
abbrev pD:=eL 31
noncomputable abbrev mE(a:Nat×Sl×dg×PH):=a.2.1
noncomputable abbrev pX(a:Nat×Sl×dg×PH):=a.2.2.1
noncomputable abbrev qX(a:Nat×Sl×dg×PH):=a.2.2.2
attribute [push_cast] pD mE pX qX
def Ya(s:Sl)(m:MH)(h:PH)(K:da):=
  Ek (gK s) h 8000001 (λl j t k=>DV l k->∃(I:Nat×Sl×dg×PH->Prop)(d:Nat×Sl×dg×PH->Nat),(∃(x:Nat×Sl×dg×PH),aA (I x) pD (aA (aY j (mE x)) (bZ j (mE x)) (aA (bA x.1) (vA (pX x)) (aA (m=m) (t=qX x) True))))/\∀(x:Nat×Sl×dg×PH),I x->aZ (↑x.1:Int) (aG (mE x)) (bF (λb o=>aH (aM (mE x).a b o) (0<=(↑x.1:Int)) ((↑x.1:Int)<aG (mE x)) (∃(y:Sl),aL m (qX x) b (bK o x.1 1) (bH y)/\dO (wT (pX x)) 0 (Gi y (qX x) (λf g=>vB (pX x) (∃(c:Nat×Sl×dg×PH),aA (I c) (d c<d x) (aA pD (aY (mE x) (mE c)) (aA (bZ (mE x) (mE c)) (fU (bC x.1 1)=bP c.1) (aA (lN (pX x) f (pX c)) (m=m) (bQ g
 (qX c)))))))) (sC (kE ((↑(zF (pX x)):Int)-1)) (wT (pX x)) (λe=>pY (jY (pX x)) (kE ((↑(zF (pX x)):Int)-1)) e/\∃(n:Sl),CI e n/\wL n y (qX x) (λa u=>dH (eC a u) 0 (Gi y (qX x) (λf g=>vB (pX x) (∃(c:Nat×Sl×dg×PH),aA (I c) (d c<d x) (aA pD (aY (mE x) (mE c)) (aA (bZ (mE x) (mE c)) (fU (bC x.1 1)=bP c.1) (aA (lN (pX x) f (pX c)) (m=m) (bQ g (qX c)))))))) (∃(c:Nat×Sl×dg×PH),aA (I c) (d c<d x) (aA pD (aY (mE x) (mE c)) (aA (bZ (mE x) (mE c)) (fU (bC x.1 1)=bP c.1) (aA (pW (pX x) (pX c)) (m=m) (bQ (qX x) (qX c)))))))))))) (bN (qX x) 1 (List.map eS (pX x)) (λf g
 =>K (cM f) m g)))
theorem cO.low{s d}(r:cO h s sz xs)(c:xD sz ⟨s.a,s.len,s.cap⟩ i d)(u:i<=xs.length):cO h d sz (xs.drop i):=by
 have f:=r.len;have x:=r.cap;refine⟨by rw[c.len,length_drop, <-f],?_,by rw[c.len,c.cap];grind⟩;rcases r.row with e|⟨b,o,g,k⟩
 .grind
 .by_cases n:s.cap=i
  .grind
  .right;refine⟨b,o+i*sz,by rw[c.a_,if_neg n,g];by_cases t:i*sz=0<;>simp[Addr.add,t],λj e y=>?_⟩
   grind
theorem Qj{s l}(x:Rows h s l):s.len<=s.cap:=by
 obtain⟨⟨d,c,_⟩,_⟩:=x;exact c.cap
theorem SU{s l}(x:Rows h s l){n}(g:n<=l.length):Rows h ⟨s.a,n,s.cap⟩ (l.take n):=by
 obtain⟨⟨c,d,f,j⟩,o⟩:=x;refine⟨⟨c.take n,by rw[map_take];exact cO.cut d n bo,by simp[f],λi y e=>?_⟩,bn⟩
 grind
theorem Ix{s c l}(x:Rows h s l){n}(d:xD 1 ⟨s.a,s.len,s.cap⟩ n c)(o:n<=l.length):Rows h c (l.drop n):=by
 obtain⟨⟨f,g,j,t⟩,u⟩:=x;refine⟨⟨f.drop n,by rw[map_drop];exact cO.low g d bo,by simp[j],λi y e=>?_⟩,bn⟩
 grind
structure Fh(l o a b:de):Prop where
 mem:∀x,(x∈o\/x∈a\/x∈b)↔x∈l
 len:o.length+a.length+b.length=l.length
 so:o.Pairwise λx y=>eC x y<=0
 sa:a.Pairwise λx y=>eC x y<=0
 sb:b.Pairwise λx y=>eC x y<=0
 oa:∀x∈o,∀y∈a,eC x y<=0
 ob:∀x∈o,∀y∈b,eC x y<=0
theorem Fh.swap{l o a b}(m:Fh l o a b):Fh l o b a:=⟨λx=>by rw[or_comm (a:=x∈b)];exact m.mem x,by have:=m.len;omega,m.so,m.sb,m.sa,m.ob,m.oa⟩
theorem Fh.left{l o a b x y}(m:Fh l o (x::a) b)(g:b=[]\/∃f,b=y::f/\eC x y<=0):Fh l (o++[x]) a b:=by
 have j:=pairwise_cons.1 m.sa;refine⟨λz=>?_,by have:=m.len;grind,?_,j.2,m.sb,λz c w d=>?_,λz c w d=>?_⟩
 .rw[<-m.mem z,mem_append,mem_singleton,mem_cons,or_assoc,or_assoc]
 .rw[pairwise_append];exact⟨m.so,bi,λz c w d=>by rw[mem_singleton.1 d];exact m.oa z c x bi⟩
 .rcases mem_append.1 c with c|c
  .exact m.oa z c w (by simp[d])
  grind
 .rcases mem_append.1 c with c|c
  .exact m.ob z c w d
  .rw[mem_singleton.1 c];rcases g with e|⟨f,e,h⟩
   .grind
   .subst e;have n:=pairwise_cons.1 m.sb;rcases mem_cons.1 d with rfl|d
    .exact h
    .exact Bg _ _ _ h (n.1 w d)
theorem Fh.done{l o a b}(m:Fh l o a b)(h:a=[]\/b=[]):DV l (o++a++b):=by
 refine⟨λx=>?_,by have:=m.len;simp;omega,?_⟩
 .rw[<-m.mem x];grind
 .rcases h with rfl|rfl
  .rw[append_nil,pairwise_append];exact⟨m.so,m.sb,m.ob⟩
  .rw[append_nil,pairwise_append];exact⟨m.so,m.sa,m.oa⟩
theorem aKZ:∀N,cz 67 (Wc N)
 |0=>by
  refine eG (fn:=Tryz.f67) (c:=dQ Tryz.f67) func67 rfl bj ?_;rintro a' m h K ⟨s,l,rfl,_,hN,_⟩;omega
 |N+1=>by
  refine gW func67 ?_;rintro a' m h K ⟨s,l,rfl,Q,hN,hl,hK⟩;refine⟨cpQ N s m,rfl,aE aa (aE (aKZ N) aI),XP N s m h K,bh,?_⟩;dsimp only[XP,push_cast];have T:=bI.slen Q;have a1:=Qj Q;refine aF (λh2=>?_) (λh2=>?_)
  .obtain⟨E,hr,h3,h4⟩:=Q.1;have a0:=Q.2;refine⟨E.map eS,Ad E,hr,bo,bo,λY h' le J=>hK Y h' l le ⟨⟨E,J,h3,λi x e=>?_⟩,a0⟩ ⟨λx=>Iff.rfl,rfl,?_⟩⟩
   .obtain⟨u,e1,e2⟩:=h4 i x e;exact⟨u,e1,bR.mono e2 le⟩
   .match l,T with
    |[],_=>simp
    |[x],_=>simp
    |x::y::r,T=>grind
  .obtain⟨n,hn⟩:∃n,n=l.length/2:=⟨_,rfl⟩
   have hw:IntKind.i64.wrap ((s.len:Int).tdiv 2)=((n:Nat):Int):=by
    rw[Int.tdiv_eq_ediv_of_nonneg aD,T];have:((l.length:Int)/2)=((n:Nat):Int):=by omega
    rw[this];exact eM aD aD
   rw[hw];have R:∀{U},PH.le h U->Rows U s l:=fun{U} le=>bI.mono Q le λr t Z=>bR.mono Z le;refine⟨λz=>∃f g,PH.le h z.2.2/\Rows z.2.2 z.1 f/\Rows z.2.2 z.2.1 g/\DV (l.take n) f/\DV (l.drop n) g,?_,?_⟩
   .repeat' first
     |refine And.intro ?_ ?_
     |exact fun(e:(2:Int)=0)=>absurd e bj
     |omega
     |refine fun(d:Sl)(j:xD 1 _ _ d)=>?_
     |refine⟨⟨s.a,n,s.cap⟩,l.take n,rfl,(by first|exact SU Q aD|exact SU (R l2) aD),by rw[length_take];omega,by rw[length_take];omega,λV ha f l1 C pa=>?_⟩
     |refine⟨d,l.drop n,rfl,(by first|exact Ix Q j aD|exact Ix (R l1) j aD),by rw[length_drop];omega,by rw[length_drop];omega,λW hb g l2 D pb=>?_⟩
     |exact⟨(V,W,hb),⟨f,g,l1.trans l2,bI.mono C l2 λr t Z=>bR.mono Z l2,D,pa,pb⟩,MT⟩
     |exact⟨(V,W,ha),⟨f,g,l2.trans l1,C,bI.mono D l1 λr t Z=>bR.mono Z l1,pa,pb⟩,MT⟩
     |fail
   .rintro⟨a,b,U⟩ ⟨f,g,lex,C,D,V,W⟩;dsimp only at lex C D⊢
    have start:Fh l [] f g:=⟨λx=>by rw[V.mem,W.mem];simp only[not_mem_nil,false_or];rw[<-mem_append,take_append_drop],by have h1:=V.len;have h2:=W.len;grind,bi,V.srt,W.srt,bi,bi⟩
    refine⟨aD,aD,aD,aD,λz=>∃o f g,PH.le U z.2.2.2/\Rows z.2.2.2 z.1 f/\Rows z.2.2.2 z.2.1 g/\dR z.2.2.2 z.2.2.1 o/\Fh l o f g,λz=>z.1.len+z.2.1.len,⟨(a,b,[],U),⟨[],f,g,.refl _,C,D,dR.nil U,start⟩,MT⟩,?_⟩;clear start V W C D f g;rintro⟨a,b,E,F⟩ ⟨o,f,g,L,C,D,ru,M⟩;dsimp only at L C D ru⊢
    have a2:=bI.slen C;have a3:=bI.slen D;have a4:=Qj C;have a5:=Qj D;have a6:=ru.len;have a7:=M.len
    have fin:f=[]\/g=[]->∃X,eU 1 X/\cO F ⟨a.a,a.len,a.cap⟩ 1 X/\((E.map eS).length+X.length)*24<=140737488355328/\(E.map eS).length+X.length<=140737488355328/\∃G,eU 1 G/\cO F ⟨b.a,b.len,b.cap⟩ 1 G/\((E.map eS++X).length+G.length)*24<=140737488355328/\(E.map eS++X).length+G.length<=140737488355328/\∀Y h',PH.le F h'->cO h' Y 1 (E.map eS++X++G)->K (cS Y) m h':=λhe=>by
     obtain⟨⟨ua,q1,q2,q3⟩,q4⟩:=C;obtain⟨⟨ub,p1,p2,p3⟩,p4⟩:=D;refine⟨ua.map eS,Ad ua,q1,bn,bn,ub.map eS,Ad ub,p1,bn,bn,λY h' le J=>?_⟩;rw[<-cj, <-cj]at J;have A:dR F ua f:=⟨q2.symm,q3⟩
     have B:dR F ub g:=⟨p2.symm,p3⟩
     have S:=M.done he;exact hK Y h' _ (lex.trans (L.trans le)) ((((ru.app A).app B).mono le).rows J bo) S
    refine aF (λh1=>aF (λh2=>?_) (λh2=>?_)) (λh1=>?_)
    .obtain⟨x,O,rfl⟩:∃x r,f=x::r:=by
      cases f with
      |nil=>grind
      |cons x r=>grind
     obtain⟨y,P,rfl⟩:∃x r,g=x::r:=by
      cases g with
      |nil=>grind
      |cons x r=>grind
     obtain⟨b1,o1,ux,e1,H,v1⟩:=bI.at C (i:=0) rfl;obtain⟨b2,o2,uy,e2,I,v2⟩:=bI.at D (i:=0) rfl;have H:bU F b1 (o1+0) [gP ux]:=by simpa[eS]using H
     have I:bU F b2 (o2+0) [gP uy]:=by simpa[eS]using I
     have big:((E.map eS).length+1)*24<=140737488355328/\(E.map eS).length<140737488355328:=by
      grind
     refine⟨b1,o1,e1,aD,aD,ux,.imm H,b2,o2,e2,aD,aD,uy,.imm I,ux,uy,x,y,rfl,v1,v2,aF (λh3=>⟨b1,o1,e1,aD,aD,ux,.imm H,?_⟩) (λh3=>⟨b2,o2,e2,aD,aD,uy,.imm I,?_⟩)⟩
     .have nx:∀d,xD 1 ⟨a.a,a.len,a.cap⟩ 1 d->Rows F d O/\d.len+b.len<a.len+b.len:=λd j=>⟨Ix C j bi,by have:=j.len;grind⟩
      have M2:=M.left (.inr ⟨P,rfl,h3⟩)
      repeat' first
       |refine And.intro ?_ ?_
       |exact big.1
       |exact big.2
       |exact H
       |omega
       |refine fun(d:Sl)(j:xD 1 _ _ d)=>?_
       |exact⟨(d,b,E++[ux],F),⟨o++[x],O,y::P,L,(nx d j).1,D,ru.snoc v1,M2⟩,(nx d j).2,by rw[cj];exact MT⟩
       |fail
     .have nx:∀d,xD 1 ⟨b.a,b.len,b.cap⟩ 1 d->Rows F d P/\a.len+d.len<a.len+b.len:=λd j=>⟨Ix D j bi,by have:=j.len;grind⟩
      have M2:=(M.swap.left (.inr ⟨O,rfl,by have:=nG x y;omega⟩)).swap
      repeat' first
       |refine And.intro ?_ ?_
       |exact big.1
       |exact big.2
       |exact I
       |omega
       |refine fun(d:Sl)(j:xD 1 _ _ d)=>?_
       |exact⟨(a,d,E++[uy],F),⟨o++[y],x::O,P,L,C,(nx d j).1,ru.snoc v2,M2⟩,(nx d j).2,by rw[cj];exact MT⟩
       |fail
    .exact fin (.inr (eq_nil_of_length_eq_zero aD))
    .exact fin (.inl (eq_nil_of_length_eq_zero aD))
structure c6Z(k o:de)(i:Nat):Prop where
 mem:∀x,x∈o↔x∈k.take i
 srt:fW o
 len:o.length<=i
theorem Jq:cz 28 R5:=by
 refine gW func28 ?_;rintro a3 m h K ⟨s,l,rfl,hs,hl,hr,hK⟩;refine⟨cuQ m,rfl,aE aa (aE ab (aE (aKZ 8000001) aI)),Ya s m h K,bh,?_⟩;dsimp only[Ya,push_cast];refine⟨s,l,rfl,hs,aD,hl,λt A k M rk S=>?_⟩;have O:=bI.slen rk;have a4:=S.len;refine⟨λz=>z.1<=k.length/\z.2.1=t/\PH.le A z.2.2.2/\∃o,dR z.2.2.2 z.2.2.1 o/\c6Z k o z.1,λz=>k.length-z.1,⟨(0,t,[],A),⟨bi,rfl,.refl _,[],dR.nil A,⟨bi,List.Pairwise.nil,bi⟩⟩,MT⟩,?_⟩;rintro⟨i,P,F,hx⟩ ⟨hi,e,lex,o,G,D⟩;dsimp only at hi e lex G D⊢
 subst e;have a5:=G.len;have a6:=D.len;refine aF (λQ=>?_) (λa7=>?_)
 .obtain⟨x,c⟩:=dW O Q;obtain⟨b,R,u,ea,rd,H⟩:=bI.at rk c;have H:=bR.mono H lex;have I:x.length<=1000:=hr x ((S.mem x).1 (ce c));have B:=(bz c);have tk:k.take (i+1)=k.take i++[x]:=by rw[cq,c];rfl
  have d:∀y∈k.take i,eC y x<=0:=λy T=>by
   have hp:=S.srt;rw[<-take_append_drop i k,pairwise_append]at hp;refine hp.2.2 y T x ?_;obtain⟨U,e⟩:=List.getElem?_eq_some_iff.1 c;rw[drop_eq_getElem_cons U,e];simp
  have J:x∉o->∀g h',PH.le hx h'->bR h' g x->((F.map eS).length+1)*24<=140737488355328/\(F.map eS).length<140737488355328/\∃z:Nat×Sl×dg×PH,(z.1<=k.length/\z.2.1=P/\PH.le A z.2.2.2/\∃o,dR z.2.2.2 z.2.2.1 o/\c6Z k o z.1)/\k.length-z.1<k.length-i/\z=(i+1,P,F++[g],h'):=λL g h' le f=>by
   refine⟨bo,bo,_,⟨aD,rfl,lex.trans le,o++[x],(G.mono le).snoc f,⟨λy=>?_,?_,bn⟩⟩,aD,rfl⟩
   .rw[tk,mem_append,mem_append,D.mem y]
   .refine pairwise_append.2 ⟨D.srt,bi,λy T z hz=>?_⟩;rw[mem_singleton.1 hz];have A:=d y ((D.mem y).1 T);rcases Int.lt_or_eq_of_le A with h|h
    .exact h
    .rw[iZ]at h
     grind
  have hw:IntKind.i64.wrap ((i:Int)+1)=((i+1:Nat):Int):=fR aD;rw[hw];have a8:i<k.length:=B;refine⟨b,R,ea,aD,aD,u,.imm (rd.mono lex),aC (λC=>⟨u,x,rfl,H,I,λg h' le f=>?_⟩) (λC=>?_)⟩
  .have C:=eq_of_beq C;rw[length_map]at C;have:o=[]:=eq_nil_of_length_eq_zero aD;obtain⟨V,W,z,X,Y,rfl⟩:=J bo g h' le f;exact⟨V,W,_,X,Y,by rw[cj];exact MT⟩
  .have C:=ne_of_beq_false C;rw[length_map]at C;have a2:0<o.length:=by omega
   have Z:IntKind.i64.wrap (((F.map eS).length:Int)-1)=((o.length-1:Nat):Int):=by
    rw[length_map,show((F.length:Int)-1)=((o.length-1:Nat):Int)by omega];exact eM aD aD
   rw[Z];have E:o[o.length-1]? =some (o[o.length-1]'(by omega)):=cd _;obtain⟨ul,a9,a'⟩:=G.at E;refine⟨aD,bo,eS ul,bo,ul,rfl,ul,u,_,x,rfl,a',H,aC (λe1=>⟨u,x,rfl,H,I,λg h' le f=>?_⟩) (λe1=>?_)⟩
   .have L:x∉o:=λhm=>by
     have A:=d _ ((D.mem _).1 (getElem_mem (l:=o) (n:=o.length-1) aD));obtain⟨j,U,e⟩:=mem_iff_getElem.1 hm;by_cases a0:j=o.length-1
     .subst a0;rw[e,iZ.2 rfl]at e1;simp at e1
     .have h2:=pairwise_iff_getElem.1 D.srt j (o.length-1) U aD aD;rw[e]at h2;have:=nG x (o[o.length-1]'(by omega));omega
    obtain⟨V,W,z,X,Y,rfl⟩:=J L g h' le f;exact⟨V,W,_,X,Y,by rw[cj];exact MT⟩
   .have hz:o[o.length-1]'(by omega)=x:=by
     have:eC (o[o.length-1]'(by omega)) x=0:=bo
     exact iZ.1 this
    refine⟨(i+1,P,F,hx),⟨aD,rfl,lex,o,G,⟨λy=>?_,D.srt,aD⟩⟩,aD,MT⟩;rw[tk,mem_append,mem_singleton, <-D.mem y]
    grind
 .intro g h' le a1;have B:i=k.length:=by omega
  subst B;have e:o=sK l:=FR D.srt (sZ l) λx=>by rw[D.mem x,take_length,S.mem x,xX]
  exact hK g h' (M.trans (lex.trans le)) (by rw[<-e];exact(G.mono le).rows a1 aD)
structure Step where
 op:Int
 table:Int
 wher:Pred
 columns:db
 on:dh
 group:db
 order:di
 limit:Int
 left:Int
 right:Int
abbrev dn:=List Step
variable{ts:dn}{t:Step}
def Step.query(t:Step):Query:=.mk t.op t.table t.wher t.columns t.on t.group t.order t.limit []
structure vN(h:PH)(t:Step)(v:xU):Prop where
 op_:v.op=t.op
 table_:v.table=t.table
 where_:fJ h t.wher v.where_
 columns_:Ints h v.columns t.columns
 on_:gS h v.on t.on
 group_:Ints h v.group t.group
 order_:jW h v.order t.order
 limit_:v.limit=t.limit
 left_:v.left=t.left
 right_:v.right=t.right
theorem vN.mono{v}(x:vN h t v)(le:PH.le h h'):vN h' t v:=⟨x.op_,x.table_,x.where_.mono le,x.columns_.mono le,x.on_.mono le,x.group_.mono le,x.order_.mono le,x.limit_,x.left_,x.right_⟩
def aT(v:xU):CV:=.val (.agg ⟨v.enc⟩)
def i7(l:db):=l.flatMap λn=>nF n++[32]
def AR(v:VV):=i7 [v.kind]++(nF v.int++[32])++i7 [(v.text.size:Int)]++v.text.data.toList
def D1(o:OV):=i7 [o.kind,o.index]++AR o.value
mutual
def tA:Pred->dr
 |.mk op c l r args=>i7 [op,c]++D1 l++D1 r++i7 [(args.length:Int)]++pV args
def pV:dp->dr
 |[]=>[]
 |p::ps=>tA p++pV ps
end
theorem gZ:∀l:db,(i7 l).length<=22*l.length
 |[]=>by simp[i7]
 |n::l=>by
  have:=gZ l;have c:=Bb n;unfold i7 at this⊢
  grind
def U5:Vc.Spec:=λc m h K=>∃xs s l,c=[.lst 5 1 xs,cS s]/\Ints h s l/\gX m/\xs.length+22*l.length+100<=140737488355328/\K (.lst 5 1 (xs++bJ (i7 l))) m h
def cOQ:Vc.Spec:=λc m h K=>∃xs v,c=[.lst 5 1 xs,aV v]/\gX m/\xs.length+v.text.size+500<=140737488355328/\K (.lst 5 1 (xs++bJ (AR v))) m h
def cNJ:Vc.Spec:=λc m h K=>∃xs o,c=[.lst 5 1 xs,aO o]/\gX m/\xs.length+o.value.text.size+1000<=140737488355328/\K (.lst 5 1 (xs++bJ (D1 o))) m h
def cNX(N:Nat):Vc.Spec:=λc m h K=>∃xs v p,c=[.lst 5 1 xs,aP v]/\fJ h p v/\SizeOf.sizeOf p<N/\gX m/\xs.length+(tA p).length+5000<=140737488355328/\K (.lst 5 1 (xs++bJ (tA p))) m h
def cNZ:Vc.Spec:=λc m h K=>∃xs v p,c=[.lst 5 1 xs,aP v]/\fJ h p v/\gX m/\xs.length+(tA p).length+5000<=140737488355328/\K (.lst 5 1 (xs++bJ (tA p))) m h
noncomputable def bJQ s m h:=
 cZ [(195,Ss)] [(2,{A:=Nat×List dc,st:=λ⟨i,xs⟩=>bS 21 23 [(0,.at (.lst 21)),(7,sv s),(8,iv s.len),(9,iv i)] [(21,.lst 5 1 xs)] m h})] [] [(195,[0])] true
abbrev Lc a b c d e g i:=aA (Df 5 1 a (fI b)=Df 5 1 c (fI d)) (gX e) (aA (iK (mO c 40)) (iK (mO (kR c (nF d)) 1*g)) (mR (kR c (nF d))/\i))
attribute [push_cast] Lc
def TH(xs:List dc)(s:Sl)(m:MH)(h:PH)(K:da):=
  ∃(I:Nat×List dc->Prop)(d:Nat×List dc->Nat),(∃(x:Nat×List dc),aA (I x) (eL 21) (aA (aJ s) (bG s) (aA (bA x.1) (bW 5 1 xs=bW 5 1 x.2) (aA (m=m) (h=h) True))))/\∀(x:Nat×List dc),I x->aZ (↑x.1:Int) (aG s) (bF (λb o=>aH (aM s.a b o) (0<=(↑x.1:Int)) ((↑x.1:Int)<aG s) (∃(y:Int),aL m h b (bK o x.1 1) (bM y)/\PG (λe i=>Lc x.2 y e i m 1 (∃(c:Nat×List dc),aA (I c) (d c<d x) (aA (eL 21) (aJ s) (aA (bG s) (fU (bC x.1 1)=bP c.1) (aA (bW 5 1 (iT (kR e (nF i)) (lJ (zI 32)))=bW 5 1 c.2) (m=m) (bQ h h))))))))) (K (CV.lst 5 1 x.2) m h)
abbrev tP(a:PH)(b:Nat)(c:List dc)(d:Sl->PH->(List dc)->Sl->db->Prop):=bN a b c (λx e=>∃(f:List dc),sP (λg j=>d x e f g j))
noncomputable abbrev mM a b:=jJ (CV.lst 5 1 a) b
abbrev BR(a:List dc)(b:db):=iK (mO a (22*b.length)+100)
abbrev GA(a:List dc)(b:Sl)(c:List dc)(d:Sl)(e:PH)(g:db)(i:MH)(j:(List dc)->Prop):=aA (mM a b=mM c d) (Ints e d g) (aA (gX i) (BR c g) (∃(x:List dc),j x))
attribute [push_cast] tP mM BR GA
def Nz(xs:List dc)(v:VV)(m:MH)(h:PH)(K:da):=
  tP h 1 (lI (bM v.kind)) (λs e x n l=>GA xs s x n e l m (λf=>∃(i:Int),Lc (kR x (i7 l)) v.int f i m 1 (tP e 1 (lI (bM (↑v.text.size:Int))) (λo g c j d=>aA (mM (iT (kR f (nF i)) (lJ (zI 32))) o=mM c j) (Ints g j d) (aA (gX m) (BR c d) (aA (tJ (kR c (i7 d)) (gR v.text) 1) (oL (kR c (i7 d)) (gR v.text)) (K (CV.lst 5 1 (kR c (i7 d)++gR v.text)) m g)))))))
theorem dY a b:bJ (a++b)=bJ a++bJ b:=by simp[bJ]
theorem Ints.ofRow{s}(r:cO h s 1 (l.map eI))(c:l.length<=17592186044416):Ints h s l:=⟨r,c⟩
theorem S7{x}(c:l[i]? =some x):i7 (l.take (i+1))=i7 (l.take i)++nF x++[32]:=by
 rw[cq,c];simp[i7]
theorem abJ:cz 209 U5:=by
 refine gW func209 ?_;rintro n m h K ⟨xs,s,l,rfl,f,u,z,A⟩;refine⟨bJQ s m h,rfl,aE G4 aI,TH xs s m h K,bh,?_⟩;dsimp only[TH,push_cast];have d:=f.slen;refine⟨λ⟨i,g⟩=>i<=l.length/\g=xs++bJ (i7 (l.take i)),λ⟨i,_⟩=>l.length-i,⟨(0,xs),⟨aD,by simp[i7,bJ]⟩,MT⟩,?_⟩;rintro⟨i,g⟩ ⟨B,rfl⟩;dsimp only;refine aF (λc=>?_) (λy=>?_)
 .obtain⟨x,j⟩:=dW d c;obtain⟨b,o,e,r⟩:=f.at' j;have C:=gZ (l.take i);have D:=Bb x;have E:(l.take i).length=i:=bn
  refine⟨b,o,e,aD,c,x,.imm r,_,x,rfl,u,?_,?_,?_,(i+1,xs++bJ (i7 (l.take (i+1)))),⟨aD,rfl⟩,aD,?_⟩
  .rw[cg,bD];omega
  .rw[cg,cg,bD,bD];omega
  .rw[cg,cg,bD,bD];omega
  .rw[S7 j,dY,dY, <-append_assoc, <-append_assoc];exact MT
 grind
theorem alQ:cz 162 cOQ:=by
 refine Hr func162 ?_;rintro g m h K ⟨xs,v,rfl,c,z,d⟩;refine⟨cZ [(209,U5),(195,Ss)] [] [] [(209,[0]),(195,[0])] true,rfl,aE abJ (aE G4 aI),Nz xs v m h (mK h K),bh,?_⟩;show Nz xs v m h (mK h K);dsimp only[Nz,push_cast];intro j A e n;have o:=gZ [v.kind];have B:=Bb v.int;have u:=gZ [(v.text.size:Int)];have C:(gR v.text).length=v.text.size:=by simp[gR]
 simp only[cu,length_nil]at o u;refine⟨_,j,[v.kind],rfl,.ofRow n bi,c,bn,_,v.int,rfl,c,?_,?_,?_,λx D f y=>⟨_,x,[(v.text.size:Int)],rfl,.ofRow y bi,c,?_,?_,?_,?_⟩⟩
 .rw[cg,bD];omega
 .simp only[cg,bD];omega
 .simp only[cg,bD];omega
 .simp only[cg,bD,cu,length_nil];omega
 .simp only[cg,bD,cu,length_nil];omega
 .simp only[cg,bD,cu,length_nil];omega
 .refine .out (Sub.refl m) (e.trans f) ?_;rw[AR,dY,dY,dY,dY]at d;simp only[append_assoc]at d⊢
  exact d
theorem boZ v:v.text.size<=(AR v).length:=by
 have:v.text.data.toList.length=v.text.size:=bi
 simp only[AR,cg];omega
theorem Xb o:o.value.text.size<=(D1 o).length:=by
 have:=boZ o.value;simp only[D1,cg];omega
theorem On{l:dp}{x}(c:l[i]? =some x):pV (l.take (i+1))=pV (l.take i)++tA x:=by
 have key:∀(a:dp),pV (a++[x])=pV a++tA x:=by
  intro a
  induction a with
  |nil=>simp[pV]
  |cons y a d=>simp[pV,d]
 rw[cq,c];exact key _
theorem W3{l}:∀(i:Nat),(pV (l.take i)).length<=(pV l).length:=by
 induction l with
 |nil=>intro i;simp
 |cons y a c=>
  intro i;cases i with
  |zero=>simp[pV]
  |succ i=>have:=c i;simp only[take_succ_cons,pV,cg];omega
def xG(l:dh):=l.flatMap λp=>i7 [p.1,p.2]
def xE(l:di):=l.flatMap λp=>i7 [p.1,if p.2 then 1 else 0]
structure OT(t:Step):Prop where
 wher:(tA t.wher).length<=1000000000
 columns:t.columns.length<=1000000000
 on:t.on.length<=1000000000
 group:t.group.length<=1000000000
 order:t.order.length<=1000000000
theorem W8{l:dh}{x}(c:l[i]? =some x):xG (l.take (i+1))=xG (l.take i)++i7 [x.1,x.2]:=by
 rw[cq,c];simp[xG]
theorem Oh{l:di}{x}(c:l[i]? =some x):xE (l.take (i+1))=xE (l.take i)++i7 [x.1,if x.2 then 1 else 0]:=by
 rw[cq,c];simp[xE]
theorem J3:∀l:dh,(xG l).length<=44*l.length
 |[]=>by simp[xG]
 |n::l=>by
  have:=J3 l;have c:=gZ [n.1,n.2];unfold xG at this⊢
  grind
theorem Qd:∀l:di,(xE l).length<=44*l.length
 |[]=>by simp[xE]
 |n::l=>by
  have:=Qd l;have c:=gZ [n.1,if n.2 then 1 else 0];unfold xE at this⊢
  grind
def caZ(N:Nat):Vc.Spec:=λc m h K=>∃v p,c=[aP v]/\fJ h p v/\SizeOf.sizeOf p<N/\∀d h',PH.le h h'->fJ h' p d->K (aP d) m h'
def aBJ:Vc.Spec:=λc m h K=>∃v p,c=[aP v]/\fJ h p v/\∀d h',PH.le h h'->fJ h' p d->K (aP d) m h'
def PX:Vc.Spec:=λc m h K=>∃s l,c=[cS s]/\Ints h s l/\∀d h',PH.le h h'->Ints h' d l->K (cS d) m h'
def Wp:Vc.Spec:=λc m h K=>∃s l,c=[cS s]/\gS h s l/\∀d h',PH.le h h'->gS h' d l->K (cS d) m h'
def aVZ:Vc.Spec:=λc m h K=>∃s l,c=[cS s]/\jW h s l/\∀d h',PH.le h h'->jW h' d l->K (cS d) m h'
def baJ(n c:Nat)(m:MH)(h:PH)(K:da):=
  K Dn m h
theorem cnQ n c m h K:baJ n c m h K=(yC (cZ [] [] [] [] false) Tryz.f78 (dQ Tryz.f78) (entry Tryz.f78.ntmps [.val (.slice none n c)] m h) K):=bh
def baZ(a:Addr)(n c:Nat)(m:MH)(h:PH)(K:da):=
  Lb 1 h a n c 0 8 (λy=>bN h 1 (GS y) (λs d=>K (cM s) m d))
theorem cmJ a n c m h K:baZ a n c m h K=(yC (cZ [] [] [] [] false) Tryz.f78 (dQ Tryz.f78) (entry Tryz.f78.ntmps [.val (.slice (some a) n c)] m h) K):=bh
def baX(n c:Nat)(m:MH)(h:PH)(K:da):=
  K Dn m h
theorem cmZ n c m h K:baX n c m h K=(yC (cZ [] [] [] [] false) Tryz.f79 (dQ Tryz.f79) (entry Tryz.f79.ntmps [.val (.slice none n c)] m h) K):=bh
def baQ(a:Addr)(n c:Nat)(m:MH)(h:PH)(K:da):=
  Lb 2 h a n c 0 16 (λy=>bN h 2 (GS y) (λs d=>K (cM s) m d))
theorem cmX a n c m h K:baQ a n c m h K=(yC (cZ [] [] [] [] false) Tryz.f79 (dQ Tryz.f79) (entry Tryz.f79.ntmps [.val (.slice (some a) n c)] m h) K):=bh
def a9Z(n c:Nat)(m:MH)(h:PH)(K:da):=
  K Dn m h
theorem cmQ n c m h K:a9Z n c m h K=(yC (cZ [] [] [] [] false) Tryz.f80 (dQ Tryz.f80) (entry Tryz.f80.ntmps [.val (.slice none n c)] m h) K):=bh
def a9X(a:Addr)(n c:Nat)(m:MH)(h:PH)(K:da):=
  Lb 2 h a n c 0 16 (λy=>bN h 2 (GS y) (λs d=>K (cM s) m d))
theorem clJ a n c m h K:a9X a n c m h K=(yC (cZ [] [] [] [] false) Tryz.f80 (dQ Tryz.f80) (entry Tryz.f80.ntmps [.val (.slice (some a) n c)] m h) K):=bh
theorem Ni:cz 78 PX:=by
 refine eG (fn:=Tryz.f78) (c:=dQ Tryz.f78) func78 rfl bj ?_;rintro u m h K ⟨⟨a,n,c⟩,l,rfl,g,o⟩;refine⟨cZ [] [] [] [] false,rfl,aI,?_⟩;have d:=g.len;cases a with
 |none=>
  have e:=Ql g.row;subst e;show yC _ _ _ (entry Tryz.f78.ntmps [.val (.slice none n c)] m h) K;rw[<-cnQ n c m h K];exact o ⟨none,0,0⟩ h (.refl _) ⟨.nil _ _,bi⟩
 |some a=>
  show yC _ _ _ (entry Tryz.f78.ntmps [.val (.slice (some a) n c)] m h) K;rw[<-cmJ a n c m h K];exact⟨_,qM l,g.row,bn,bn,λx h' j f=>o x h' j ⟨f,d⟩⟩
theorem Tm:cz 79 Wp:=by
 refine eG (fn:=Tryz.f79) (c:=dQ Tryz.f79) func79 rfl (by decide) ?_;rintro u m h K ⟨⟨a,n,c⟩,l,rfl,g,o⟩;refine⟨cZ [] [] [] [] false,rfl,aI,?_⟩;have d:=g.len;cases a with
 |none=>
  have e:=Ql g.row;subst e;show yC _ _ _ (entry Tryz.f79.ntmps [.val (.slice none n c)] m h) K;rw[<-cmZ n c m h K];exact o ⟨none,0,0⟩ h (.refl _) ⟨.nil _ _,by simp⟩
 |some a=>
  show yC _ _ _ (entry Tryz.f79.ntmps [.val (.slice (some a) n c)] m h) K;rw[<-cmX a n c m h K];exact⟨_,FW l,g.row,by simp;omega,by simp;omega,λx h' j f=>o x h' j ⟨f,d⟩⟩
theorem a9J:cz 80 aVZ:=by
 refine eG (fn:=Tryz.f80) (c:=dQ Tryz.f80) func80 rfl bj ?_;rintro u m h K ⟨⟨a,n,c⟩,l,rfl,g,o⟩;refine⟨cZ [] [] [] [] false,rfl,aI,?_⟩;have d:=g.len;cases a with
 |none=>
  have e:=Ql g.row;subst e;show yC _ _ _ (entry Tryz.f80.ntmps [.val (.slice none n c)] m h) K;rw[<-cmQ n c m h K];exact o ⟨none,0,0⟩ h (.refl _) ⟨.nil _ _,bi⟩
 |some a=>
  show yC _ _ _ (entry Tryz.f80.ntmps [.val (.slice (some a) n c)] m h) K;rw[<-clJ a n c m h K];exact⟨_,FV l,g.row,bn,bn,λx h' j f=>o x h' j ⟨f,d⟩⟩
def stepB(t:Step):=i7 [t.op,t.table,t.limit,t.left,t.right]++tA t.wher++i7 [(t.columns.length:Int)]++i7 t.columns++i7 [(t.on.length:Int)]++xG t.on++i7 [(t.group.length:Int)]++i7 t.group++i7 [(t.order.length:Int)]++xE t.order
def cNQ:Vc.Spec:=λc m h K=>∃xs v t,c=[.lst 5 1 xs,aT v]/\vN h t v/\OT t/\gX m/\xs.length<=1000/\K (.lst 5 1 (xs++bJ (stepB t))) m h
noncomputable def bPX s m h:=
 cZ [(195,Ss)] [(2,{A:=Nat×List dc,st:=λ⟨i,xs⟩=>bS 21 23 [(0,.at (.lst 21)),(7,sv s),(8,iv s.len),(9,iv i)] [(21,.lst 5 1 xs)] m h})] [] [(195,[0])] true
noncomputable def bPQ(N:Nat)(v:PV)(m:MH):=
 cZ [(142,U5),(196,cNJ),(143,cNX N)] [(6,{A:=Nat×List dc×PH,st:=λ⟨i,xs,h⟩=>bS 40 42 [(0,.at (.lst 40)),(29,sv v.args),(30,iv v.args.len),(31,iv i)] [(40,.lst 5 1 xs)] m h})] [] [(142,[0]),(196,[0]),(143,[0])] true
noncomputable def cnX(N:Nat)(v:PV)(m:MH):=
 cZ [(77,caZ N)] [(4,{A:=Nat×dz×PH,st:=λ⟨i,c,h⟩=>bS 24 25 [(1,.at (.ptr 1 0)),(2,.at (.ptr 2 0)),(9,sv v.args),(10,iv v.args.len),(11,iv i)] [(1,.cells 35 ((v.enc.take 12).map .val++[.lst 20])),(2,.cells 35 (iO.enc.map .val)),(20,.lst 35 13 (c.map PV.enc))] m h})] [] [] false
noncomputable def cnZ(v:xU)(m:MH):=
 cZ [(142,U5),(143,cNZ)] [(7,{A:=Nat×List dc×PH,st:=λ⟨i,xs,h⟩=>bS 91 93 [(0,.at (.lst 91)),(3,.at (.ptr 3 0)),(44,sv v.on),(45,iv v.on.len),(46,iv i)] [(3,.cells 101 (v.enc.map .val)),(91,.lst 5 1 xs)] m h}),
  (15,{A:=Nat×List dc×PH,st:=λ⟨i,xs,h⟩=>bS 91 93 [(0,.at (.lst 91)),(75,sv v.order),(76,iv v.order.len),(77,iv i)] [(91,.lst 5 1 xs)] m h})] [] [(142,[0]),(143,[0])] true
def Uh(xs:List dc)(s:Sl)(m:MH)(h:PH)(K:da):=
  ∃(I:Nat×List dc->Prop)(d:Nat×List dc->Nat),(∃(x:Nat×List dc),aA (I x) (eL 21) (aA (aJ s) (bG s) (aA (bA x.1) (bW 5 1 xs=bW 5 1 x.2) (aA (m=m) (h=h) True))))/\∀(x:Nat×List dc),I x->aZ (↑x.1:Int) (aG s) (bF (λb o=>aH (aM s.a b o) (0<=(↑x.1:Int)) ((↑x.1:Int)<aG s) (∃(y:Int),aL m h b (bK o x.1 1) (bM y)/\PG (λe i=>Lc x.2 y e i m 1 (∃(c:Nat×List dc),aA (I c) (d c<d x) (aA (eL 21) (aJ s) (aA (bG s) (fU (bC x.1 1)=bP c.1) (aA (bW 5 1 (iT (kR e (nF i)) (lJ (zI 32)))=bW 5 1 c.2) (m=m) (bQ h h))))))))) (K (CV.lst 5 1 x.2) m h)
noncomputable abbrev wH a b:=aX (CV.lst 5 1 a) b
abbrev Pw(a:du)(b:List dc)(c:Sl)(d:PH)(e:db)(g:MH)(i:(Nat×List dc×PH->Prop)->(Nat×List dc×PH)->Prop)(j:(Nat×List dc×PH->Prop)->(Nat×List dc×PH->Nat)->(Nat×List dc×PH)->Prop):=aA (a=mM b c) (Ints d c e) (aA (gX g) (BR b e) (∃(x:Nat×List dc×PH->Prop)(n:Nat×List dc×PH->Nat),(∃(f:Nat×List dc×PH),i x f)/\∀(f:Nat×List dc×PH),j x n f))
abbrev Ga(a:List dc)(b:db)(c:Nat×List dc×PH):=bW 5 1 (kR a (i7 b))=bW 5 1 c.2.1
noncomputable abbrev oJ(a:Nat×List dc×PH):=a.2.2
attribute [push_cast] wH Pw Ga oJ
def NC(N:Nat)(xs:List dc)(v:PV)(m:MH)(h:PH)(K:da):=
  tP h 1 (sN (bM v.op) (bM v.cmp)) (λs n x E l=>GA xs s x E n l m (λe=>∃(o:OV),aH (wH (kR x (i7 l)) (lZ v.left)=wH e (lZ o)) (gX m) (iK (mO e (HM o).size+1000)) (∃(f:List dc)(g:OV),aH (wH (kR e (D1 o)) (lZ v.right)=wH f (lZ g)) (gX m) (iK (mO f (HM g).size+1000)) (tP n 1 (lI (bM (wY v))) (λF u z G A=>Pw (mM (kR f (D1 g)) F) z G u A m (λI c=>aA (I c) (eL 40) (aA (aJ v.args) (sO v) (aA (bA c.1) (Ga z A c) (aA (m=m) (u=oJ c) True)))) (λI B c=>I c->aZ (↑c.1:Int) (aG v.args) (bF (λb C=>aH (aM v.args.a b C) (0<=(↑c.1:Int)) ((↑c.1:Int)<aG v.args) (∃(y:PV),aL m (oJ c) b (bK C c.1 13) y.enc
 /\∃(j:List dc),tM (λD p=>aA (wH c.2.1 (fL y)=wH j (fL D)) (fJ (oJ c) p D) (aA (uQ p N) (gX m) (iK (mO j (tA p).length+5000)/\∃(d:Nat×List dc×PH),aA (I d) (B d<B c) (aA (eL 40) (aJ v.args) (aA (sO v) (fU (bC c.1 1)=bP d.1) (aA (bW 5 1 (kR j (tA p))=bW 5 1 d.2.1) (m=m) (bQ (oJ c) (oJ d))))))))))) (K (CV.lst 5 1 c.2.1) m (oJ c))))))))
noncomputable abbrev Jc(a:Nat×dz×PH):=List.map PV.enc a.2.1
attribute [push_cast] Jc
def XK(N:Nat)(v:PV)(m:MH)(h:PH)(K:da):=
  ∃(I:Nat×dz×PH->Prop)(e:Nat×dz×PH->Nat),(∃(x:Nat×dz×PH),aA (I x) eJ (aA eD (aJ v.args) (aA (sO v) (bA x.1) (aA (eQ (oQ 35 (yI v v.left v.right (nR (At.lst 20))))) pE (aH (oH 35 13 (bW 35 13 (Jc x))) (m=m) (h=x.2.2) True)))))/\∀(x:Nat×dz×PH),I x->aZ (↑x.1:Int) (aG v.args) (bF (λb o=>aH (aM v.args.a b o) (0<=(↑x.1:Int)) ((↑x.1:Int)<aG v.args) (∃(y:PV),aL m x.2.2 b (bK o x.1 13) y.enc/\tM (λf p=>aH (tS y=tS f) (fJ x.2.2 p f) (uQ p N) (Em x.2.2 p (λg d=>tT (Jc x) 136 (∃(c:Nat×dz×PH),aA (I c) (e c<e x) (aA eJ eD (aA (aJ v.args) (bG v.args) (aA (fU (bC x.1 1)=bP c.1) (eQ (oQ 35 (yI v v.left v.right (nR (At.lst 20)))))
 (j4 pE (bW 35 13 (iT (Jc x) g.enc)=bW 35 13 (Jc c)) (m=m) d c.2.2))))))))))) (bN x.2.2 13 (Jc x) (λs d=>K (qK (aU (eH v.op) (eH v.cmp) (aU (i6 v.left) (sQ v.left) (aU (eH (tD v.left)) (mS v.left) (aU (lA v.left) (i6 v.right) (aU (sQ v.right) (eH (tD v.right)) (aU (mS v.right) (lA v.right) (bH s)))))))) m d))
def Nw(xs:List dc)(o:OV)(m:MH)(h:PH)(K:da):=
  tP h 1 (lJ (i6 o)::sN (lJ (sQ o)) (bM (tD o))) (λs e x n l=>GA xs s x n e l m (λf=>∃(i:Int),Lc (kR x (i7 l)) o.value.int f i m 1 (tP e 1 (lI (bM (↑(HM o).size:Int))) (λu g c j d=>aA (mM (iT (kR f (nF i)) (lJ (zI 32))) u=mM c j) (Ints g j d) (aA (gX m) (BR c d) (aA (tJ (kR c (i7 d)) (gR (HM o)) 1) (oL (kR c (i7 d)) (gR (HM o))) (K (CV.lst 5 1 (kR c (i7 d)++gR (HM o))) m g)))))))
abbrev nN(a:xU):=eQ (qO 101 a.enc)
attribute [push_cast] nN
def Rg(xs:List dc)(v:xU)(m:MH)(h:PH)(K:da):=
  tP h 1 (bM v.op::bM v.table::bM v.limit::sN (bM v.left) (bM v.right)) (λs E x s1 l=>GA xs s x s1 E l m (λF=>tM (λP p=>aA (wH (kR x (i7 l)) (fL v.where_)=wH F (fL P)) (fJ E p P) (aA (gX m) (iK (mO F (tA p).length+5000)) (tP E 1 (lI (bM (aG v.columns))) (λs2 G Q s3 R=>GA (kR F (tA p)) s2 Q s3 G R m (λH=>sP (λS J=>aA (mM (kR Q (i7 R)) v.columns=mM H S) (Ints G S J) (aA (gX m) (BR H J) (tP G 1 (lI (bM (aG v.on))) (λs5 T U s6 V=>Pw (mM (kR H (i7 J)) s5) U s6 T V m (λI d=>aA (I d) (eL 91) (aA cH (aJ v.on) (aA (bG v.on) (bA d.1) (aA (nN v) (Ga U V d) (bO (m=m) T (oJ d)))))) (λI W d=>I
 d->aZ (↑d.1:Int) (aG v.on) (bF (λb o=>aH (aM v.on.a b o) (0<=(↑d.1:Int)) ((↑d.1:Int)<aG v.on) (∃(y:Int×Int),aA (aL m (oJ d) b (bK o d.1 2) (u7 y)) (cF 0) (aA CF rW (CG/\tP (oJ d) 1 (sN (bM y.1) (bM y.2)) (λL n u C z=>aA (mM d.2.1 L=mM u C) (Ints n C z) (aA (gX m) (BR u z) (∃(f:Nat×List dc×PH),aA (I f) (W f<W d) (aA (eL 91) cH (aA (aJ v.on) (bG v.on) (aA (fU (bC d.1 1)=bP f.1) (nN v) (aH (Ga u z f) (m=m) (n=oJ f) True)))))))))))) (tP (oJ d) 1 (lI (bM (aG v.group))) (λL n u C z=>GA d.2.1 L u C n z m (λf=>sP (λX M=>aA (mM (kR u (i7 z)) v.group=mM f X) (Ints n X M) (aA (gX m)
 (BR f M) (tP n 1 (lI (bM (aG v.order))) (λa Y Z a1 l6=>Pw (mM (kR f (i7 M)) a) Z a1 Y l6 m (λI1 c=>aA (I1 c) (eL 91) (aA (aJ v.order) (bG v.order) (aA (bA c.1) (Ga Z l6 c) (aA (m=m) (Y=oJ c) True)))) (λI1 D c=>I1 c->aZ (↑c.1:Int) (aG v.order) (bF (λb o=>aH (aM v.order.a b o) (0<=(↑c.1:Int)) ((↑c.1:Int)<aG v.order) (∃(y:Int×Bool),aL m (oJ c) b (bK o c.1 2) (Az y)/\branch y.2 (tP (oJ c) 1 (sN (bM y.1) (bM 1)) (λO A g B j=>aA (mM c.2.1 O=mM g B) (Ints A B j) (aA (gX m) (BR g j) (∃(e:Nat×List dc×PH),aA (I1 e) (D e<D c) (aA (eL 91) (aJ v.order) (aA (bG v.order) (fU (bC c.1 1)=bP e.1) (aA (Ga g j e) (m=m)
 (bQ A (oJ e))))))))) (tP (oJ c) 1 (sN (bM y.1) CZ) (λO A g B j=>aA (mM c.2.1 O=mM g B) (Ints A B j) (aA (gX m) (BR g j) (∃(e:Nat×List dc×PH),aA (I1 e) (D e<D c) (aA (eL 91) (aJ v.order) (aA (bG v.order) (fU (bC c.1 1)=bP e.1) (aA (Ga g j e) (m=m) (bQ A (oJ e)))))))))))) (K (CV.lst 5 1 c.2.1) m (oJ c))))))))))))))))))))))
theorem Kh:cz 142 U5:=by
 refine gW func142 ?_;rintro n m h K ⟨xs,s,l,rfl,f,u,z,A⟩;refine⟨bPX s m h,rfl,aE G4 aI,Uh xs s m h K,bh,?_⟩;dsimp only[Uh,push_cast];have d:=f.slen;refine⟨λ⟨i,g⟩=>i<=l.length/\g=xs++bJ (i7 (l.take i)),λ⟨i,_⟩=>l.length-i,⟨(0,xs),⟨aD,by simp[i7,bJ]⟩,MT⟩,?_⟩;rintro⟨i,g⟩ ⟨B,rfl⟩;dsimp only;refine aF (λc=>?_) (λy=>?_)
 .obtain⟨x,j⟩:=dW d c;obtain⟨b,o,e,r⟩:=f.at' j;have C:=gZ (l.take i);have D:=Bb x;have E:(l.take i).length=i:=bn
  refine⟨b,o,e,aD,c,x,.imm r,_,x,rfl,u,?_,?_,?_,(i+1,xs++bJ (i7 (l.take (i+1)))),⟨aD,rfl⟩,aD,?_⟩
  .rw[cg,bD];omega
  .rw[cg,cg,bD,bD];omega
  .rw[cg,cg,bD,bD];omega
  .rw[S7 j,dY,dY, <-append_assoc, <-append_assoc];exact MT
 grind
theorem a0X o:D1 o=i7 [o.kind,o.index,o.value.kind]++(nF o.value.int++[32])++i7 [(o.value.text.size:Int)]++o.value.text.data.toList:=by
 simp[D1,AR,i7]
theorem afQ:cz 196 cNJ:=by
 refine Hr func196 ?_;rintro g m h K ⟨xs,o,rfl,c,A,d⟩;refine⟨cZ [(142,U5),(195,Ss)] [] [] [(142,[0]),(195,[0])] true,rfl,aE Kh (aE G4 aI),Nw xs o m h (mK h K),bh,?_⟩;show Nw xs o m h (mK h K);dsimp only[Nw,push_cast];intro j B e n;have u:=gZ [o.kind,o.index,o.value.kind];have C:=Bb o.value.int;have x:=gZ [(o.value.text.size:Int)];have D:(gR o.value.text).length=o.value.text.size:=by simp[gR]
 simp only[cu,length_nil]at u x;refine⟨_,j,[o.kind,o.index,o.value.kind],rfl,.ofRow n bi,c,bn,_,o.value.int,rfl,c,?_,?_,?_,λy E f z=>⟨_,y,[(o.value.text.size:Int)],rfl,.ofRow z bi,c,?_,?_,?_,?_⟩⟩
 .rw[cg,bD];omega
 .simp only[cg,bD];omega
 .simp only[cg,bD];omega
 .simp only[cg,bD,cu,length_nil];omega
 .simp only[cg,bD,cu,length_nil];omega
 .simp only[cg,bD,cu,length_nil];omega
 .refine .out (Sub.refl m) (e.trans f) ?_;rw[a0X,dY,dY,dY,dY]at d;simp only[append_assoc]at d⊢
  exact d
theorem Ys:∀N,cz 143 (cNX N)
 |0=>by
  refine Th (fn:=Tryz.f143) (c:=dQ Tryz.f143) func143 rfl bj ?_;rintro n m h K ⟨xs,v,p,rfl,_,I,_,_,_⟩;omega
 |N+1=>by
  refine Hr func143 ?_;rintro n m h K ⟨xs,v,p,rfl,J,I,j,L,G⟩;refine⟨bPQ N v m,rfl,aE Kh (aE afQ (aE (Ys N) aI)),NC N xs v m h (mK h K),bh,?_⟩;show NC N xs v m h (mK h K);dsimp only[NC,push_cast];have f:=@yW p;obtain⟨op,M,l,r,d⟩:=p;obtain⟨rfl,rfl,rfl,rfl,x⟩:=J.parts;have y:=x.slen;have z:=x.len;simp only[Pred.args]at f;have Z:=Xb v.left;have b2:=Xb v.right;have O:=gZ [v.op,v.cmp];have P:=gZ [(d.length:Int)];simp only[cu,length_nil]at O P;simp only[tA,cg]at L;intro Q h1 A R;refine⟨_,Q,[v.op,v.cmp],rfl,.ofRow R bi,j,bn,_,v.left,rfl,j,?_,_,v.right,rfl,j,?_,λS T B U=>⟨_,S,[(v.args.len:Int)],rfl,.ofRow U bi,j,?_,?_⟩⟩
  .simp only[cg,bD];omega
  .simp only[cg,bD];omega
  .simp only[cg,bD,cu,length_nil];omega
  rw[y];refine⟨λ⟨i,H,C⟩=>i<=d.length/\PH.le h C/\H=xs++bJ (i7 [v.op,v.cmp])++bJ (D1 v.left)++bJ (D1 v.right)++bJ (i7 [(d.length:Int)])++bJ (pV (d.take i)),λ⟨i,_,_⟩=>d.length-i,⟨(0,_,T),⟨aD,A.trans B,rfl⟩,?_⟩,?_⟩
  .simp only[take_zero,pV,bJ,map_nil,append_nil];exact MT
  rintro⟨i,H,C⟩ ⟨hi,g,rfl⟩;dsimp only;refine aF (λD=>?_) (λV=>?_)
  .obtain⟨q,E⟩:=dW rfl D;obtain⟨W,o,u,e,X,F⟩:=(x.mono g).at E;have Y:=W3 (l:=d) (i+1);rw[On E,cg]at Y;refine⟨W,o,e,aD,aD,u,.imm X,_,u,q,rfl,F,?_,j,?_,(i+1,xs++bJ (i7 [v.op,v.cmp])++bJ (D1 v.left)++bJ (D1 v.right)++bJ (i7 [(d.length:Int)])++bJ (pV (d.take (i+1))),C),⟨aD,g,rfl⟩,aD,?_⟩
   .grind
   .simp only[cg,bD];omega
   .rw[On E,dY, <-append_assoc];exact MT
  .rw[ci aD];refine .out (Sub.refl m) g ?_;simp only[tA,dY, <-append_assoc]at G;exact G
theorem aoJ:cz 143 cNZ:=iE Ys λ_ _ _ _⟨xs,v,p,e,c,d,f,g⟩=>⟨SizeOf.sizeOf p+1,xs,v,p,e,c,aD,d,f,g⟩
theorem aJJ:∀N,cz 77 (caZ N)
 |0=>by
  refine eG (fn:=Tryz.f77) (c:=dQ Tryz.f77) func77 rfl bj ?_;rintro B m h K ⟨v,p,rfl,_,J,_⟩;omega
 |N+1=>by
  refine gW func77 ?_;rintro B m h K ⟨v,p,rfl,L,J,M⟩;refine⟨cnX N v m,rfl,aE (aJJ N) aI,XK N v m h K,bh,?_⟩;dsimp only[XK,push_cast];have f:=@yW p;obtain⟨op,O,l,r,ps⟩:=p;obtain⟨rfl,rfl,rfl,rfl,C⟩:=L.parts;have P:=C.slen;have o:=C.len;simp only[Pred.args]at f;refine⟨λ⟨i,y,e⟩=>i<=ps.length/\PH.le h e/\y.length=i/\∀(j:Nat) x,(ps.take i)[j]? =some x->∃u,y[j]? =some u/\fJ e x u,λ⟨i,_,_⟩=>ps.length-i,⟨(0,[],h),⟨aD,.refl _,rfl,λj x e=>by simp at e⟩,MT⟩,?_⟩;rintro⟨i,y,e⟩ ⟨Y,g,D,n⟩;dsimp only;refine aF (λz=>?_) (λQ G h' d A=>M ⟨v.op,v.cmp,v.left,v.right,G⟩ h' (g.trans d) (fJ.mk (v:=⟨v.op,v.cmp,v.left,v.right,G⟩) ⟨⟨y,A,aD,λj x e=>?_⟩,o⟩))
  .obtain⟨q,H⟩:=dW P z;obtain⟨R,S,u,T,U,E⟩:=(C.mono g).at H;refine⟨R,S,T,aD,z,u,.imm U,u,q,rfl,E,?_,λV h' d W=>⟨bn,bn,(i+1,y++[V],h'),⟨aD,g.trans d,by simp[D],λj x e=>?_⟩,aD,?_⟩⟩
   .grind
   .rw[cq,H]at e;by_cases Z:j<i
    .rw[getElem?_append_left bn]at e;obtain⟨X,I,F⟩:=n j x e;exact⟨X,bo,F.mono d⟩
    grind
   .rw[cj];exact MT
  .rw[ci aD]at n;obtain⟨u,I,F⟩:=n j x e;exact⟨u,I,F.mono d⟩
theorem Tn:cz 77 aBJ:=iE aJJ λ_ _ _ _⟨v,p,e,c,d⟩=>⟨SizeOf.sizeOf p+1,v,p,e,c,aD,d⟩
theorem bbQ:cz 76 cNQ:=by
 refine Hr func76 ?_;rintro a' m h K ⟨xs,v,t,rfl,f,C,j,y,D⟩;refine⟨cnZ v m,rfl,aE Kh (aE aoJ aI),Rg xs v m h (mK h K),bh,?_⟩;show Rg xs v m h (mK h K);dsimp only[Rg,push_cast];have E:=f.on_.slen;have F:=f.order_.slen;have O:=f.columns_.slen;have R:=f.group_.slen;have k1:=C.wher;have k2:=C.columns;have k3:=C.on;have k4:=C.group;have k5:=C.order;have U:=gZ [v.op,v.table,v.limit,v.left,v.right];have V:=gZ [(v.columns.len:Int)];have n3:=gZ t.columns;have W:=gZ [(v.on.len:Int)];have X:=gZ [(v.group.len:Int)];have n6:=gZ t.group;have Y:=gZ [(v.order.len:Int)];have n8:=J3 t.on;simp only[cu,length_nil]at U V W X Y;simp only[stepB,dY, <-append_assoc]at D;rw[<-f.op_, <-f.table_, <-f.limit_, <-f.left_, <-f.right_, <-O, <-E, <-R, <-F]at D;intro z B d u;refine⟨_,z,[v.op,v.table,v.limit,v.left,v.right],rfl,.ofRow u bi,j,by simp only[cu,length_nil];omega,_,v.where_,t.wher,rfl,f.where_.mono d,j,by simp only[cg,bD];omega,λs2 h2 G Z=>⟨_,s2,[(v.columns.len:Int)],rfl,.ofRow Z bi,j,by simp only[cg,bD,cu,length_nil];omega,_,v.columns,t.columns,rfl,f.columns_.mono (d.trans G),j,by simp only[cg,bD];omega,λs3 h3 S r3=>⟨_,s3,[(v.on.len:Int)],rfl,.ofRow r3 bi,j,by simp only[cg,bD,cu,length_nil];omega,?_⟩⟩⟩;generalize hP:xs++bJ (i7 [v.op,v.table,v.limit,v.left,v.right])++bJ (tA t.wher)++bJ (i7 [(v.columns.len:Int)])++bJ (i7 t.columns)++bJ (i7 [(v.on.len:Int)])=P at D⊢
 have lP:P.length<=30000000000:=by rw[<-hP];simp only[cg,bD];omega
 have H:=(d.trans G).trans S;clear hP u Z r3 U V n3 W;refine⟨λ⟨i,I,y⟩=>i<=t.on.length/\PH.le h y/\I=P++bJ (xG (t.on.take i)),λ⟨i,_,_⟩=>t.on.length-i,⟨(0,P,h3),⟨aD,H,by simp[xG,bJ]⟩,MT⟩,?_⟩;rintro⟨i,I,y⟩ ⟨hi,c,rfl⟩;dsimp only;refine aF (λn=>?_) (λJ=>?_)
 .obtain⟨x,g⟩:=dW E n;obtain⟨b,o,e,r⟩:=(f.on_.mono c).at g;have q1:=J3 (t.on.take i);have q2:(t.on.take i).length=i:=bn
  refine⟨b,o,e,aD,n,x,.imm r,aD,aD,aD,aD,λz B d u=>⟨_,z,[x.1,x.2],rfl,.ofRow u bi,j,?_,(i+1,P++bJ (xG (t.on.take (i+1))),B),⟨aD,c.trans d,rfl⟩,aD,?_⟩⟩
  .simp only[cg,bD,cu,length_nil];omega
  .rw[W8 g,dY, <-append_assoc];exact MT
 rw[ci aD];intro s4 h4 A r4;refine⟨_,s4,[(v.group.len:Int)],rfl,.ofRow r4 bi,j,by simp only[cg,bD,cu,length_nil];omega,_,v.group,t.group,rfl,f.group_.mono (c.trans A),j,by simp only[cg,bD];omega,λs5 h5 L r5=>⟨_,s5,[(v.order.len:Int)],rfl,.ofRow r5 bi,j,by simp only[cg,bD,cu,length_nil];omega,?_⟩⟩;generalize hQ:P++bJ (xG t.on)++bJ (i7 [(v.group.len:Int)])++bJ (i7 t.group)++bJ (i7 [(v.order.len:Int)])=Q at D⊢
 have lQ:Q.length<=200000000000:=by rw[<-hQ];simp only[cg,bD];omega
 have M:=(c.trans A).trans L;clear hQ r4 r5 X n6 Y n8 c J hi A L;clear i y;refine⟨λ⟨i,I,y⟩=>i<=t.order.length/\PH.le h y/\I=Q++bJ (xE (t.order.take i)),λ⟨i,_,_⟩=>t.order.length-i,⟨(0,Q,h5),⟨aD,M,by simp[xE,bJ]⟩,MT⟩,?_⟩;rintro⟨i,I,y⟩ ⟨hi,c,rfl⟩;dsimp only;refine aF (λn=>?_) (λJ=>?_)
 .obtain⟨x,g⟩:=dW F n;obtain⟨b,o,e,r⟩:=(f.order_.mono c).at g;have q1:=Qd (t.order.take i);have q2:(t.order.take i).length=i:=bn
  refine⟨b,o,e,aD,n,x,.imm r,aC (λT z B d u=>⟨_,z,[x.1,1],rfl,.ofRow u bi,j,?_,(i+1,Q++bJ (xE (t.order.take (i+1))),B),⟨aD,c.trans d,rfl⟩,aD,?_⟩) (λT z B d u=>⟨_,z,[x.1,0],rfl,.ofRow u bi,j,?_,(i+1,Q++bJ (xE (t.order.take (i+1))),B),⟨aD,c.trans d,rfl⟩,aD,?_⟩)⟩
  .simp only[cg,bD,cu,length_nil];omega
  .rw[Oh g,dY,T, <-append_assoc];exact MT
  .simp only[cg,bD,cu,length_nil];omega
  .rw[Oh g,dY,T, <-append_assoc];exact MT
 rw[ci aD];exact .out (Sub.refl m) c D
def DX(q:Query):Prop:=
 match q with
 |.mk op ta w co on gr od li args=>OT ⟨op,ta,w,co,on,gr,od,li,0,0⟩/\∀a∈args,DX a
 termination_by SizeOf.sizeOf q
def Steps(h:PH)(vs:List xU)(ts:dn):=vs.length=ts.length/\∀(i:Nat) t,ts[i]? =some t->∃v,vs[i]? =some v/\vN h t v
theorem W0{op w on args}:
 DX (.mk op ta w co on gr od li args)↔OT ⟨op,ta,w,co,on,gr,od,li,0,0⟩/\∀a∈args,DX a:=by rw[DX.eq_def]
theorem fA.blk{s E}(h:fA m s E sz xs)(e:s.a=some ⟨b,i,none⟩):∃c,m b=some (.cells c E (0,0)):=by
 rcases h.ex with⟨rfl,_⟩|⟨f,d,c,rfl,g,_⟩
 .cases e
 grind
theorem fA.slen{s E}(h:fA m s E sz xs):s.len=xs.length:=by
 rcases h.ex with⟨rfl,rfl⟩|⟨e,c,d,rfl,f,_⟩<;>rfl
theorem fA.keep{s E}(h:fA m s E sz xs)(f:∀b i,s.a=some ⟨b,i,none⟩->m' b=m b):fA m' s E sz xs:=by
 refine⟨h.rows,?_⟩;rcases h.ex with c|⟨b,d,e,rfl,g,j⟩
 .exact .inl c
 grind
def Fl(t:Step):ByteArray:=⟨(stepB t).toArray⟩
def cC t ts:=match ts.findIdx? (λx=>stepB x==stepB t)with
 |some k=>(ts,k)
 |none=>(ts++[t],ts.length)
structure gO(m0 m:MH)(h:PH)(cb mb:Nat)(ts:dn)(rs:db):Prop where
 sub:Sub m0 m
 cb0:m0 cb=none
 mb0:m0 mb=none
 map_:zW m mb (ts.mapIdx λi t=>(.string (Fl t),.int .i64 i))
 nodup:(ts.map stepB).Nodup
 ex:∃s r,m cb=some (.cells #[.slice s.a s.len s.cap,.slice r.a r.len r.cap,.map (some mb)] 93 (0,0))/\(∃vs,fA m s 101 22 (vs.map xU.enc)/\Steps h vs ts)/\fA m r 3 1 (rs.map eI)/\
  (∀b i,s.a=some ⟨b,i,none⟩->m0 b=none)/\(∀b i,r.a=some ⟨b,i,none⟩->m0 b=none)
def U7:Vc.Spec:=λc m h K=>∃v t d cb e ts rs,c=[cP cb,aT v]/\vN h t v/\OT t/\gO d m h cb e ts rs/\gX d/\ts.length<=100000/\
 ∀m' h',PH.le h h'->gO d m' h' cb e (cC t ts).1 rs->K (cI (cC t ts).2) m' h'
noncomputable def csX:=vO [(76,cNQ),(77,aBJ),(78,PX),(79,Wp),(80,aVZ)] [] [] [] [1043] [(76,[0])] false
abbrev QL(a:xU->Step->Prop):=∃(x:xU)(c:Step),a x c
noncomputable abbrev pZ(a:xU):=qK a.enc
noncomputable abbrev pH a:=lJ (Value.map (Option.some a))
noncomputable abbrev GB a:=Value.string (ByteArray.mk (Array.mk a))
abbrev yT a b c d:=aA (gK a=gK b) c d
abbrev QJ(a:Sl->di->Prop):=∃(x:Sl)(c:di),a x c
attribute [push_cast] QL pZ pH GB yT QJ
def X3(cb:Nat)(v:xU)(m:MH)(h:PH)(K:da):=
  ∃(x:List dc),QL (λC t=>aA (wH [] (pZ v)=wH x (pZ C)) (vN h t C) (aA (OT t) (gX m) (oV x.length/\∃(b:dr),kR x (stepB t)=bJ b/\∃(y:Nat),aL m h cb 2 (pH y)/\∃(k:List (Value×Int))(O:Value->Prop),aA (zW m y (List.map (fun(p:Value×Int)=>(p.1,eH p.2)) k)) (GR O) (aA (O (GB b)) (∀(e:Value×Int),List.Mem e k->O e.1) (((∀(e:Value×Int),List.Mem e k->e.1=GB b->False)->tM (λD p=>aA (tS v.where_=tS D) (fJ h p D) (Em h p (λE F=>sP (λs l=>yT v.columns s (Ints F s l) (fB (λG g=>bY F g (Ints g G l) (AD (λH I=>yT v.on H (gS g H I) (fB (λJ j=>bY g j (gS j J I) (sP (λL M=>yT v.group L (Ints j L M) (fB (λP
 n=>bY j n (Ints n P M) (QJ (λQ R=>yT v.order Q (jW n Q R) (fB (λS d=>bY n d (jW d S R) (kW m d cb 0 (λf=>∃(c:Sl),M3 (aL m d cb 0 (bH c)) (aL m d cb 0 (bH c)) (λo=>aH (fA m (Sl.mk c.a c.len c.cap) 101 22 o) (iK (mO o 1*272)) (mR o) (qC (λT U=>kK m U (Sl.mk c.a c.len c.cap) T 101 22 (iT o (Px v.op (eH v.table) E (C9 E (gP G) (aU (gP J) (gP P) (aU (gP S) (eH v.limit) (lE (eH v.left) (eH v.right)))))))->oG U cb (gP T) (λz=>∃(u:Nat),aL z d cb 2 (pH u)/\LO z u (λO1=>O1 (GB b)) (λA=>A) (λe=>e) (GB b) (λA=>∀(B:MH),tG z B u->zW B u (A++E0 (GB b) (eH (aG f)))->K (fI (aG f)) B d))))))))))))))))))))))))))/\∀
 (f:Int),List.Mem (GB b,f) k->K (fI f) m h)))))
theorem Y5(h:∀x∈ts,stepB x≠stepB t):cC t ts=(ts++[t],ts.length):=by
 unfold cC
 grind
theorem Y4{x}(c:(ts.map stepB).Nodup)(d:ts[i]? =some x)(e:stepB x=stepB t):cC t ts=(ts,i):=by
 unfold cC;obtain⟨f,n⟩:=List.getElem?_eq_some_iff.1 d
 have:ts.findIdx? (λx=>stepB x==stepB t)=some i:=by
  rw[findIdx?_eq_some_iff_getElem];refine⟨f,bo,λj o=>?_⟩;intro g;have g:stepB ts[j]=stepB t:=bo
  have:=(getElem_inj (h₀:=bn) (h₁:=bo) c (i:=j) (j:=i)).1 bo;omega
 rw[this]
theorem eA t ts:(cC t ts).1.length<=ts.length+1:=by
 unfold cC;grind
theorem gO.mono{m0 f}(c:gO m0 m h cb f ts rs)(le:PH.le h h'):gO m0 m h' cb f ts rs:=by
 obtain⟨s,r,d,⟨g,j,n,o⟩,u⟩:=c.ex;exact⟨c.sub,c.cb0,c.mb0,c.map_,c.nodup,s,r,d,⟨g,j,n,λi t e=>let⟨v,d,e2⟩:=o i t e;⟨v,d,e2.mono le⟩⟩,u⟩
theorem Xh{ts:dn}{k y}(h:(k,y)∈ts.mapIdx λi t=>(Value.string (Fl t),(i:Int))):∃(i:Nat)(t:Step),ts[i]? =some t/\k= .string (Fl t)/\y=i:=by
 grind
theorem MG{a b}:Value.string (Fl a)=Value.string (Fl b)↔stepB a=stepB b:=by
 constructor
 .intro h;have:=congrArg (λv=>match v with|Value.string s=>s.data.toList|_=>[]) h;simpa[Fl]using this
 .intro h;unfold Fl;rw[h]
theorem FA:cz 40 U7:=by
 refine gW func40 ?_;rintro b1 m h K ⟨v,t,m0,cb,d,ts,rs,rfl,f,hk,c,ht,hl,hK⟩;refine⟨csX,rfl,aE bbQ (aE Tn (aE Ni (aE Tm (aE a9J aI)))),X3 cb v m h K,bh,?_⟩;dsimp only[X3,push_cast];obtain⟨s,r,L,⟨vs,T,U,a4⟩,V,b2,a5⟩:=c.ex;have D:=fA.slen T;rw[length_map,U]at D
 have W:(ts.mapIdx λi t=>(Value.string (Fl t),(i:Int))).map (λp=>(p.1,eH p.2))=ts.mapIdx λi t=>(.string (Fl t),.int .i64 i):=by
  apply ext_getElem?
  grind
 have a6:∀b i,s.a=some ⟨b,i,none⟩->b≠cb:=λb i e M=>by
  obtain⟨C,E⟩:=fA.blk T e
  grind
 have F:cb≠d:=λe=>by
  obtain⟨es,cl,E,_⟩:=c.map_.ex
  grind
 refine⟨[],v,t,rfl,f,hk,ht.sub c.sub,bi,stepB t,rfl,d,.of_m L rfl,ts.mapIdx λi t=>(.string (Fl t),(i:Int)),_,by rw[W];exact c.map_,DC,⟨_,rfl⟩,λe X=>?_,λa7=>⟨v.where_,t.wher,rfl,f.where_,λv1 h1 g r1=>⟨v.columns,t.columns,rfl,f.columns_.mono g,λs2 h2 n r2=>⟨v.on,t.on,rfl,f.on_.mono (g.trans n),λs3 E z r3=>⟨v.group,t.group,rfl,f.group_.mono ((g.trans n).trans z),λs4 h4 A r4=>⟨v.order,t.order,rfl,f.order_.mono (((g.trans n).trans z).trans A),λs5 h5 B r5=>?_⟩⟩⟩⟩⟩,λy hy=>?_⟩
 .obtain⟨i,t',_,G,_⟩:=Xh (k:=e.1) (y:=e.2) X
  grind
 .have H:∀x∈ts,stepB x≠stepB t:=by
   intro x hx e;obtain⟨i,I⟩:=mem_iff_getElem?.1 hx;have a8:=(bz I);refine a7 (.string (Fl x),(i:Int)) ?_ (MG.2 e);refine mem_mapIdx.2 ⟨i,a8,?_⟩
   grind
  rw[Y5 H]at hK;have le:PH.le h h5:=(((g.trans n).trans z).trans A).trans B;have b3:vN h5 t ⟨v.op,v.table,v1,s2,s3,s4,s5,v.limit,v.left,v.right⟩:=⟨f.op_,f.table_,r1.mono (((n.trans z).trans A).trans B),r2.mono ((z.trans A).trans B),r3.mono (A.trans B),r4.mono B,r5,f.limit_,f.left_,f.right_⟩
  have O:aL m h5 cb 0 [.slice s.a s.len s.cap]:=.of_m L rfl;refine⟨s,O,s,O,O,vs.map xU.enc,T,bo,bo,λS m1 P=>?_⟩;have Y:m1 cb=some (.cells #[.slice s.a s.len s.cap,.slice r.a r.len r.cap,.map (some d)] 93 (0,0)):=P.other cb _ L (λi e=>a6 cb i e rfl);refine⟨_,_,⟨Y⟩,bi,λm2 Q=>?_⟩;have Q:pO m1 m2 cb (.cells #[.slice S.a S.len S.cap,.slice r.a r.len r.cap,.map (some d)] 93 (0,0)):=Q;obtain⟨es,cl,a9,b'⟩:=c.map_.ex
  have Z:m1 d=some (.map es cl):=P.other d _ a9 (λi e=>by
   obtain⟨C,E⟩:=fA.blk T e
   grind)
  have a':m2 d=some (.map es cl):=by rw[Q.other d (Ne.symm F)];exact Z
  refine⟨d,.of_m Q.at_ rfl,ts.mapIdx λi t=>(.string (Fl t),.int .i64 i),_,⟨es,cl,a',b'⟩,DC,⟨_,rfl⟩,λe X=>?_,λe X M=>?_,λm3 R a0=>?_⟩
  .obtain⟨i,I,G⟩:=mem_mapIdx.1 X
   grind
  .obtain⟨i,I,G⟩:=mem_mapIdx.1 X;rw[<-G]at M;exact H ts[i] (getElem_mem I) (MG.1 M)
  .rw[D]at a0⊢
   have a1:∀b i,S.a=some ⟨b,i,none⟩->b≠cb:=λb i e M=>by
    obtain⟨C,E⟩:=fA.blk P.row e
    grind
   have a2:∀b i,S.a=some ⟨b,i,none⟩->b≠d:=λb i e M=>by
    obtain⟨C,E⟩:=fA.blk P.row e
    grind
   have a3:∀b o,m b=some o->b≠cb->b≠d->(∀i,s.a≠some ⟨b,i,none⟩)->m3 b=some o:=λb o e n1 n2 n3=>by
    rw[R.other b n2,Q.other b n1];exact P.other b o e n3
   refine hK m3 h5 le ⟨λb o e=>a3 b o (c.sub b o e) (λJ=>by rw[J,c.cb0]at e;cases e) (λJ=>by rw[J,c.mb0]at e;cases e) (λi J=>bo),c.cb0,c.mb0,?_,?_,S,r,?_,⟨vs++[⟨v.op,v.table,v1,s2,s3,s4,s5,v.limit,v.left,v.right⟩],?_,?_,?_⟩,?_,?_,a5⟩
   .rw[mapIdx_append];simpa[Fl]using a0
   .rw[cj,nodup_append];refine⟨c.nodup,bi,λa ha b hb=>?_⟩
    grind
   .rw[R.other cb F];exact Q.at_
   .rw[cj];refine fA.keep P.row (λb i e=>?_);rw[R.other b (a2 b i e),Q.other b (a1 b i e)]
   .simp[U]
   .intro i x hx;by_cases I:i<ts.length
    .rw[getElem?_append_left I]at hx;obtain⟨u,G,M⟩:=a4 i x hx;exact⟨u,bo,M.mono le⟩
    grind
   .refine fA.keep V (λb i e=>?_);obtain⟨C,E⟩:=fA.blk V e;rw[E];refine a3 b _ E (λJ=>?_) (λJ=>?_) (λj J=>?_)
    .grind
    .grind
    .obtain⟨b0,h4⟩:=fA.blk T J
     grind
   .intro b i e;rcases P.fresh b i e with h1|⟨j,h1⟩
    .cases e0:m0 b with
     |none=>rfl
     |some o=>rw[c.sub b o e0]at h1;cases h1
    grind
 .obtain⟨i,t',I,G,rfl⟩:=Xh hy;have G:stepB t=stepB t':=MG.1 G;rw[Y4 c.nodup I G.symm]at hK;exact hK m h (.refl _) c
inductive PN where
 |mk (q:Query) (args:List PN) (rows env:Nat) (width:Int)
def PN.q:PN->Query
 |.mk q _ _ _ _=>q
def PN.args:PN->List PN
 |.mk _ a _ _ _=>a
def PN.rows:PN->Nat
 |.mk _ _ r _ _=>r
def PN.env:PN->Nat
 |.mk _ _ _ e _=>e
def PN.width:PN->Int
 |.mk _ _ _ _ w=>w
mutual
def oY(h:PH):PN->hU->Prop
 |.mk q args r e w,v=>cY h q v.query/\v.rows=(r:Int)/\v.env=(e:Int)/\v.width=w/\args.length<=1000/\∃c:List hU,cO h v.args 25 (c.map hU.enc)/\mC h args c
def mC(h:PH):List PN->List hU->Prop
 |[],d=>d=[]
 |p::ps,d=>∃v c,d=v::c/\oY h p v/\mC h ps c
end
mutual
theorem oY.mono{h h':PH}(le:PH.le h h'):∀{p:PN}{v:hU},oY h p v->oY h' p v
 |.mk ..,_,⟨c,d,e,f,g,j,n,o⟩=>⟨c.mono le,d,e,f,g,j,n.mono le,mC.mono le o⟩
theorem mC.mono{h h':PH}(le:PH.le h h'):∀{ps:List PN}{vs:List hU},mC h ps vs->mC h' ps vs
 |[],_,h=>h
 |_::_,_,⟨v,c,d,e,f⟩=>⟨v,c,d,oY.mono le e,mC.mono le f⟩
end
theorem mC.length{h:PH}:∀{ps:List PN}{vs:List hU},mC h ps vs->vs.length=ps.length
 |[],_,h=>by rw[show _=[]from h];rfl
 |_::_,_,⟨_,_,c,_,d⟩=>by rw[c];simp[mC.length d]
theorem mC.get{h:PH}:∀{ps:List PN}{vs:List hU},mC h ps vs->∀{i:Nat}{p:PN},ps[i]? =some p->∃v,vs[i]? =some v/\oY h p v
 |[],_,_,i,p,e=>by simp at e
 |p0::ps,_,⟨v,c,rfl,f,d⟩,0,p,e=>bo
 |p0::ps,_,⟨v,c,rfl,f,d⟩,i+1,p,e=>by simp at e;simpa using mC.get d e
theorem mC.snoc{h:PH}{p:PN}{v:hU}(x:oY h p v):∀{ps:List PN}{vs:List hU},mC h ps vs->mC h (ps++[p]) (vs++[v])
 |[],_,h=>by rw[show _=[]from h];exact⟨v,[],rfl,x,rfl⟩
 |_::_,_,⟨u,c,d,e,f⟩=>⟨u,c++[v],by rw[d];rfl,e,mC.snoc x f⟩
def B4(op:Int):=op==7||op==9||op==10
def FM(s:jC)(op ta:Int)(co:db)(ps:List PN):=
 if op=1 then((jR s ta).length:Int)else if op=3 then(co.length:Int)else
 if op=4 then(ps.map PN.width).getD 0 0+(ps.map PN.width).getD 1 0 else(ps.map PN.width).getD 0 0
def AV(op ta:Int)(w:Pred)(co:db)(on:dh)(gr:db)(od:di)(li:Int)(ks:dq):Step:=
 ⟨op,ta,w,co,on,gr,od,li,((ks.getD 0 0:Nat):Int),((ks.getD 1 0:Nat):Int)⟩
def auX(s:jC)(op ta:Int)(w:Pred)(co:db)(on:dh)(gr:db)(od:di)(li:Int)(args:dl)(ps:List PN)(ts:dn):PN×dn:=
 let a:=cC (AV op ta w co on gr od li (ps.map PN.rows)) ts
 if B4 op=true then(.mk (.mk op ta w co on gr od li args) ps a.2 ((ps.map PN.env).getD 0 0) (FM s op ta co ps),a.1)
 else
  let b:=cC (AV op ta w co on gr od li (ps.map PN.env)) a.1
  (.mk (.mk op ta w co on gr od li args) ps a.2 b.2 (FM s op ta co ps),b.1)
mutual
def fO(s:jC):Query->dn->PN×dn
 |.mk op ta w co on gr od li args,ts=>auX s op ta w co on gr od li args (eO s args ts).1 (eO s args ts).2
def eO(s:jC):dl->dn->List PN×dn
 |[],ts=>([],ts)
 |q::qs,ts=>((fO s q ts).1::(eO s qs (fO s q ts).2).1,(eO s qs (fO s q ts).2).2)
end
def dZ(l r:Int)(on:dh):Step:=⟨5,0,fN,[],on,[],[],0,l,r⟩
def cQ(l r:Int):Step:=⟨8,0,fN,[],[],[],[],0,l,r⟩
def oS(l:Int)(co:db):Step:=⟨3,0,fN,co,[],[],[],0,l,0⟩
def Qs(l r:Int)(gr:db)(od:di)(li:Int):Step:=⟨10,0,fN,[],[],gr,od,li,l,r⟩
def fZ(a n:Int):=(List.range n.toNat).map fun(i:Nat)=>a+(i:Int)
def mJ(co:db):=((List.range co.length).filter λi=>decide (co.idxOf (co.getD i 0)=i)).map λi=>(co.getD i 0,(i:Int))
def pP(on:dh):=on.map λp=>(p.2,p.1)
def rR(gr:db):=gr.map λc=>(c,c)
def B6(a:PN)(d:Int)(gr:db)(od:di)(li:Int)(ts:dn):=
 let x:=cC (dZ a.env d (rR gr)) ts
 cC (Qs x.2 a.rows gr od li) x.1
def AT(a n:Int):=(List.range n.toNat).map fun(i:Nat)=>(a+(i:Int),(i:Int))
def gA(p:PN)(d:Int)(ts:dn)(rs:db):dn×db:=
 match p with
 |.mk (.mk op _ _ co on gr od li _) args _ _ _=>
  match args with
  |[]=>if op=1 then(ts,rs++[d])else(ts,rs)
  |[a]=>
   if op=2 then gA a d ts rs
   else if op=3 then(let x:=cC (dZ a.env d (mJ co)) ts;gA a x.2 x.1 rs)
   else if op=9 then(let x:=B6 a d gr od li ts;gA a x.2 x.1 rs)
   else(ts,rs)
  |a::b::_=>
   if op=4 then
    let x:=cC (dZ d b.rows (AT a.width b.width)) ts
    let y:=cC (oS x.2 (fZ 0 a.width)) x.1
    let z:=gA a y.2 y.1 rs
    let u:=cC (oS d (fZ a.width b.width)) z.1
    gA b u.2 u.1 z.2
   else if op=5 then
    let x:=cC (dZ d b.rows on) ts
    let z:=gA a x.2 x.1 rs
    let y:=cC (dZ b.env d (pP on)) z.1
    gA b y.2 y.1 z.2
   else if op=6 then
    let x:=cC (cQ a.env d) ts
    let z:=gA a x.2 x.1 rs
    let y:=cC (cQ b.env d) z.1
    gA b y.2 y.1 z.2
   else if op=7\/op=8 then
    let z:=gA a d ts rs
    let x:=cC (cQ b.env d) z.1
    let y:=cC (cQ x.2 a.rows) x.1
    gA b y.2 y.1 z.2
   else if op=10 then
    let z:=gA a d ts rs
    let x:=B6 b d gr od li z.1
    gA b x.2 x.1 z.2
   else(ts,rs)
 termination_by SizeOf.sizeOf p
def azZ:Vc.Spec:=λc m h K=>∃l r:Int,∃o on d cb e ts rs,c=[cP cb,cI l,cI r,cS o]/\gS h o on/\on.length<=1000/\gO d m h cb e ts rs/\gX d/\ts.length<=100000/\
 ∀m' h',PH.le h h'->gO d m' h' cb e (cC (dZ l r on) ts).1 rs->K (cI (cC (dZ l r on) ts).2) m' h'
def aTJ:Vc.Spec:=λc m h K=>∃l r:Int,∃d cb e ts rs,c=[cP cb,cI l,cI r]/\gO d m h cb e ts rs/\gX d/\ts.length<=100000/\
 ∀m' h',PH.le h h'->gO d m' h' cb e (cC (cQ l r) ts).1 rs->K (cI (cC (cQ l r) ts).2) m' h'
def b4X:Vc.Spec:=λd m h K=>∃l:Int,∃c co e cb f ts rs,d=[cP cb,cI l,cS c]/\Ints h c co/\co.length<=1000/\gO e m h cb f ts rs/\gX e/\ts.length<=100000/\
 ∀m' h',PH.le h h'->gO e m' h' cb f (cC (oS l co) ts).1 rs->K (cI (cC (oS l co) ts).2) m' h'
def cHJ:Vc.Spec:=λc m h K=>∃a n:Int,c=[cI a,cI n]/\0<=a/\0<=n/\a<=1000/\n<=1000/\∀s h',PH.le h h'->Ints h' s (fZ a n)->K (cS s) m h'
def cHQ:Vc.Spec:=λc m h K=>∃s on,c=[cS s]/\gS h s on/\on.length<=1000/\∀s h',PH.le h h'->gS h' s (pP on)->K (cS s) m h'
def b8Q:Vc.Spec:=λc m h K=>∃s l x,∃i:Nat,c=[cS s,cI x]/\Ints h s l/\l[i]? =some x/\K (cI (l.idxOf x:Nat)) m h
def b9Q:Vc.Spec:=λc m h K=>∃s co,c=[cS s]/\Ints h s co/\co.length<=1000/\∀s h',PH.le h h'->gS h' s (mJ co)->K (cS s) m h'
def aPN(v:hU):CV:=.val (.agg ⟨v.enc⟩)
def b4Z:Vc.Spec:=λc m h K=>∃v p d f op ta w co on gr od li args e cb g ts rs,c=[cP cb,aPN v,cI d,aQ f]/\oY h p v/\cY h (.mk op ta w co on gr od li args) f/\gr.length<=1000/\od.length<=1000/\gO e m h cb g ts rs/\gX e/\ts.length<=99999/\
 ∀m' h',PH.le h h'->gO e m' h' cb g (B6 p d gr od li ts).1 rs->K (cI (B6 p d gr od li ts).2) m' h'
noncomputable def clX a n m h:=
 cZ [] [(3,{A:=Nat×db,st:=λ⟨i,l⟩=>bS 19 21 [(0,iv a),(5,.at (.lst 16)),(7,iv n),(8,iv i)] [(16,.lst 3 1 (l.map eI))] m h})] [] [] false
noncomputable def clQ s m h:=
 cZ [] [(3,{A:=Nat×dh,st:=λ⟨i,l⟩=>bS 22 23 [(3,.at (.lst 19)),(6,sv s),(7,iv s.len),(8,iv i)] [(19,.lst 130 2 (l.map pA))] m h})] [] [] false
noncomputable def bOJ s x m h:=
 cZ [] [(2,{A:=Nat,st:=λi=>bS 19 21 [(0,sv s),(1,iv x),(7,iv s.len),(8,iv i)] [] m h})] [] [] false
noncomputable def clZ s m h:=
 cZ [(144,b8Q)] [(3,{A:=Nat×dh,st:=λ⟨i,l⟩=>bS 26 27 [(0,sv s),(3,.at (.lst 23)),(6,sv s),(7,iv s.len),(8,iv i)] [(23,.lst 130 2 (l.map pA))] m h})] [] [] false
noncomputable def ckJ(v:hU)(c:QV)(cb:Nat)(d:Int)(m:MH)(h:PH):=
 cZ [(81,azZ),(40,U7)] [(3,{A:=Nat×dh,st:=λ⟨i,l⟩=>bS 43 47 [(0,pv cb),(2,iv d),(5,.at (.ptr 5 0)),(7,.at (.ptr 7 0)),(9,.at (.lst 24)),(13,sv c.group),(14,iv c.group.len),(15,iv i)] [(5,.cells 97 (v.enc.map .val)),(7,.cells 41 (c.enc.map .val)),(24,.lst 130 2 (l.map pA))] m h})] [] [] false
abbrev E9(a:dn->db->Prop):=∃(x:dn)(c:db),a x c
abbrev LQ(a:du)(b:Nat->du)(c d:Prop)(e:Nat->Option Obj)(g:PH)(i:MH->Nat->Nat->dn->db->Prop):=∃(x:MH),bF (λf n=>E9 (λj o=>aA (a=b f) c (aA d (gO x e g f n j o) (aA (gX x) (j.length<=100000) (i x f n j o)))))
abbrev Gg(a:du)(b:PH)(c:Nat->Option Obj)(d:Step->dn->MH->PH->Prop):=QL (λx e=>LQ a (λf=>aX (dM f) (pZ x)) (vN b e x) (OT e) c b (λf o u j y=>iG (λn g=>bY b g (gO f n g o u (cC e j).1 y) (d e j n g))))
attribute [push_cast] E9 LQ Gg
def XJ(cb:Nat)(l r:Int)(o:Sl)(m:MH)(h:PH)(K:da):=
  Gg (aX (dM cb) (qK (yQ 5 (uN rU (uM (gP o) (lE (eH l) (eH r))))))) h m (λt c d e=>K (fI (↑(cC t c).2:Int)) d e)
def XF(cb:Nat)(l r:Int)(m:MH)(h:PH)(K:da):=
  Gg (aX (dM cb) (qK (yQ 8 (uN rU (uM rU (lE (eH l) (eH r))))))) h m (λt c d e=>K (fI (↑(cC t c).2:Int)) d e)
def XH(cb:Nat)(l:Int)(c:Sl)(m:MH)(h:PH)(K:da):=
  Gg (aX (dM cb) (qK (yQ 3 (uN (gP c) (uM rU (lE (eH l) dD)))))) h m (λt d e f=>K (fI (↑(cC t d).2:Int)) e f)
def Rf a n m h K:=
  LL (λI x=>aA (I x) (iW a) (aA (eL 16) (iW n) (aA (bA x.1) (tN x.2) (aA (m=m) (h=h) True)))) (λI d x=>I x->aZ (↑x.1:Int) n (tT (fS x.2) 8 (∃(c:Nat×db),aA (I c) (d c<d x) (aA (iW a) (eL 16) (aA (iW n) (fU (bC x.1 1)=bP c.1) (aA (uZ x.2 (kE (a+(↑x.1:Int))) c.2) (m=m) (bQ h h)))))) (Gj h x.2 K m))
abbrev Py(a:(Nat×dh->Prop)->(Nat×dh)->Prop)(b:(Nat×dh->Prop)->(Nat×dh->Nat)->(Nat×dh)->Prop):=∃(x:Nat×dh->Prop)(d:Nat×dh->Nat),(∃(c:Nat×dh),a x c)/\∀(c:Nat×dh),b x d c
noncomputable abbrev nD(a:Nat×dh):=zG a.2
attribute [push_cast] Py nD
def XG(s:Sl)(m:MH)(h:PH)(K:da):=
  Py (λI x=>aA (I x) (eL 19) (aA (aJ s) (bG s) (aA (bA x.1) (oH 130 2 (bW 130 2 (nD x))) (aA (m=m) (h=h) True)))) (λI d x=>I x->aZ (↑x.1:Int) (aG s) (bF (λb o=>aH (aM s.a b o) (0<=(↑x.1:Int)) ((↑x.1:Int)<aG s) (∃(y:Int×Int),aA (aL m h b (bK o x.1 2) (u7 y)) rW (aA CG (cF 0) (aH CF (iK (mO (nD x) 1*16)) (mR (nD x)) (∃(c:Nat×dh),aA (I c) (d c<d x) (aA (eL 19) (aJ s) (aA (bG s) (fU (bC x.1 1)=bP c.1) (aA (bW 130 2 (iT (nD x) (lE (eH y.2) (eH y.1)))=bW 130 2 (nD c)) (m=m) (bQ h h)))))))))) (bN h 2 (nD x) (λe f=>K (cM e) m f)))
def NB(s:Sl)(x:Int)(m:MH)(h:PH)(K:da):=
  mP (λI c=>aA (I c) (aJ s) (aA (iW x) (bG s) (aH (bA c) (m=m) (h=h) True))) (λI e c=>I c->aZ (↑c:Int) (aG s) (bF (λb o=>aH (aM s.a b o) (0<=(↑c:Int)) ((↑c:Int)<aG s) (∃(y:Int),aL m h b (bK o c 1) (bM y)/\dO x y (K (fI (↑c:Int)) m h) (∃(d:Nat),aA (I d) (e d<e c) (aA (aJ s) (iW x) (aA (bG s) (fU (bC c 1)=bP d) (aA (m=m) (h=h) True))))))) (K (fI (Int.negSucc 0)) m h))
def XI(s:Sl)(m:MH)(h:PH)(K:da):=
  Py (λI x=>aA (I x) (aJ s) (aA (eL 23) (aJ s) (aA (bG s) (bA x.1) (aA (oH 130 2 (bW 130 2 (nD x))) (m=m) (bQ h h))))) (λI d x=>I x->aZ (↑x.1:Int) (aG s) (bF (λb o=>aH (aM s.a b o) (0<=(↑x.1:Int)) ((↑x.1:Int)<aG s) (∃(y:Int),aL m h b (bK o x.1 1) (bM y)/\sP (λe l=>∃(f:Int)(i:Nat),aH (cA (cM s) y=cA (cM e) f) (Ints h e l) (l[i]? =Option.some f) (dO (↑(idxOf f l):Int) (↑x.1:Int) (tT (nD x) 16 (∃(c:Nat×dh),aA (I c) (d c<d x) (aA (aJ s) (eL 23) (aA (aJ s) (bG s) (aA (fU (bC x.1 1)=bP c.1) (bW 130 2 (iT (nD x) (lE (eH y) (eH (↑x.1:Int))))=bW 130 2 (nD c)) (bO (m=m) h h)))))) (∃(c:Nat×dh),aA (I c) (d c<d x) (aA (aJ
 s) (eL 23) (aA (aJ s) (bG s) (aA (fU (bC x.1 1)=bP c.1) (CJ (nD x) (nD c)) (bO (m=m) h h)))))))))) (bN h 2 (nD x) (λe g=>K (cM e) m g)))
abbrev IJ(a:Nat)(b c:Int)(d:Sl)(e:PH)(g:Nat->Option Obj)(i:Int->Int->dh->MH->Nat->Nat->dn->db->Prop):=HQ (λx n=>AD (λo f=>LQ (iA a (fI b::aX (fI c) (cM d))) (λj=>iA j (fI x::aX (fI n) (cM o))) (gS e o f) (oV f.length) g e (λj u y z A=>i x n f j u y z A)))
noncomputable abbrev QO:=ByteArray.mk (Array.mk [])
noncomputable abbrev LV:=Pred.mk 0 0 (OV.mk 0 0 (VV.mk 0 0 QO)) (OV.mk 0 0 (VV.mk 0 0 QO)) []
noncomputable abbrev Ak a b c:=Step.mk 5 0 LV [] a [] [] 0 b c
attribute [push_cast] IJ QO LV Ak
def XE(cb:Nat)(v:hU)(d:Int)(e:QV)(m:MH)(h:PH)(K:da):=
  Py (λI x=>aA (I x) (dL cb) (aA (iW d) dU (aA (eP 7) (eL 24) (aA (aJ e.group) (bG e.group) (aA (bA x.1) (eQ (qO 97 v.enc)) (aA (cV e) (oH 130 2 (bW 130 2 (nD x))) (bO (m=m) h h))))))) (λI j x=>I x->aZ (↑x.1:Int) (aG e.group) (bF (λb o=>aH (aM e.group.a b o) (0<=(↑x.1:Int)) ((↑x.1:Int)<aG e.group) (∃(y:Int),aH (aL m h b (bK o x.1 1) (bM y)) (iK (mO (nD x) 1*16)) (mR (nD x)) (∃(f:Nat×dh),aA (I f) (j f<j x) (aA (dL cb) (iW d) (aA dU (eP 7) (aA (eL 24) (aJ e.group) (aA (bG e.group) (fU (bC x.1 1)=bP f.1) (aA (eQ (qO 97 v.enc)) (cV e) (aH (bW 130 2 (iT (nD x) (lE (eH y) (eH y)))=bW 130 2 (nD f)) (m=m) (h=h) True)))))))))) (bN h 2
 (nD x) (λs n=>IJ cb v.env d s n m (λl r o z c A t B=>iG (λu g=>bY n g (gO z u g c A (cC (Ak o l r) t).1 B) (Gg (aX (dM cb) (CV.val (Value.agg (Array.mk (yQ 10 (uN rU (aU rU (oE e) (aU (oF e) (y7 e) (lE (eH (↑(cC (Ak o l r) t).2:Int)) (eH v.rows)))))))))) g u (λC D E F=>K (fI (↑(cC C D).2:Int)) E F)))))))
theorem cdQ h:fJ h fN iO:=⟨rfl,rfl,rfl,rfl,bi,[],cO.nil _ _,rfl⟩
theorem Xm h:Ints h cG []:=⟨cO.nil _ _,bi⟩
theorem cQJ h:gS h cG []:=⟨cO.nil _ _,bi⟩
theorem cPZ h:jW h cG []:=⟨cO.nil _ _,bi⟩
theorem cdX:(tA fN).length<=1000000000:=by
 have c:=gZ [0,0];have d:=gZ [0];have g:=Bb 0;have f:D1 ⟨0,0,⟨0,0,⟨#[]⟩⟩⟩=i7 [0,0]++(i7 [0]++(nF 0++[32])++i7 [0]++[]):=rfl;have e:tA fN=i7 [0,0]++D1 ⟨0,0,⟨0,0,⟨#[]⟩⟩⟩++D1 ⟨0,0,⟨0,0,⟨#[]⟩⟩⟩++i7 [0]++[]:=rfl
 grind
theorem cUX{d l r o on m0}(e:gS h o on)(n:on.length<=1000)(c:gO m0 m h cb d ts rs)(f:gX m0)(g:ts.length<=100000)(j:∀m' h',PH.le h h'->gO m0 m' h' cb d (cC (dZ l r on) ts).1 rs->K (cI (cC (dZ l r on) ts).2) m' h'):XJ cb l r o m h K:=
 ⟨⟨5,0,iO,cG,o,cG,cG,0,l,r⟩,dZ l r on,m0,cb,d,ts,rs,rfl,⟨rfl,rfl,cdQ h,Xm h,e,Xm h,cPZ h,rfl,rfl,rfl⟩,⟨cdX,by simp[dZ],by simp[dZ];omega,by simp[dZ],by simp[dZ]⟩,c,f,g,j⟩
theorem cTZ{d l r m0}(c:gO m0 m h cb d ts rs)(e:gX m0)(f:ts.length<=100000)(g:∀m' h',PH.le h h'->gO m0 m' h' cb d (cC (cQ l r) ts).1 rs->K (cI (cC (cQ l r) ts).2) m' h'):XF cb l r m h K:=
 ⟨⟨8,0,iO,cG,cG,cG,cG,0,l,r⟩,cQ l r,m0,cb,d,ts,rs,rfl,⟨rfl,rfl,cdQ h,Xm h,cQJ h,Xm h,cPZ h,rfl,rfl,rfl⟩,⟨cdX,by simp[cQ],by simp[cQ],by simp[cQ],by simp[cQ]⟩,c,e,f,g⟩
theorem cUQ{d l s m0}(e:Ints h s co)(n:co.length<=1000)(c:gO m0 m h cb d ts rs)(f:gX m0)(g:ts.length<=100000)(j:∀m' h',PH.le h h'->gO m0 m' h' cb d (cC (oS l co) ts).1 rs->K (cI (cC (oS l co) ts).2) m' h'):XH cb l s m h K:=
 ⟨⟨3,0,iO,s,cG,cG,cG,0,l,0⟩,oS l co,m0,cb,d,ts,rs,rfl,⟨rfl,rfl,cdQ h,e,cQJ h,Xm h,cPZ h,rfl,rfl,rfl⟩,⟨cdX,by simp[oS];omega,by simp[oS],by simp[oS],by simp[oS]⟩,c,f,g,j⟩
theorem Tl:cz 81 azZ:=by
 refine gW func81 ?_;rintro d m h K ⟨l,r,o,on,u,cb,x,ts,rs,rfl,e,f,c,g,j,n⟩;refine⟨cZ [(40,U7)] [] [] [] false,rfl,aE FA aI,XJ cb l r o m h K,bh,?_⟩;exact cUX e f c g j n
theorem a8Q:cz 86 aTJ:=by
 refine gW func86 ?_;rintro d m h K ⟨l,r,j,cb,n,ts,rs,rfl,c,e,f,g⟩;refine⟨cZ [(40,U7)] [] [] [] false,rfl,aE FA aI,XF cb l r m h K,bh,?_⟩;exact cTZ c e f g
theorem a8J:cz 83 b4X:=by
 refine gW func83 ?_;rintro d m h K ⟨l,s,co,o,cb,u,ts,rs,rfl,e,f,c,g,j,n⟩;refine⟨cZ [(40,U7)] [] [] [] false,rfl,aE FA aI,XH cb l s m h K,bh,?_⟩;exact cUQ e f c g j n
theorem cTJ{a n}(x:0<=a)(y:0<=n)(d:a<=1000)(f:n<=1000)(g:∀s h',PH.le h h'->Ints h' s (fZ a n)->K (cS s) m h'):Rf a n m h K:=by
 dsimp only[Rf,push_cast];obtain⟨k,rfl⟩:∃k:Nat,n=k:=⟨n.toNat,aD⟩
 refine⟨λ⟨i,l⟩=>i<=k/\l=fZ a (i:Nat),λ⟨i,_⟩=>k-i,⟨(0,[]),⟨aD,rfl⟩,MT⟩,?_⟩;rintro⟨i,l⟩ ⟨z,rfl⟩;dsimp only;have c:(fZ a (i:Nat)).length=i:=by simp[fZ]
 refine aF (λj=>?_) (λo s h' le u=>?_)
 .refine⟨bo,bo,(i+1,fZ a ((i+1:Nat):Int)),⟨aD,rfl⟩,aD,?_⟩
  have e:fZ a ((i+1:Nat):Int)=fZ a (i:Nat)++[IntKind.i64.wrap (a+(i:Int))]:=by
   rw[eM aD aD];simp[fZ,range_succ]
  rw[e,cj];exact MT
 .have:i=k:=by omega
  subst this;exact g s h' le ⟨u,aD⟩
theorem a8Z:cz 84 cHJ:=by
 refine gW func84 ?_;rintro c m h K ⟨a,n,rfl,d,e,f,g,j⟩;refine⟨clX a n m h,rfl,aI,Rf a n m h K,bh,?_⟩;exact cTJ d e f g j
theorem a8X:cz 85 cHQ:=by
 refine gW func85 ?_;rintro u m h K ⟨s,on,rfl,f,A,y⟩;refine⟨clQ s m h,rfl,aI,XG s m h K,bh,?_⟩;dsimp only[XG,push_cast];have d:=f.slen;refine⟨λ⟨i,l⟩=>i<=on.length/\l=pP (on.take i),λ⟨i,_⟩=>on.length-i,⟨(0,[]),⟨aD,rfl⟩,MT⟩,?_⟩;rintro⟨i,l⟩ ⟨B,rfl⟩;dsimp only;have g:(pP (on.take i)).length=i:=by simp[pP];omega
 refine aF (λc=>?_) (λz s h' le j=>?_)
 .obtain⟨x,n⟩:=dW d c;obtain⟨b,o,e,r⟩:=f.at n;refine⟨b,o,e,aD,c,x,.imm r,aD,aD,aD,aD,bo,bo,(i+1,pP (on.take (i+1))),⟨aD,rfl⟩,aD,?_⟩;have e:pP (on.take (i+1))=pP (on.take i)++[(x.2,x.1)]:=by rw[cq,n];simp[pP]
  rw[e,cj];exact MT
 .rw[ci aD]at j;exact y s h' le ⟨j,bo⟩
theorem bCQ{x}(d:l[i]? =some x)(c:∀j y,j<i->l[j]? =some y->x≠y):l.idxOf x=i:=by
 induction l generalizing i with
 |nil=>simp at d
 |cons a l e=>
  cases i with
  |zero=>grind
  |succ i=>
   have f:=c 0 a aD rfl
   grind
theorem cAQ{s x}{d:Nat}(g:Ints h s l)(C:l[d]? =some x)(A:K (cI (l.idxOf x:Nat)) m h):NB s x m h K:=by
 dsimp only[NB,push_cast];have n:=g.slen;have D:=g.len;have G:=(bz C);refine⟨λi=>i<=d/\∀j y,j<i->l[j]? =some y->x≠y,λi=>d-i,⟨0,⟨aD,λj y E=>by omega⟩,MT⟩,?_⟩;rintro i ⟨H,u⟩;refine aF (λc=>?_) (λF=>by omega);obtain⟨y,B⟩:=dW n c;obtain⟨b,o,e,r⟩:=g.at' B;refine⟨b,o,e,aD,c,y,.imm r,aC (λf=>?_) (λf=>?_)⟩
 .have f:x=y:=bo
  subst f;rw[bCQ B u]at A;exact A
 .have f:x≠y:=bo
  have:i≠d:=λe=>bo
  refine⟨i+1,⟨aD,λj z E I=>?_⟩,bo,MT⟩
  grind
theorem aoZ:cz 144 b8Q:=by
 refine gW func144 ?_;rintro c m h K ⟨s,l,x,i,rfl,d,e,f⟩;refine⟨bOJ s x m h,rfl,aI,NB s x m h K,bh,?_⟩;exact cAQ d e f
def G2(co:db)(i:Nat):=((List.range i).filter λi=>decide (co.idxOf (co.getD i 0)=i)).map λi=>(co.getD i 0,(i:Int))
theorem Q9 co i:(G2 co i).length<=i:=by
 have:=length_filter_le (λi=>decide (co.idxOf (co.getD i 0)=i)) (List.range i);simp[G2]at this⊢;omega
theorem a9Q:cz 82 b9Q:=by
 refine gW func82 ?_;rintro u m h K ⟨s,co,rfl,f,B,y⟩;refine⟨clZ s m h,rfl,aE aoZ aI,XI s m h K,bh,?_⟩;dsimp only[XI,push_cast];have g:=f.slen;refine⟨λ⟨i,l⟩=>i<=co.length/\l=G2 co i,λ⟨i,_⟩=>co.length-i,⟨(0,[]),⟨aD,rfl⟩,MT⟩,?_⟩;rintro⟨i,l⟩ ⟨C,rfl⟩;dsimp only;have n:=Q9 co i;refine aF (λc=>?_) (λz s h' le A=>?_)
 .obtain⟨x,j⟩:=dW g c;obtain⟨b,o,e,r⟩:=f.at' j;have D:co.getD i 0=x:=by simp[j]
  have step:G2 co (i+1)=G2 co i++(if co.idxOf x=i then[(x,(i:Int))]else[]):=by
   simp only[G2,range_succ,filter_append,cj]
   grind
  refine⟨b,o,e,aD,c,x,.imm r,s,co,x,i,rfl,f,j,aC (λd=>⟨bo,bo,(i+1,G2 co (i+1)),⟨aD,rfl⟩,aD,?_⟩) (λd=>⟨(i+1,G2 co (i+1)),⟨aD,rfl⟩,aD,?_⟩)⟩
  .have d:co.idxOf x=i:=bo
   rw[step,if_pos d,cj];exact MT
  .have d:co.idxOf x≠i:=λe=>bo
   rw[step,if_neg d,append_nil];exact MT
 .have:i=co.length:=by omega
  subst this;exact y s h' le ⟨A,by show(G2 co co.length).length<=_;omega⟩
theorem a7J:cz 87 b4Z:=by
 refine gW func87 ?_;rintro M m h K ⟨v,p,d,g,op,ta,w,co,on,gr,od,li,args,F,cb,G,ts,rs,rfl,O,P,W,Q,c,H,X,R⟩;refine⟨ckJ v g cb d m h,rfl,aE Tl (aE FA aI),XE cb v d g m h K,bh,?_⟩;dsimp only[XE,push_cast];have x:=P.parts;have A:=x.group_.slen;refine⟨λ⟨i,l⟩=>i<=gr.length/\l=rR (gr.take i),λ⟨i,_⟩=>gr.length-i,⟨(0,[]),⟨aD,rfl⟩,MT⟩,?_⟩;rintro⟨i,l⟩ ⟨Y,rfl⟩;dsimp only;have I:(rR (gr.take i)).length=i:=by simp[rR];omega
 refine aF (λj=>?_) (λS s Z n J=>?_)
 .obtain⟨y,L⟩:=dW A j;obtain⟨b,o,e,r⟩:=x.group_.at' L;refine⟨b,o,e,aD,j,y,.imm r,bo,bo,(i+1,rR (gr.take (i+1))),⟨aD,rfl⟩,aD,?_⟩;have e:rR (gr.take (i+1))=rR (gr.take i)++[(y,y)]:=by rw[cq,L];simp[rR]
  rw[e,cj];exact MT
 .rw[ci aD]at J;obtain⟨q,pa,B,z,wd⟩:=p;obtain⟨_,f,u,_⟩:=O;rw[u,f];have T:(rR gr).length<=1000:=bo
  have hx:=eA (dZ (z:Int) d (rR gr)) ts;refine⟨(z:Int),d,s,rR gr,F,cb,G,ts,rs,rfl,⟨J,aD⟩,T,c.mono n,H,aD,λm1 C D U=>?_⟩;have le:=n.trans D;exact⟨⟨10,0,iO,cG,cG,g.group,g.order,g.limit,_,_⟩,Qs (cC (dZ (z:Int) d (rR gr)) ts).2 B gr od li,F,cb,G,_,rs,rfl,⟨rfl,rfl,cdQ C,Xm C,cQJ C,x.group_.mono le,x.order_.mono le,x.limit_,rfl,rfl⟩,⟨cdX,by simp[Qs],by simp[Qs],by simp[Qs];omega,by simp[Qs];omega⟩,U,H,by show(cC (dZ (z:Int) d (rR gr)) ts).1.length<=100000;omega,λm' h' E V=>R m' h' (le.trans E) V⟩
def b3Z:Vc.Spec:=λc m h K=>∃op,c=[cI op]/\K (cB (B4 op)) m h
def aSQ:Vc.Spec:=λc m h K=>∃v s op ta w co on gr od li args,∃ks:dq,c=[aQ v,cS s]/\cY h (.mk op ta w co on gr od li args) v/\Ints h s (ks.map fun(k:Nat)=>(k:Int))/\∀d,vN h (AV op ta w co on gr od li ks) d->K (aT d) m h
def bZJ:Vc.Spec:=λc m h K=>∃sc v s op ta w co on gr od li args ps d,c=[aS sc,aPN v]/\iC h s sc/\nY s/\cY h (.mk op ta w co on gr od li args) v.query/\cO h v.args 25 (d.map hU.enc)/\mC h ps d/\((ps.length:Int)=arity op)/\0<=arity op/\(∀p∈ps,0<=p.width/\p.width<=1000)/\K (cI (FM s op ta co ps)) m h
def X1(op:Int)(m:MH)(h:PH)(K:da):=
  cW (op==7) (K fM m h) (op==9) (K fM m h) (K (yF (op==10)) m h)
def X2(v:QV)(s:Sl)(m:MH)(h:PH)(K:da):=
  qE (decide (aG s>0)) (bF (λb o=>aH (aM s.a b o) ((0:Int)<=0) (0<aG s) (∃(y:Int),aL m h b (o+0) (bM y)/\fX (aG s) 1 (bF (λc d=>aH (aM s.a c d) ((0:Int)<=1) (1<aG s) (∃(e:Int),aL m h c (d+1) (bM e)/\K (yJ v v (yO v (aU (gP v.on) (oE v) (aU (oF v) (y7 v) (lE (eH y) (eH e)))))) m h))) (K (yJ v v (yO v (aU (gP v.on) (oE v) (aU (oF v) (y7 v) (lE (eH y) dD))))) m h)))) (aG s) 1 (bF (λb o=>aH (aM s.a b o) ((0:Int)<=1) (1<aG s) (∃(y:Int),aL m h b (o+1) (bM y)/\K (yJ v v (yO v (aU (gP v.on) (oE v) (aU (oF v) (y7 v) (lE dD (eH y)))))) m h))) (K (yJ v v (yO v (aU (gP v.on) (oE v) (aU (oF v) (y7 v) (lE dD dD))))) m h)
noncomputable abbrev vJ(a:hU):=a.query.op
abbrev GC(a:hU)(b:Int)(c:Nat->Nat->Int->Prop):=bF (λx d=>aH (aM a.args.a x d) (0<=b) (b<aG a.args) (∃(e:Int),c x d e))
attribute [push_cast] vJ GC
def Rl(sc:cK)(v:hU)(m:MH)(h:PH)(K:da):=
  cW (vJ v==1) (CK (cA (cL sc) v.query.table) h (λs d=>K (fI (aG s)) m d)) (vJ v==3) (K (fI (aG v.query.columns)) m h) (dO (vJ v) 4 (GC v 0 (λb o y=>aL m h b (o+0+24) (bM y)/\GC v 1 (λe f c=>aL m h e (f+25+24) (bM c)/\K (fI (kE (y+c))) m h))) (GC v 0 (λb o y=>aL m h b (o+0+24) (bM y)/\K (fI y) m h)))
theorem Tq:cz 42 b3Z:=by
 refine gW func42 ?_;rintro f m h K ⟨op,rfl,c⟩;refine⟨cZ [] [] [] [] false,rfl,aI,X1 op m h K,bh,?_⟩;dsimp only[X1,push_cast];unfold B4 at c;refine aC (λd=>?_) (λd=>aC (λe=>?_) (λe=>?_))
 .rw[d]at c;exact c
 .rw[d,e]at c;exact c
 .rw[d,e]at c;exact c
theorem beQ:cz 41 aSQ:=by
 refine gW func41 ?_;rintro g m h K ⟨v,s,op,ta,w,co,on,gr,od,li,args,ks,rfl,j,c,n⟩;refine⟨cZ [] [] [] [] false,rfl,aI,X2 v s m h K,bh,?_⟩;dsimp only[X2,push_cast];have x:=j.parts;have d:=c.slen;rw[length_map]at d;have key:∀l r:Int,l=((ks.getD 0 0:Nat):Int)->r=((ks.getD 1 0:Nat):Int)->K (aT ⟨v.op,v.table,v.where_,v.columns,v.on,v.group,v.order,v.limit,l,r⟩) m h:=λl r u y=>n _ ⟨x.op_,x.table_,x.where_,x.columns_,x.on_,x.group_,x.order_,x.limit_,u,y⟩;have get:∀i,i<ks.length->(ks.map fun(k:Nat)=>(k:Int))[i]? =some ((ks.getD i 0:Nat):Int):=λi z=>by simp[z]
 refine aF (λA=>?_) (λA=>aF (λf=>by omega) (λf=>?_))
 .obtain⟨b,o,e,r⟩:=c.at (get 0 aD);refine⟨b,o,e,aD,aD,_,.imm r,aF (λf=>?_) (λf=>?_)⟩
  .obtain⟨b,o,e,r⟩:=c.at (get 1 aD);exact⟨b,o,e,aD,aD,_,.imm r,key _ _ rfl rfl⟩
  .exact key _ 0 rfl bo
 .exact key 0 0 bo bo
theorem cGQ{s vs ps}(c:cO h s 25 (vs.map hU.enc))(d:mC h ps vs){p}(f:ps[i]? =some p):∃b o v,s.a=some ⟨b,o,none⟩/\bU h b (o+i*25) (hU.enc v)/\oY h p v:=by
 obtain⟨v,g,j⟩:=d.get f;obtain⟨b,o,e,k⟩:=c.get (i:=i) (e:=hU.enc v) (by simp[g])
 grind
theorem Pe{o v}(r:bU h b o (hU.enc v)):bU h b (o+21) [.slice v.args.a v.args.len v.args.cap]/\bU h b (o+22) [eH v.rows]/\bU h b (o+23) [eH v.env]/\bU h b (o+24) [eH v.width]:=by
 refine⟨⟨λj x e=>?_⟩,⟨λj x e=>?_⟩,⟨λj x e=>?_⟩,⟨λj x e=>?_⟩⟩<;>
  (have c:j=0:=(by have:=(bz e);simpa using this)
   subst c;simp at e;subst e)
 .exact r.rd 21 _ rfl
 .exact r.rd 22 _ rfl
 .exact r.rd 23 _ rfl
 .exact r.rd 24 _ rfl
theorem oY.width_{p v}(x:oY h p v):v.width=p.width:=by
 cases p;exact x.2.2.2.1
theorem oY.rows_{p v}(x:oY h p v):v.rows=p.rows:=by
 cases p;exact x.2.1
theorem oY.env_{p v}(x:oY h p v):v.env=p.env:=by
 cases p;exact x.2.2.1
theorem beX:cz 39 bZJ:=by
 refine Hr func39 ?_;rintro E m h K ⟨sc,v,s,op,ta,w,co,on,gr,od,li,args,ps,R,rfl,F,G,H,B,C,n,y,D,d⟩;refine⟨cZ [(69,yG)] [] [] [] false,rfl,aE Jo aI,Rl sc v m h (mK h K),bh,?_⟩;show Rl sc v m h (mK h K);dsimp only[Rl,push_cast];have x:=H.parts;have I:=x.op_;have J:v.args.len=ps.length:=by have:=B.len;rw[length_map,C.length]at this;exact this
 have one:op≠1->1<=ps.length:=λc=>by
  unfold arity at n y
  grind
 unfold FM at d;show branch (v.query.op==1) _ _;rw[I,x.table_]
 have get:∀(i:Nat)(j:i<ps.length),∃b o,v.args.a=some ⟨b,o,none⟩/\bU h b (o+i*25+24) [eH ((ps.map PN.width).getD i 0)]:=λi j=>by
  obtain⟨b,o,u,e,r,L⟩:=cGQ B C (cd j);have M:=(Pe r).2.2.2;rw[L.width_]at M
  grind
 refine aC (λc=>?_) (λc=>aC (λf=>?_) (λf=>aC (λg=>?_) (λg=>?_)))
 .have c:op=1:=bo
  rw[if_pos c]at d;exact⟨sc,s,ta,rfl,F,G,λS h' le j=>.out (Sub.refl m) le (by rw[j.slen];exact d)⟩
 .have c:op≠1:=bo
  have f:op=3:=bo
  rw[if_neg c,if_pos f]at d;exact .here (by rw[x.columns_.slen];exact d)
 .have c:op≠1:=bo
  have f:op≠3:=bo
  have g:op=4:=bo
  rw[if_neg c,if_neg f,if_pos g]at d;have n:(ps.length:Int)=2:=by rw[n,g];rfl
  have z:0<ps.length:=by omega
  have A:1<ps.length:=by omega
  obtain⟨b,o,e,r⟩:=get 0 z;obtain⟨O,P,Q,T⟩:=get 1 A;have U:=D ps[0] (getElem_mem z);have V:=D ps[1] (getElem_mem A);have W:(ps.map PN.width).getD 0 0=ps[0].width:=by simp[z]
  have X:(ps.map PN.width).getD 1 0=ps[1].width:=by simp[A]
  refine⟨b,o,e,aD,aD,(ps.map PN.width).getD 0 0,.imm (bx r),O,P,Q,aD,aD,(ps.map PN.width).getD 1 0,.imm aD,.here ?_⟩;rw[eM aD aD];exact d
 .have c:op≠1:=bo
  have f:op≠3:=bo
  have g:op≠4:=bo
  rw[if_neg c,if_neg f,if_neg g]at d;have:=one c;obtain⟨b,o,e,r⟩:=get 0 aD;exact⟨b,o,e,aD,aD,_,.imm (bx r),.here d⟩
mutual
def kU:PN->Nat
 |.mk _ args _ _ _=>1+sY args
def sY:List PN->Nat
 |[]=>0
 |p::ps=>kU p+sY ps
end
def JJ(p:PN):Prop:=
 match p with
 |.mk (.mk op _ _ co on gr od _ _) args _ _ c=>(args.length:Int)=arity op/\0<=c/\c<=500/\co.length<=1000/\on.length<=1000/\gr.length<=1000/\od.length<=1000/\∀a∈args,JJ a
 termination_by SizeOf.sizeOf p
def c6Q(N:Nat):Vc.Spec:=λc m h K=>∃v p d e cb f ts rs,c=[cP cb,aPN v,cI d]/\oY h p v/\SizeOf.sizeOf p<N/\JJ p/\gO e m h cb f ts rs/\gX e/\ts.length+5*kU p<=90000/\rs.length+kU p<=90000/\
 ∀m' h',PH.le h h'->gO e m' h' cb f (gA p d ts rs).1 (gA p d ts rs).2->K (.tup []) m' h'
noncomputable def csQ(N cb:Nat)(d:Int)(v:hU)(m:MH)(h:PH):=
 vO [(43,c6Q N),(81,azZ),(82,b9Q),(83,b4X),(84,cHJ),(85,cHQ),(86,aTJ),(87,b4Z)] [(13,{A:=Nat×dh×hU×hU,st:=λ⟨i,l,a,b⟩=>bS 236 239 [(0,pv cb),(2,iv d),(7,.at (.ptr 7 0)),(8,.at (.ptr 8 0)),(9,.at (.lst 82)),(70,iv b.width),(71,iv i)] [(7,.cells 97 (a.enc.map .val)),(8,.cells 97 (b.enc.map .val)),(82,.lst 130 2 (l.map pA))] m h})] [(11,{A:=hU×hU,st:=λ⟨a,b⟩=>bS 236 239 [(0,pv cb),(2,iv d),(7,.at (.ptr 7 0)),(8,.at (.ptr 8 0))] [(7,.cells 97 (a.enc.map .val)),(8,.cells 97 (b.enc.map .val))] m h}),
  (18,{A:=hU×hU×MH×PH,st:=λ⟨a,b,m,h⟩=>bS 236 239 [(0,pv cb),(2,iv d),(7,.at (.ptr 7 0)),(8,.at (.ptr 8 0))] [(7,.cells 97 (a.enc.map .val)),(8,.cells 97 (b.enc.map .val))] m h}),
  (21,{A:=hU×hU,st:=λ⟨a,b⟩=>bS 236 239 [(0,pv cb),(2,iv d),(6,.at (.ptr 6 0)),(11,.at (.ptr 11 0)),(12,.at (.ptr 12 0))] [(6,.cells 41 (v.query.enc.map .val)),(11,.cells 97 (a.enc.map .val)),(12,.cells 97 (b.enc.map .val))] m h}),
  (22,{A:=hU×hU×MH×PH,st:=λ⟨a,b,m,h⟩=>bS 236 239 [(0,pv cb),(2,iv d),(6,.at (.ptr 6 0)),(12,.at (.ptr 12 0))] [(6,.cells 41 (v.query.enc.map .val)),(12,.cells 97 (b.enc.map .val))] m h}),
  (25,{A:=MH×PH,st:=λ⟨m,h⟩=>bS 236 239 [(0,pv cb),(2,iv d),(4,.at (.ptr 4 0))] [(4,.cells 97 (v.enc.map .val))] m h}),
  (29,{A:=hU×hU,st:=λ⟨a,b⟩=>bS 236 239 [(0,pv cb),(2,iv d),(13,.at (.ptr 13 0)),(14,.at (.ptr 14 0))] [(13,.cells 97 (a.enc.map .val)),(14,.cells 97 (b.enc.map .val))] m h}),
  (30,{A:=hU×hU×MH×PH,st:=λ⟨a,b,m,h⟩=>bS 236 239 [(0,pv cb),(2,iv d),(13,.at (.ptr 13 0)),(14,.at (.ptr 14 0))] [(13,.cells 97 (a.enc.map .val)),(14,.cells 97 (b.enc.map .val))] m h}),
  (35,{A:=MH×PH,st:=λ⟨m,h⟩=>bS 236 239 [(0,pv cb),(2,iv d),(4,.at (.ptr 4 0)),(6,.at (.ptr 6 0))] [(4,.cells 97 (v.enc.map .val)),(6,.cells 41 (v.query.enc.map .val))] m h})] [] [1036] [] false
abbrev pF(a:hU)(b c:Int)(d:Nat->Nat->hU->Prop):=bF (λx e=>aH (aM a.args.a x e) (b<=c) (c<aG a.args) (∃(f:hU),d x e f))
noncomputable abbrev oC(a:hU):=qK a.enc
abbrev rX(a:du)(b:hU)(c:PH)(d:Nat)(e:MH)(g:Nat)(i:PN->Int->MH->Nat->Nat->dn->db->Prop):=∃(x:PN)(u:Int)(f:MH),bF (λj y=>E9 (λn o=>aA (a=dM j::cA (oC b) u) (oY c x b) (aA (SizeOf.sizeOf x<d) (JJ x) (aA (gO f e c j y n o) (gX f) (aA (n.length+g*kU x<=90000) (o.length+kU x<=90000) (i x u f j y n o))))))
noncomputable abbrev wP a b:=CV.val (eH (↑(cC a b).2:Int))
abbrev lT(a b:hU):=qO 97 a.enc=qO 97 b.enc
noncomputable abbrev qT(a:Nat×dh×hU×hU):=a.2.2
abbrev Lf(a:Prop)(b:hU×hU×MH×PH->Prop)(c:(hU×hU×MH×PH)->Prop):=a/\∀(x:hU×hU×MH×PH),b x->c x
noncomputable abbrev LK a b c d:=Step.mk a b LV c [] [] [] b d b
noncomputable abbrev BP(a:hU×hU×MH×PH):=a.2.2.2
abbrev PE(a:du)(b:Nat->Option Obj)(c:Nat->Nat->Option Value)(d:Int->Int->MH->Nat->Nat->dn->db->Prop):=HQ (λx j=>∃(e:MH),bF (λf n=>E9 (λg o=>aA (a=dM f::cA (fI x) j) (gO e b c f n g o) (aA (gX e) (g.length<=100000) (d x j e f n g o)))))
noncomputable abbrev Br a b:=Step.mk 8 0 LV [] [] [] [] 0 a b
abbrev Le(a:Nat)(b c:Int)(d:Nat->Option Obj)(e:Nat->Nat->Option Value)(g:Int->Int->dn->MH->PH->Prop):=PE (dM a::cA (fI b) c) d e (λx j u y z n A=>iG (λo f=>bY e f (gO u o f y z (cC (Br x j) n).1 A) (g x j n o f)))
attribute [push_cast] pF oC rX wP lT qT Lf LK BP PE Br Le
def X0 N cb v d m h K:=
  cW (vJ v==1) (kW m h cb 1 (λy=>∃(x:List dc),aH (fA m (Sl.mk y.a y.len y.cap) 3 1 x) (iK (mO x 1*8)) (mR x) (qC (λs E=>kK m E (Sl.mk y.a y.len y.cap) s 3 1 (iT x (bM d))->uY E cb 1 (bH s) (λF=>A8 K F h))))) (vJ v==2) (pF v 0 0 (λb o y=>aL m h b (o+0) y.enc/\∃(G:hU),rX (dM cb::cA (oC y) d) G h N m 5 (λp B E c F t r=>iG (λC e=>bY h e (gO E C e c F (gA p B t r).1 (gA p B t r).2) (A8 K C e))))) (cW (vJ v==3) (pF v 0 0 (λb o y=>aL m h b (o+0) y.enc/\GC v 0 (λA u j=>aH (aL m h A (u+0+23) (bM j)) (dN h b o 0 y.enc) (dN h A (u+0) 23 (bM j)) (sP (λs c=>aH (gK v.query.columns=gK s) (Ints h s c) (gC c) (fB (λX e=>
 bY h e (gS e X (mJ c)) (dN e b o 0 y.enc/\IJ cb j d X e m (λl r Z E L F t H=>iG (λC z=>bY e z (gO E C z L F (cC (Ak Z l r) t).1 H) (dN z A (u+0) 23 (bM j)/\∃(G:hU),rX (dM cb::aX (oC y) (wP (Ak Z l r) t)) G z N C 5 (λp B J R Q D S=>iG (λO M=>bY z M (gO J O M R Q (gA p B D S).1 (gA p B D S).2) (A8 K O M)))))))))))))) (vJ v==4) (∃(I:hU×hU->Prop),pF v 0 0 (λb o y=>aL m h b (o+0) y.enc/\pF v 0 1 (λA u j=>aA (aL m h A (u+25) j.enc) (aA (aL m h b (o+0) y.enc) (aL m h A (u+25) j.enc) (aA (aL m h b (o+0) y.enc) (aL m h A (u+25) j.enc) (dN h A u 25 j.enc/\∃(x:hU×hU),aA (I x) (dL cb) (aA (iW d) (eP 7) (aA fP (lT
 y x.1) (aA (lT j x.2) (m=m) (bQ h h))))))) (aA (aL m h b (o+0) y.enc) (aL m h A (u+25) j.enc) (aH (aL m h b (o+0) y.enc) (aL m h A (u+25) j.enc) (dN h A u 25 j.enc) (∃(x:hU×hU),aA (I x) (dL cb) (aA (iW d) (eP 7) (aA fP (lT y x.1) (aA (lT j x.2) (m=m) (bQ h h)))))))))/\∀(x:hU×hU),I x->∃(I1:Nat×dh×hU×hU->Prop)(E:Nat×dh×hU×hU->Nat),(∃(f:Nat×dh×hU×hU),aA (I1 f) (dL cb) (aA (iW d) (eP 7) (aA fP (eL 82) (aA (dV x.2.width (qT f).2.width) (bA f.1) (aA (lT x.1 (qT f).1) (lT x.2 (qT f).2) (aA (oH 130 2 (bW 130 2 (zG f.2.1))) (m=m) (bQ h h)))))))/\∀(f:Nat×dh×hU×hU),I1 f->aZ (↑f.1:Int) (qT f).2.width
 (tT (zG f.2.1) 16 (∃(P:Nat×dh×hU×hU),aA (I1 P) (E P<E f) (aA (dL cb) (iW d) (aA (eP 7) fP (aA (eL 82) (dV (qT f).2.width (qT P).2.width) (aA (fU (bC f.1 1)=bP P.1) (lT (qT f).1 (qT P).1) (aA (lT (qT f).2 (qT P).2) (bW 130 2 (iT (zG f.2.1) (lE (eH (kE ((qT f).1.width+(↑f.1:Int)))) (eH (↑f.1:Int))))=bW 130 2 (zG P.2.1)) (bO (m=m) h h)))))))) (∃(I2:hU×hU×MH×PH->Prop),Lf (bN h 2 (zG f.2.1) (λs e=>IJ cb d (qT f).2.rows s e m (λl r o F c C t H=>iG (λJ z=>bY e z (gO F J z c C (cC (Ak o l r) t).1 H) (HQ (λa n=>aA (cA (fI 0) (qT f).1.width=cA (fI a) n) (cF a) (aA (cF n) (a<=1000) (n<=1000/\fB (fun
 X M=>bY z M (Ints M X (fZ a n)) (∃(V:Int),sP (λL R=>LQ (dM cb::aX (wP (Ak o l r) t) (cM X)) (λc3=>dM c3::aX (fI V) (cM L)) (Ints M L R) (gC R) J M (λQ c3 O D S=>iG (λU h4=>bY M h4 (gO Q U h4 c3 O (cC (LK 3 0 R V) D).1 S) (∃(G:hU),rX (dM cb::aX (oC (qT f).1) (wP (LK 3 0 R V) D)) G h4 N U 5 (λp B m8 c4 m9 T Y=>iG (λa1 h5=>bY h4 h5 (gO m8 a1 h5 c4 m9 (gA p B T Y).1 (gA p B T Y).2) (∃(P:hU×hU×MH×PH),aA (I2 P) (dL cb) (aA (iW d) (eP 7) (aA fP (lT (qT f).1 P.1) (aA (lT (qT f).2 P.2.1) (cN a1 P.2.2) (bQ h5 (BP P)))))))))))))))))))))) I2 (λP=>HQ (λa n=>aA (cA (fI P.1.width) P.2.1.width=cA (fI a) n)
 (cF a) (aA (cF n) (a<=1000) (n<=1000/\fB (λs e=>bY (BP P) e (Ints e s (fZ a n)) (∃(l:Int),sP (λc L=>LQ (dM cb::aX (fI d) (cM s)) (λR=>dM R::aX (fI l) (cM c)) (Ints e c L) (gC L) P.2.2.1 e (λF R C t r=>iG (λJ z=>bY e z (gO F J z R C (cC (LK 3 0 L l) t).1 r) (∃(G:hU),rX (dM cb::aX (oC P.2.1) (wP (LK 3 0 L l) t)) G z N J 5 (λp B Q c3 O D H=>iG (λU M=>bY z M (gO Q U M c3 O (gA p B D H).1 (gA p B D H).2) (A8 K U M))))))))))))))) (cW (vJ v==5) (∃(I:hU×hU->Prop),pF v 0 0 (λb o y=>aL m h b (o+0) y.enc/\pF v 0 1 (λA u j=>aA (aL m h A (u+25) j.enc) (aA (aL m h b (o+0) y.enc) (aL m h A (u+25) j.enc) (aA (aL m h
 b (o+0) y.enc) (aL m h A (u+25) j.enc) (dN h A u 25 j.enc/\∃(x:hU×hU),aA (I x) (dL cb) (aA (iW d) (eP 6) (aA (eP 11) (eP 12) (aA (cV v.query) (lT y x.1) (aH (lT j x.2) (m=m) (h=h) True))))))) (aA (aL m h b (o+0) y.enc) (aL m h A (u+25) j.enc) (aH (aL m h b (o+0) y.enc) (aL m h A (u+25) j.enc) (dN h A u 25 j.enc) (∃(x:hU×hU),aA (I x) (dL cb) (aA (iW d) (eP 6) (aA (eP 11) (eP 12) (aA (cV v.query) (lT y x.1) (aH (lT j x.2) (m=m) (h=h) True)))))))))/\∀(x:hU×hU),I x->∃(I1:hU×hU×MH×PH->Prop),Lf (IJ cb d x.2.rows v.query.on h m (λl r o E c F t H=>iG (λC e=>bY h e (gO E C e c F (cC (Ak o l r) t).1 H) (∃(G:hU),rX (dM cb::aX (oC x.1) (wP (Ak o l r) t)) G
 e N C 5 (λp B J L Q D S=>iG (λO z=>bY e z (gO J O z L Q (gA p B D S).1 (gA p B D S).2) (∃(f:hU×hU×MH×PH),aA (I1 f) (dL cb) (aA (iW d) (eP 6) (aA (eP 12) (cV v.query) (aA (lT x.2 f.2.1) (cN O f.2.2) (bQ z (BP f)))))))))))) I1 (λf=>AD (λs o=>aH (gK v.query.on=gK s) (gS (BP f) s o) (oV o.length) (fB (λX e=>bY (BP f) e (gS e X (pP o)) (IJ cb f.2.1.env d X e f.2.2.1 (λl r u E c F t H=>iG (λC z=>bY e z (gO E C z c F (cC (Ak u l r) t).1 H) (∃(G:hU),rX (dM cb::aX (oC f.2.1) (wP (Ak u l r) t)) G z N C 5 (λp B J L Q D S=>iG (λO M=>bY z M (gO J O M L Q (gA p B D S).1 (gA p B D S).2) (A8 K O
 M)))))))))))) (vJ v==6) (∃(I:MH×PH->Prop),pF v 0 0 (λb o y=>aL m h b (o+0) y.enc/\GC v 0 (λA u j=>aA (aL m h A (u+0+23) (bM j)) (dN h b o 0 y.enc) (Le cb j d m h (λl r t E e=>dN e A (u+0) 23 (bM j)/\∃(G:hU),rX (dM cb::aX (oC y) (wP (Br l r) t)) G e N E 5 (λp B F c C D H=>iG (λJ z=>bY e z (gO F J z c C (gA p B D H).1 (gA p B D H).2) (∃(x:MH×PH),aA (I x) (dL cb) (aA (iW d) iL (aH (eQ (qO 97 v.enc)) (cN J x) (z=x.2) True)))))))))/\∀(x:MH×PH),I x->pF v 0 1 (λb o y=>aL x.1 x.2 b (o+25) y.enc/\GC v 1 (λA u j=>aA (aL x.1 x.2 A (u+25+23) (bM j)) (dN x.2 b o 25 y.enc) (Le cb j d x.1 x.2 (λl r t E e=>dN e A (u+25) 23
 (bM j)/\∃(G:hU),rX (dM cb::aX (oC y) (wP (Br l r) t)) G e N E 5 (λp B F c C D H=>iG (λJ z=>bY e z (gO F J z c C (gA p B D H).1 (gA p B D H).2) (A8 K J z)))))))) (cW (vJ v==7) (∃(I:hU×hU->Prop),pF v 0 0 (λb o y=>aL m h b (o+0) y.enc/\pF v 0 1 (λA u j=>aA (aL m h A (u+25) j.enc) (aA (aL m h b (o+0) y.enc) (aL m h A (u+25) j.enc) (aA (aL m h b (o+0) y.enc) (aL m h A (u+25) j.enc) (dN h A u 25 j.enc/\∃(x:hU×hU),aA (I x) (dL cb) (aA (iW d) nB (aA (eP 14) (lT y x.1) (aA (lT j x.2) (m=m) (bQ h h))))))) (aA (aL m h b (o+0) y.enc) (aL m h A (u+25) j.enc) (aH (aL m h b (o+0) y.enc) (aL m h A (u+25) j.enc) (dN h A u 25 j.enc) (∃(x:hU×
 hU),aA (I x) (dL cb) (aA (iW d) nB (aA (eP 14) (lT y x.1) (aA (lT j x.2) (m=m) (bQ h h)))))))))/\∀(x:hU×hU),I x->∃(I1:hU×hU×MH×PH->Prop),Lf (∃(G:hU),rX (dM cb::cA (oC x.1) d) G h N m 5 (λp B E c F t r=>iG (λC e=>bY h e (gO E C e c F (gA p B t r).1 (gA p B t r).2) (∃(f:hU×hU×MH×PH),aA (I1 f) (dL cb) (aA (iW d) nB (aA (eP 14) (lT x.1 f.1) (aA (lT x.2 f.2.1) (cN C f.2.2) (bQ e (BP f))))))))) I1 (λf=>Le cb f.2.1.env d f.2.2.1 (BP f) (λl r t E e=>PE (dM cb::cA (wP (Br l r) t) f.1.rows) E e (λV H F c C D S=>iG (λJ z=>bY e z (gO F J z c C (cC (Br V H) D).1 S) (∃(G:hU),rX (dM cb::aX (oC f.2.1)
 (wP (Br V H) D)) G z N J 5 (λp B Q L O T Y=>iG (λU M=>bY z M (gO Q U M L O (gA p B T Y).1 (gA p B T Y).2) (A8 K U M))))))))) (vJ v==8) (∃(I:hU×hU->Prop),pF v 0 0 (λb o y=>aL m h b (o+0) y.enc/\pF v 0 1 (λA u j=>aA (aL m h A (u+25) j.enc) (aA (aL m h b (o+0) y.enc) (aL m h A (u+25) j.enc) (aA (aL m h b (o+0) y.enc) (aL m h A (u+25) j.enc) (dN h A u 25 j.enc/\∃(x:hU×hU),aA (I x) (dL cb) (aA (iW d) nB (aA (eP 14) (lT y x.1) (aA (lT j x.2) (m=m) (bQ h h))))))) (aA (aL m h b (o+0) y.enc) (aL m h A (u+25) j.enc) (aH (aL m h b (o+0) y.enc) (aL m h A (u+25) j.enc) (dN h A u 25 j.enc) (∃(x:hU×hU),aA (I x) (dL cb) (aA (iW d) nB (aA (eP 14)
 (lT y x.1) (aA (lT j x.2) (m=m) (bQ h h)))))))))/\∀(x:hU×hU),I x->∃(I1:hU×hU×MH×PH->Prop),Lf (∃(G:hU),rX (dM cb::cA (oC x.1) d) G h N m 5 (λp B E c F t r=>iG (λC e=>bY h e (gO E C e c F (gA p B t r).1 (gA p B t r).2) (∃(f:hU×hU×MH×PH),aA (I1 f) (dL cb) (aA (iW d) nB (aA (eP 14) (lT x.1 f.1) (aA (lT x.2 f.2.1) (cN C f.2.2) (bQ e (BP f))))))))) I1 (λf=>Le cb f.2.1.env d f.2.2.1 (BP f) (λl r t E e=>PE (dM cb::cA (wP (Br l r) t) f.1.rows) E e (λV H F c C D S=>iG (λJ z=>bY e z (gO F J z c C (cC (Br V H) D).1 S) (∃(G:hU),rX (dM cb::aX (oC f.2.1) (wP (Br V H) D)) G z N J 5 (λp B Q L O T Y
 =>iG (λU M=>bY z M (gO Q U M L O (gA p B T Y).1 (gA p B T Y).2) (A8 K U M))))))))) (cW (vJ v==9) (pF v 0 0 (λb o y=>aL m h b (o+0) y.enc/\pF v 0 0 (λA u j=>aA (aL m h A (u+0) j.enc) (dN h b o 0 y.enc) (∃(G:hU)(p:PN)(B:Int)(q:QV),Ex (λZ t w c o3 g W l a=>∃(E:MH),bF (λL F=>E9 (λD r=>aA (iA cb (oC j::aX (fI d) (dG v.query))=iA L (oC G::aX (fI B) (dG q))) (oY h p G) (aA (cY h (Query.mk Z t w c o3 g W l a) q) (gC g) (aA (oV W.length) (gO E m h L F D r) (aA (gX E) (D.length<=99999) (iG (λC e=>bY h e (gO E C e L F (B6 p B g W l D).1 r) (dN e A u 0 j.enc/\∃(v2:hU),rX (dM cb::cA (oC y) (↑(B6 p B g W l D).2:Int))
 v2 e N C 5 (λp1 d2 J R Q T H=>iG (λO z=>bY e z (gO J O z R Q (gA p1 d2 T H).1 (gA p1 d2 T H).2) (A8 K O z)))))))))))))))) (vJ v==10) (∃(I:MH×PH->Prop),pF v 0 0 (λb o y=>aL m h b (o+0) y.enc/\∃(G:hU),rX (dM cb::cA (oC y) d) G h N m 5 (λp B E c F t r=>iG (λC e=>bY h e (gO E C e c F (gA p B t r).1 (gA p B t r).2) (∃(x:MH×PH),aA (I x) (dL cb) (aA (iW d) iL (aA (eP 6) (eQ (qO 97 v.enc)) (aA (cV v.query) (cN C x) (bQ e x.2))))))))/\∀(x:MH×PH),I x->pF v 0 1 (λb o y=>aL x.1 x.2 b (o+25) y.enc/\pF v 0 1 (λA u j=>aA (aL x.1 x.2 A (u+25) j.enc) (dN x.2 b o 25 y.enc) (∃(G:hU)(p:PN)(B:Int)(q:QV),Ex (λZ t w c o3 g W l a=>∃(E:MH),bF (λL
 F=>E9 (λD r=>aA (iA cb (oC j::aX (fI d) (dG v.query))=iA L (oC G::aX (fI B) (dG q))) (oY x.2 p G) (aA (cY x.2 (Query.mk Z t w c o3 g W l a) q) (gC g) (aA (oV W.length) (gO E x.1 x.2 L F D r) (aA (gX E) (D.length<=99999) (iG (λC e=>bY x.2 e (gO E C e L F (B6 p B g W l D).1 r) (dN e A u 25 j.enc/\∃(v2:hU),rX (dM cb::cA (oC y) (↑(B6 p B g W l D).2:Int)) v2 e N C 5 (λp1 d2 J R Q T H=>iG (λO z=>bY e z (gO J O z R Q (gA p1 d2 T H).1 (gA p1 d2 T H).2) (A8 K O z)))))))))))))))) (A8 K m h)))))
theorem F1{α}{l:List α}(h:(l.length:Int)=1):∃a,l=[a]:=by
 match l,h with
 |[a],_=>grind
 |[],h=>simp at h
 |_::_::_,h=>grind
theorem sI{α}{l:List α}(h:(l.length:Int)=2):∃a b,l=[a,b]:=by
 match l,h with
 |[a,b],_=>grind
 |[],h=>simp at h
 |[_],h=>simp at h
 |_::_::_::_,h=>grind
theorem JJ.w{p}(x:JJ p):0<=p.width/\p.width<=500:=by
 obtain⟨⟨op,ta,w,co,on,gr,od,li,c⟩,args,rows,env,d⟩:=p;rw[JJ]at x;exact⟨x.2.1,x.2.2.1⟩
theorem Dv a d gr od li ts:(B6 a d gr od li ts).1.length<=ts.length+2:=by
 unfold B6;have c:=eA (dZ a.env d (rR gr)) ts;have e:=eA (Qs (cC (dZ a.env d (rR gr)) ts).2 a.rows gr od li) (cC (dZ a.env d (rR gr)) ts).1
 grind
theorem iJ:∀(p:PN)(d:Int)(ts:dn)(rs:db),(gA p d ts rs).1.length<=ts.length+5*kU p/\(gA p d ts rs).2.length<=rs.length+kU p
 |.mk (.mk op ta w co on gr od li g) args rows env n,d,ts,rs=>by
  rw[gA.eq_def]
  match args with
  |[]=>dsimp only;split<;>simp[kU,sY]<;>omega
  |[a]=>
   dsimp only;simp only[kU,sY];split
   .have:=iJ a d ts rs;omega
   .split
    .have c:=eA (dZ a.env d (mJ co)) ts;have:=iJ a (cC (dZ a.env d (mJ co)) ts).2 (cC (dZ a.env d (mJ co)) ts).1 rs;omega
    .split
     .have c:=Dv a d gr od li ts;have:=iJ a (B6 a d gr od li ts).2 (B6 a d gr od li ts).1 rs;omega
     grind
  |a::b::r=>
   dsimp only;simp only[kU,sY];split
   .have c:=eA (dZ d b.rows (AT a.width b.width)) ts;generalize cC (dZ d b.rows (AT a.width b.width)) ts=x at*
    have o:=eA (oS x.2 (fZ 0 a.width)) x.1;generalize cC (oS x.2 (fZ 0 a.width)) x.1=y at*
    have e:=iJ a y.2 y.1 rs;generalize gA a y.2 y.1 rs=z at*
    have j:=eA (oS d (fZ a.width b.width)) z.1;generalize cC (oS d (fZ a.width b.width)) z.1=u at*
    have f:=iJ b u.2 u.1 z.2;omega
   .split
    .have c:=eA (dZ d b.rows on) ts;generalize cC (dZ d b.rows on) ts=x at*
     have e:=iJ a x.2 x.1 rs;generalize gA a x.2 x.1 rs=z at*
     have j:=eA (dZ b.env d (pP on)) z.1;generalize cC (dZ b.env d (pP on)) z.1=u at*
     have f:=iJ b u.2 u.1 z.2;omega
    .split
     .have c:=eA (cQ a.env d) ts;generalize cC (cQ a.env d) ts=x at*
      have e:=iJ a x.2 x.1 rs;generalize gA a x.2 x.1 rs=z at*
      have j:=eA (cQ b.env d) z.1;generalize cC (cQ b.env d) z.1=u at*
      have f:=iJ b u.2 u.1 z.2;omega
     .split
      .have e:=iJ a d ts rs;generalize gA a d ts rs=z at*
       have c:=eA (cQ b.env d) z.1;generalize cC (cQ b.env d) z.1=x at*
       have j:=eA (cQ x.2 a.rows) x.1;generalize cC (cQ x.2 a.rows) x.1=u at*
       have f:=iJ b u.2 u.1 z.2;omega
      .split
       .have e:=iJ a d ts rs;generalize gA a d ts rs=z at*
        have c:=Dv b d gr od li z.1;generalize B6 b d gr od li z.1=x at*
        have f:=iJ b x.2 x.1 z.2;omega
       grind
 termination_by p=>SizeOf.sizeOf p
theorem aXJ{m0 u d}(c:gO m0 m h cb u ts rs)(hl:rs.length<=90000)(X:∀m',gO m0 m' h cb u ts (rs++[d])->K (.tup []) m' h):
 ∃y:Sl,aL m h cb 1 [gP y]/\∃xs,fA m (Sl.mk y.a y.len y.cap) 3 1 xs/\(xs.length+1)*8<=140737488355328/\xs.length<140737488355328/\∀(S:Sl)(m':MH),kK m m' (Sl.mk y.a y.len y.cap) S 3 1 (xs++[[eH d]])->∃(cs:Array Value)(E:TypeId),Ze m' cb (Obj.cells cs E)/\1<cs.size/\∀(g:MH),pO m' g cb (Obj.cells (Array.mk (splice cs.toList 1 [gP S])) E)->K (CV.tup []) g h:=by
 obtain⟨s,r,z,⟨Y,T,I⟩,f,J,Z⟩:=c.ex;obtain⟨es,cl,L,M⟩:=c.map_.ex;refine⟨r,.of_m z rfl,rs.map eI,f,bo,bo,λA m1 x=>?_⟩
 have O:∀i,r.a≠some ⟨cb,i,none⟩:=λi e=>by
  obtain⟨n,B⟩:=fA.blk f e
  grind
 have P:∀i,r.a≠some ⟨u,i,none⟩:=λi e=>by
  obtain⟨n,B⟩:=fA.blk f e
  grind
 have U:cb≠u:=λe=>bo
 have C:=x.other cb _ z O;have V:=x.other u _ L P;refine⟨_,_,⟨C⟩,bi,λQ D=>?_⟩;have D:pO m1 Q cb (.cells #[.slice s.a s.len s.cap,.slice A.a A.len A.cap,.map (some u)] 93 (0,0)):=D
 have F:∀b o,m b=some o->b≠cb->(∀i,r.a≠some ⟨b,i,none⟩)->Q b=some o:=λb o e n1 n3=>by
  rw[D.other b n1];exact x.other b o e n3
 have G:∀b i,A.a=some ⟨b,i,none⟩->b≠cb:=λb i e e2=>by
  obtain⟨n,B⟩:=fA.blk x.row e
  grind
 refine X Q ⟨λb o e=>F b o (c.sub b o e) (λH=>by rw[H,c.cb0]at e;cases e) (λi H=>bo),c.cb0,c.mb0,⟨es,cl,bo,M⟩,c.nodup,s,A,D.at_,⟨Y,?_,I⟩,?_,J,?_⟩
 .refine fA.keep T (λb i e=>?_);obtain⟨n,B⟩:=fA.blk T e;rw[B];refine F b _ B (λH=>?_) (λj H=>?_)
  .grind
  .obtain⟨W,h4⟩:=fA.blk f H
   grind
 .rw[cj];exact fA.keep x.row (λb i e=>by rw[D.other b (G b i e)])
 .intro b i e;rcases x.fresh b i e with R|⟨j,R⟩
  .cases e0:m0 b with
   |none=>rfl
   |some o=>rw[c.sub b o e0]at R;cases R
  grind
theorem oY.form{p v}(x:oY h p v):∃q s,v=⟨q,s,p.rows,p.env,p.width⟩:=by
 obtain⟨q,s,r,e,w⟩:=v;have c:=x.rows_;have d:=x.env_;have f:=x.width_
 grind
theorem aLX:∀N,cz 43 (c6Q N)
 |0=>by
  refine eG (fn:=Tryz.f43) (c:=dQ Tryz.f43) func43 rfl bj ?_;rintro b9 m h K ⟨v,p,d,A,cb,B,ts,rs,rfl,_,hN,_⟩;omega
 |N+1=>by
  refine gW func43 ?_;rintro b9 m h K ⟨v,p,d,A,cb,B,ts,rs,rfl,hp,hN,ok,c,T,l1,l2,L⟩;refine⟨csQ N cb d v m h,rfl,aE (aLX N) (aE Tl (aE a9Q (aE a8J (aE a8Z (aE a8X (aE a8Q (aE a7J aI))))))),X0 N cb v d m h K,bh,?_⟩;dsimp only[X0,push_cast];obtain⟨⟨op,ta,w,co,on,gr,od,li,a3⟩,args,rows,env,wd⟩:=p;obtain⟨hq,_,_,_,d0,vs,hr,b3⟩:=hp;rw[JJ]at ok;obtain⟨oa,d1,d2,b4,b5,b6,b7,a6⟩:=ok;have x:=hq.parts;have d':v.args.len=args.length:=by have:=hr.len;rw[length_map,b3.length]at this;exact this
  have at_:∀{hx:PH}(_:PH.le h hx)(i:Nat)(a:PN)(_:args[i]? =some a),∃b o q s,v.args.a=some ⟨b,o,none⟩/\bU hx b (o+i*25) (hU.enc ⟨q,s,a.rows,a.env,a.width⟩)/\oY hx a ⟨q,s,a.rows,a.env,a.width⟩:=λle i a ha=>by
   obtain⟨b,o,u,e,r,H⟩:=cGQ (hr.mono le) (mC.mono le b3) ha;obtain⟨q,s,rfl⟩:=H.form
   grind
  have small:∀a∈args,SizeOf.sizeOf a<N:=λa ha=>by
   have:=sizeOf_lt_of_mem ha
   grind
  have j:∀{mx:MH}{hx:PH}(a:PN)(u:hU)(dd:Int)(Y:dn)(a0:db){KK:MH->PH->Prop},a∈args->oY hx a u->gO A mx hx cb B Y a0->Y.length+5*kU a<=90000->a0.length+kU a<=90000->(∀m' h',PH.le hx h'->gO A m' h' cb B (gA a dd Y a0).1 (gA a dd Y a0).2->KK m' h')->
   ∃(v:hU)(p:PN),∃(a7:Int)(A:MH),∃(a4 B:Nat)(ts:dn)(rs:db),[cQp cb 0,qK (hU.enc u),fI dd]=[cQp a4 0,qK (hU.enc v),fI a7]/\oY hx p v/\SizeOf.sizeOf p<N/\JJ p/\gO A mx hx a4 B ts rs/\gX A/\ts.length+5*kU p<=90000/\rs.length+kU p<=90000/\∀(m':MH)(h':PH),hx.le h'->gO A m' h' a4 B (gA p a7 ts rs).1 (gA p a7 ts rs).2->KK m' h':=
   λa u dd Y a0 KK ha H M b1 b2 hk=>⟨u,a,dd,A,cb,B,Y,a0,rfl,H,small a ha,a6 a ha,M,T,b1,b2,hk⟩
  show branch (v.query.op==1) _ _;rw[x.op_];simp only[kU]at l1 l2;refine aC (λe=>?_) (λn1=>aC (λe=>?_) (λn2=>aC (λe=>?_) (λn3=>aC (λe=>?_) (λn4=>aC (λe=>?_) (λn5=>aC (λe=>?_) (λn6=>aC (λe=>?_) (λn7=>aC (λe=>?_) (λn8=>aC (λe=>?_) (λn9=>aC (λe=>?_) (λc0=>?_))))))))))
  .have e:op=1:=bx e
   subst e;obtain rfl:args=[]:=eq_nil_of_length_eq_zero (by have:arity 1=0:=rfl;omega);rw[gA]at L;exact aXJ c aD (λm' c'=>L m' h (.refl _) bo)
  .have e:op=2:=bx e
   subst e;obtain⟨a,rfl⟩:=F1 (l:=args) (by rw[oa];rfl);simp only[sY]at l1 l2;simp only[gA,if_true]at L;obtain⟨b,o,P,Q,e,r,H⟩:=at_ (.refl _) 0 a rfl;exact⟨b,o,e,aD,bo,_,.imm r,j a _ d ts rs bi H c aD aD L⟩
  .have e:op=3:=bx e
   subst e;obtain⟨a,rfl⟩:=F1 (l:=args) (by rw[oa];rfl);simp only[sY]at l1 l2;simp only[gA,if_true,show((3:Int)=2)=False by simp,if_false]at L;obtain⟨b,o,P,Q,e,r,H⟩:=at_ (.refl _) 0 a rfl;have rc:=(Pe r).2.2.1;have hx:=eA (dZ a.env d (mJ co)) ts;refine⟨b,o,e,aD,bo,_,.imm r,b,o,e,aD,bo,_,.imm rc,r,rc,v.query.columns,co,rfl,x.columns_,b4,λs h1 R a8=>⟨r.mono R,a.env,d,s,mJ co,A,cb,B,ts,rs,rfl,a8,cv (Q9 co co.length) b4,c.mono R,T,aD,λm2 h2 C M=>⟨rc.mono (R.trans C),?_⟩⟩⟩;have M:gO A m2 h2 cb B (cC (dZ a.env d (mJ co)) ts).1 rs:=M;exact j a _ _ _ _ bi (H.mono (R.trans C)) M aD aD (λJ I g E=>L J I ((R.trans C).trans g) E)
  .have e:op=4:=bx e
   subst e;obtain⟨a,f,rfl⟩:=sI (l:=args) (by rw[oa];rfl);simp only[sY]at l1 l2;simp only[gA,if_true]at L;obtain⟨b,o,P,Q,e,r,H⟩:=at_ (.refl _) 0 a rfl;obtain⟨b',o',W,O,e',n,F⟩:=at_ (.refl _) 1 f rfl;have wa:=(a6 a bi).w;have wb:=(a6 f bi).w;have a1:=eA (dZ d f.rows (AT a.width f.width)) ts;have c1:=eA (oS (cC (dZ d f.rows (AT a.width f.width)) ts).2 (fZ 0 a.width)) (cC (dZ d f.rows (AT a.width f.width)) ts).1;have a2:=iJ a (cC (oS (cC (dZ d f.rows (AT a.width f.width)) ts).2 (fZ 0 a.width)) (cC (dZ d f.rows (AT a.width f.width)) ts).1).2 (cC (oS (cC (dZ d f.rows (AT a.width f.width)) ts).2 (fZ 0 a.width)) (cC (dZ d f.rows (AT a.width f.width)) ts).1).1 rs;generalize hZ:gA a (cC (oS (cC (dZ d f.rows (AT a.width f.width)) ts).2 (fZ 0 a.width)) (cC (dZ d f.rows (AT a.width f.width)) ts).1).2 (cC (oS (cC (dZ d f.rows (AT a.width f.width)) ts).2 (fZ 0 a.width)) (cC (dZ d f.rows (AT a.width f.width)) ts).1).1 rs=Z at*
   have a5:=eA (oS d (fZ a.width f.width)) Z.1;refine⟨λx=>x=(⟨P,Q,a.rows,a.env,a.width⟩,⟨W,O,f.rows,f.env,f.width⟩),⟨b,o,e,aD,bo,_,.imm r,b',o',e',aD,bo,_,.imm n,⟨.imm r,.imm n,.imm r,.imm n,n,_,rfl,MT⟩,.imm r,.imm n,.imm r,.imm n,n,_,rfl,MT⟩,?_⟩;rintro _ rfl;obtain⟨k,hk⟩:∃k:Nat,f.width=k:=⟨f.width.toNat,aD⟩
   refine⟨λx=>x.1<=k/\x.2.1=AT a.width (x.1:Nat)/\x.2.2=(⟨P,Q,a.rows,a.env,a.width⟩,⟨W,O,f.rows,f.env,f.width⟩),λx=>k-x.1,⟨(0,[],_,_),⟨aD,rfl,rfl⟩,MT⟩,?_⟩;rintro⟨i,l,yz⟩ ⟨hi,X,e2⟩;dsimp only at hi X e2⊢
   subst X e2;have d3:(AT a.width (i:Nat)).length=i:=by simp[AT]
   refine aF (λc8=>?_) (λc9=>?_)
   .have c8:(i:Int)<(k:Int):=bo
    refine⟨bo,bo,(i+1,AT a.width ((i+1:Nat):Int),_,_),⟨aD,rfl,rfl⟩,aD,?_⟩
    have e:AT a.width ((i+1:Nat):Int)=AT a.width (i:Nat)++[(IntKind.i64.wrap (a.width+(i:Int)),(i:Int))]:=by
     rw[eM aD aD];simp[AT,range_succ]
    rw[e,cj];exact MT
   .have c9:¬(i:Int)<(k:Int):=bo
    obtain rfl:i=k:=by omega
    rw[hk]at a1 c1 a2 hZ;refine⟨λx=>x.2.1=⟨W,O,f.rows,f.env,f.width⟩/\x.1=⟨P,Q,a.rows,a.env,a.width⟩/\PH.le h x.2.2.2/\gO A x.2.2.1 x.2.2.2 cb B Z.1 Z.2,λs h1 R a8=>⟨d,f.rows,s,AT a.width (i:Nat),A,cb,B,ts,rs,rfl,⟨a8,aD⟩,aD,c.mono R,T,aD,λm2 h2 C M=>?_⟩,?_⟩
    .have M:gO A m2 h2 cb B (cC (dZ d f.rows (AT a.width (i:Nat))) ts).1 rs:=M;refine⟨0,a.width,rfl,aD,aD,aD,aD,λO I g a9=>⟨_,O,fZ 0 a.width,A,cb,B,(cC (dZ d f.rows (AT a.width (i:Nat))) ts).1,rs,rfl,a9,?_,M.mono g,T,aD,λm4 h4 U c4=>?_⟩⟩
     .simp[fZ];omega
     .have c4:gO A m4 h4 cb B (cC (oS (cC (dZ d f.rows (AT a.width (i:Nat))) ts).2 (fZ 0 a.width)) (cC (dZ d f.rows (AT a.width (i:Nat))) ts).1).1 rs:=c4;have le:=((R.trans C).trans g).trans U;exact j a _ _ _ _ bi (H.mono le) c4 aD aD (λJ I g E=>⟨(_,_,J,I),⟨rfl,rfl,le.trans g,by rw[<-hZ];exact E⟩,MT⟩)
    .rintro⟨y,z,J,I⟩ ⟨X,e2,g,E⟩;dsimp only at X e2 g E⊢
     subst X e2;refine⟨a.width,f.width,rfl,aD,aD,aD,aD,λO h4 U a9=>⟨d,O,fZ a.width f.width,A,cb,B,Z.1,Z.2,rfl,a9,by simp[fZ];omega,E.mono U,T,aD,λm5 h5 D S=>?_⟩⟩;have S:gO A m5 h5 cb B (cC (oS d (fZ a.width f.width)) Z.1).1 Z.2:=S;have le:=(g.trans U).trans D;exact j f _ _ _ _ bi (F.mono le) S aD aD (λm6 h6 G V=>L m6 h6 (le.trans G) V)
  .have e:op=5:=bx e
   subst e;obtain⟨a,f,rfl⟩:=sI (l:=args) (by rw[oa];rfl);simp only[sY]at l1 l2;simp only[gA,if_true,show((5:Int)=4)=False by simp,if_false]at L;obtain⟨b,o,P,Q,e,r,H⟩:=at_ (.refl _) 0 a rfl;obtain⟨b',o',W,O,e',n,F⟩:=at_ (.refl _) 1 f rfl;have a1:=eA (dZ d f.rows on) ts;have a2:=iJ a (cC (dZ d f.rows on) ts).2 (cC (dZ d f.rows on) ts).1 rs;generalize hZ:gA a (cC (dZ d f.rows on) ts).2 (cC (dZ d f.rows on) ts).1 rs=Z at*
   have a5:=eA (dZ f.env d (pP on)) Z.1;refine⟨λx=>x=(⟨P,Q,a.rows,a.env,a.width⟩,⟨W,O,f.rows,f.env,f.width⟩),⟨b,o,e,aD,bo,_,.imm r,b',o',e',aD,bo,_,.imm n,⟨.imm r,.imm n,.imm r,.imm n,n,_,rfl,MT⟩,.imm r,.imm n,.imm r,.imm n,n,_,rfl,MT⟩,?_⟩;rintro _ rfl;refine⟨λx=>x.2.1=⟨W,O,f.rows,f.env,f.width⟩/\PH.le h x.2.2.2/\gO A x.2.2.1 x.2.2.2 cb B Z.1 Z.2,⟨d,f.rows,v.query.on,on,A,cb,B,ts,rs,rfl,x.on_,b5,c,T,aD,λm2 h2 C M=>?_⟩,?_⟩
   .have M:gO A m2 h2 cb B (cC (dZ d f.rows on) ts).1 rs:=M;exact j a _ _ _ _ bi (H.mono C) M aD aD (λJ I g E=>⟨(⟨P,Q,a.rows,a.env,a.width⟩,_,J,I),⟨rfl,C.trans g,by rw[<-hZ];exact E⟩,MT⟩)
   .rintro⟨y,z,J,I⟩ ⟨X,g,E⟩;dsimp only at X g E⊢
    subst X;refine⟨v.query.on,on,rfl,x.on_.mono g,b5,λs h4 U hs=>⟨f.env,d,s,pP on,A,cb,B,Z.1,Z.2,rfl,hs,by simp[pP];omega,E.mono U,T,aD,λm5 h5 D S=>?_⟩⟩;have S:gO A m5 h5 cb B (cC (dZ f.env d (pP on)) Z.1).1 Z.2:=S;have le:=(g.trans U).trans D;exact j f _ _ _ _ bi (F.mono le) S aD aD (λm6 h6 G V=>L m6 h6 (le.trans G) V)
  .have e:op=6:=bx e
   subst e;obtain⟨a,f,rfl⟩:=sI (l:=args) (by rw[oa];rfl);simp only[sY]at l1 l2;simp only[gA,if_true,show((6:Int)=4)=False by simp,show((6:Int)=5)=False by simp,if_false]at L;obtain⟨b,o,P,Q,e,r,H⟩:=at_ (.refl _) 0 a rfl;have rc:=(Pe r).2.2.1;have a1:=eA (cQ a.env d) ts;have a2:=iJ a (cC (cQ a.env d) ts).2 (cC (cQ a.env d) ts).1 rs;generalize hZ:gA a (cC (cQ a.env d) ts).2 (cC (cQ a.env d) ts).1 rs=Z at*
   have a5:=eA (cQ f.env d) Z.1;refine⟨λx=>PH.le h x.2/\gO A x.1 x.2 cb B Z.1 Z.2,⟨b,o,e,aD,bo,_,.imm r,b,o,e,aD,bo,_,.imm rc,r,a.env,d,A,cb,B,ts,rs,rfl,c,T,aD,λm2 h2 C M=>⟨rc.mono C,?_⟩⟩,?_⟩
   .have M:gO A m2 h2 cb B (cC (cQ a.env d) ts).1 rs:=M;exact j a _ _ _ _ bi (H.mono C) M aD aD (λJ I g E=>⟨(J,I),⟨C.trans g,by rw[<-hZ];exact E⟩,MT⟩)
   .rintro⟨J,I⟩ ⟨g,E⟩;dsimp only at g E⊢
    obtain⟨b',o',W,O,e',n,F⟩:=at_ g 1 f rfl;have b8:=(Pe n).2.2.1;refine⟨b',o',e',aD,bo,_,.imm n,b',o',e',aD,bo,_,.imm b8,n,f.env,d,A,cb,B,Z.1,Z.2,rfl,E,T,aD,λm5 h5 D S=>⟨b8.mono D,?_⟩⟩;have S:gO A m5 h5 cb B (cC (cQ f.env d) Z.1).1 Z.2:=S;exact j f _ _ _ _ bi (F.mono D) S aD aD (λm6 h6 G V=>L m6 h6 ((g.trans D).trans G) V)
  .have e:op=7:=bx e
   subst e;obtain⟨a,f,rfl⟩:=sI (l:=args) (by rw[oa];rfl);simp only[sY]at l1 l2;simp only[gA,if_true,show((7:Int)=4)=False by simp,show((7:Int)=5)=False by simp,show((7:Int)=6)=False by simp,if_false,true_or]at L;obtain⟨b,o,P,Q,e,r,H⟩:=at_ (.refl _) 0 a rfl;obtain⟨b',o',W,O,e',n,F⟩:=at_ (.refl _) 1 f rfl;have a2:=iJ a d ts rs;generalize hZ:gA a d ts rs=Z at*
   have a1:=eA (cQ f.env d) Z.1;have a5:=eA (cQ (cC (cQ f.env d) Z.1).2 a.rows) (cC (cQ f.env d) Z.1).1;refine⟨λx=>x=(⟨P,Q,a.rows,a.env,a.width⟩,⟨W,O,f.rows,f.env,f.width⟩),⟨b,o,e,aD,bo,_,.imm r,b',o',e',aD,bo,_,.imm n,⟨.imm r,.imm n,.imm r,.imm n,n,_,rfl,MT⟩,.imm r,.imm n,.imm r,.imm n,n,_,rfl,MT⟩,?_⟩;rintro _ rfl;refine⟨λx=>x.1=⟨P,Q,a.rows,a.env,a.width⟩/\x.2.1=⟨W,O,f.rows,f.env,f.width⟩/\PH.le h x.2.2.2/\gO A x.2.2.1 x.2.2.2 cb B Z.1 Z.2,j a _ _ _ _ bi H c aD aD (λJ I g E=>⟨(_,_,J,I),⟨rfl,rfl,g,bo⟩,MT⟩),?_⟩;rintro⟨y,z,J,I⟩ ⟨X,e2,g,E⟩;dsimp only at X e2 g E⊢
   subst X e2;refine⟨f.env,d,A,cb,B,Z.1,Z.2,rfl,E,T,aD,λm5 h5 D S=>⟨_,a.rows,A,cb,B,(cC (cQ f.env d) Z.1).1,Z.2,rfl,S,T,aD,λm6 h6 G V=>?_⟩⟩;have V:gO A m6 h6 cb B (cC (cQ (cC (cQ f.env d) Z.1).2 a.rows) (cC (cQ f.env d) Z.1).1).1 Z.2:=V;have le:=(g.trans D).trans G;exact j f _ _ _ _ bi (F.mono le) V aD aD (λm7 h7 b0 c7=>L m7 h7 (le.trans b0) c7)
  .have e:op=8:=bx e
   subst e;obtain⟨a,f,rfl⟩:=sI (l:=args) (by rw[oa];rfl);simp only[sY]at l1 l2;simp only[gA,if_true,show((8:Int)=4)=False by simp,show((8:Int)=5)=False by simp,show((8:Int)=6)=False by simp,if_false,or_true]at L;obtain⟨b,o,P,Q,e,r,H⟩:=at_ (.refl _) 0 a rfl;obtain⟨b',o',W,O,e',n,F⟩:=at_ (.refl _) 1 f rfl;have a2:=iJ a d ts rs;generalize hZ:gA a d ts rs=Z at*
   have a1:=eA (cQ f.env d) Z.1;have a5:=eA (cQ (cC (cQ f.env d) Z.1).2 a.rows) (cC (cQ f.env d) Z.1).1;refine⟨λx=>x=(⟨P,Q,a.rows,a.env,a.width⟩,⟨W,O,f.rows,f.env,f.width⟩),⟨b,o,e,aD,bo,_,.imm r,b',o',e',aD,bo,_,.imm n,⟨.imm r,.imm n,.imm r,.imm n,n,_,rfl,MT⟩,.imm r,.imm n,.imm r,.imm n,n,_,rfl,MT⟩,?_⟩;rintro _ rfl;refine⟨λx=>x.1=⟨P,Q,a.rows,a.env,a.width⟩/\x.2.1=⟨W,O,f.rows,f.env,f.width⟩/\PH.le h x.2.2.2/\gO A x.2.2.1 x.2.2.2 cb B Z.1 Z.2,j a _ _ _ _ bi H c aD aD (λJ I g E=>⟨(_,_,J,I),⟨rfl,rfl,g,bo⟩,MT⟩),?_⟩;rintro⟨y,z,J,I⟩ ⟨X,e2,g,E⟩;dsimp only at X e2 g E⊢
   subst X e2;refine⟨f.env,d,A,cb,B,Z.1,Z.2,rfl,E,T,aD,λm5 h5 D S=>⟨_,a.rows,A,cb,B,(cC (cQ f.env d) Z.1).1,Z.2,rfl,S,T,aD,λm6 h6 G V=>?_⟩⟩;have V:gO A m6 h6 cb B (cC (cQ (cC (cQ f.env d) Z.1).2 a.rows) (cC (cQ f.env d) Z.1).1).1 Z.2:=V;have le:=(g.trans D).trans G;exact j f _ _ _ _ bi (F.mono le) V aD aD (λm7 h7 b0 c7=>L m7 h7 (le.trans b0) c7)
  .have e:op=9:=bx e
   subst e;obtain⟨a,rfl⟩:=F1 (l:=args) (by rw[oa];rfl);simp only[sY]at l1 l2;simp only[gA,if_true,show((9:Int)=2)=False by simp,show((9:Int)=3)=False by simp,if_false]at L;obtain⟨b,o,P,Q,e,r,H⟩:=at_ (.refl _) 0 a rfl;have hx:=Dv a d gr od li ts;refine⟨b,o,e,aD,bo,_,.imm r,b,o,e,aD,bo,_,.imm r,r,_,a,d,v.query,9,ta,w,co,on,gr,od,li,a3,A,cb,B,ts,rs,rfl,H,hq,b6,b7,c,T,aD,λm2 h2 C M=>⟨r.mono C,j a _ _ _ _ bi (H.mono C) M aD aD (λJ I g E=>L J I (C.trans g) E)⟩⟩
  .have e:op=10:=bx e
   subst e;obtain⟨a,f,rfl⟩:=sI (l:=args) (by rw[oa];rfl);simp only[sY]at l1 l2;simp only[gA,if_true,show((10:Int)=4)=False by simp,show((10:Int)=5)=False by simp,show((10:Int)=6)=False by simp,show((10:Int)=7)=False by simp,show((10:Int)=8)=False by simp,if_false,or_false]at L;obtain⟨b,o,P,Q,e,r,H⟩:=at_ (.refl _) 0 a rfl;have a2:=iJ a d ts rs;generalize hZ:gA a d ts rs=Z at*
   have a1:=Dv f d gr od li Z.1;refine⟨λx=>PH.le h x.2/\gO A x.1 x.2 cb B Z.1 Z.2,⟨b,o,e,aD,bo,_,.imm r,j a _ _ _ _ bi H c aD aD (λJ I g E=>⟨(J,I),⟨g,bo⟩,MT⟩)⟩,?_⟩;rintro⟨J,I⟩ ⟨g,E⟩;dsimp only at g E⊢
   obtain⟨b',o',W,O,e',n,F⟩:=at_ g 1 f rfl;exact⟨b',o',e',aD,bo,_,.imm n,b',o',e',aD,bo,_,.imm n,n,_,f,d,v.query,10,ta,w,co,on,gr,od,li,a3,A,cb,B,Z.1,Z.2,rfl,F,hq.mono g,b6,b7,E,T,aD,λm5 h5 D S=>⟨n.mono D,j f _ _ _ _ bi (F.mono D) S aD aD (λm6 h6 G V=>L m6 h6 ((g.trans D).trans G) V)⟩⟩
  .exfalso;have h0:0<=arity op:=by omega
   simp only[beq_eq_false_iff_ne]at n1 n2 n3 n4 n5 n6 n7 n8 n9 c0;unfold arity at h0
   grind
def c6X:Vc.Spec:=λc m h K=>∃v p d e cb f ts rs,c=[cP cb,aPN v,cI d]/\oY h p v/\JJ p/\gO e m h cb f ts rs/\gX e/\ts.length+5*kU p<=90000/\rs.length+kU p<=90000/\
 ∀m' h',PH.le h h'->gO e m' h' cb f (gA p d ts rs).1 (gA p d ts rs).2->K (.tup []) m' h'
theorem bdJ:cz 43 c6X:=iE aLX λ_ _ _ _⟨v,p,d,c,cb,f,ts,rs,e,g,j,n,o,u,x,y⟩=>⟨SizeOf.sizeOf p+1,v,p,d,c,cb,f,ts,rs,e,g,aD,j,n,o,u,x,y⟩
def aPl(p r:Sl):CV:=.val (.agg ⟨[.slice p.a p.len p.cap,.slice r.a r.len r.cap]⟩)
theorem fV.keep{r}(c:Sub m m')(le:PH.le h h')(d:K r m h):fV h K r m' h':=
 λ_=>⟨m,h,c,.refl _,λb i v e=>.inl (le.le b i v e),d⟩
def ccJ(q:Query):Prop:=
 match q with
 |.mk op _ _ _ _ _ _ _ args=>(args.length:Int)=arity op/\∀a∈args,ccJ a
 termination_by SizeOf.sizeOf q
theorem bZQ{op w on args}:
 ccJ (.mk op ta w co on gr od li args)↔(args.length:Int)=arity op/\∀a∈args,ccJ a:=by rw[ccJ.eq_def]
theorem FG op:arity op<=2:=by
 unfold arity;omega
theorem Qr{α}{l:List α}{c}(h:l<+:c){x}(d:l[i]? =some x):c[i]? =some x:=by
 obtain⟨r,rfl⟩:=h
 grind
theorem MZ:∀(n:Nat){l:dq},l.Nodup->(∀x∈l,x<n)->l.length<=n
 |0,l,_,h=>by
  cases l with
  |nil=>simp
  |cons x l=>have:=h x bi;omega
 |n+1,l,c,h=>by
  by_cases d:n∈l
  .have f:=length_erase_of_mem d
   have g:=MZ n (c.erase n) (λx e=>by
    grind)
   omega
  .have:=MZ n c (λx e=>by
    grind)
   omega
theorem Ma{α T l}{f:α->Int}{n:Nat}(h:Good T l)(e:∀c x,T c x->0<=f x/\f x<n)(o:∀c x,T c x->∀y∈c,f y≠f x):l.length<=n:=by
 have u:(l.map λx=>(f x).toNat).Nodup:=by
  rw[nodup_iff_pairwise_ne,pairwise_iff_getElem];intro i j d g z;simp only[length_map]at d g;simp only[getElem_map];have D:=h i l[i] (cd d);have A:=h j l[j] (cd g);have:=o _ _ A l[i] (mem_take_iff_getElem.2 ⟨i,aD,rfl⟩)
  grind
 have:=MZ n u (λx B=>by
  obtain⟨y,C,rfl⟩:=mem_map.1 B;obtain⟨i,d⟩:=mem_iff_getElem?.1 C;have:=e _ _ (h i y d);omega)
 grind
mutual
def b0X:Pred->Prop
 |.mk _ _ l r args=>l.value.text.size<=64/\r.value.text.size<=64/\Wb args
def Wb:dp->Prop
 |[]=>True
 |p::ps=>b0X p/\Wb ps
end
theorem Xa o(h:o.value.text.size<=64):(D1 o).length<=200:=by
 have e:=gZ [o.kind,o.index];have f:=gZ [o.value.kind];have g:=gZ [(o.value.text.size:Int)];have c:=gZ [o.value.int];have d:i7 [o.value.int]=nF o.value.int++[32]:=by unfold i7;grind
 rw[d]at c;have j:o.value.text.data.toList.length=o.value.text.size:=by rw[Array.length_toList];rfl
 simp only[D1,AR,cg,cu,length_nil]at*
 omega
mutual
theorem MV:∀p:Pred,b0X p->((tA p).length:Int)<=1000*SN p
 |.mk op c l r args,h=>by
  obtain⟨d,e,f⟩:=h;have g:=Xa l d;have j:=Xa r e;have n:=Qt args f;have o:=gZ [op,c];have u:=gZ [(args.length:Int)];simp only[tA,SN,cg,cu,length_nil]at*
  omega
theorem Qt:∀ps:dp,Wb ps->((pV ps).length:Int)<=1000*D0 ps
 |[],_=>by simp[pV,D0]
 |p::ps,h=>by
  have:=MV p h.1;have:=Qt ps h.2;simp only[pV,D0,cg];omega
end
theorem YI{v}(h:Zl v zeroV=true):v.text.size<=64:=by
 simp only[Zl,cm,beq_iff_eq]at h;exact WB h.2.2.1
theorem Mi{o}(h:eqO o fQ=true):o.value.text.size<=64:=by
 simp only[eqO,cm,beq_iff_eq]at h;exact YI h.2.2.1
theorem OL{o}(h:sT l o≠0):o.value.text.size<=64:=by
 unfold sT at h;split at h
 .omega
 .rename_i c;simp only[Bool.or_eq_true,not_or,Bool.not_eq_true',Bool.not_eq_false]at c;exact YI c.2
theorem OB{cols params o}(h:kindOf cols params o≠0):o.value.text.size<=64:=by
 unfold kindOf at h;split at h
 .split at h
  .omega
  .rename_i c;simp only[Bool.or_eq_true,not_or,Bool.not_eq_true',Bool.not_eq_false,kM,cm]at c;exact N5 c.2.1
 .split at h
  .exact OL h
  .split at h
   .exact OL h
   omega
mutual
theorem N7{cols params:db}:∀p:Pred,kH cols params p=true->b0X p
 |.mk op c l r args,h=>by
  unfold kH at h;split at h
  .simp only[cm,HG,beq_iff_eq]at h;have:args=[]:=eq_nil_of_length_eq_zero h.2;subst this;exact⟨Mi h.1.1.2,Mi h.1.2,trivial⟩
  .split at h
   .simp only[cm,beq_iff_eq,bne_iff_ne,ne_eq,cr]at h;have:args=[]:=eq_nil_of_length_eq_zero h.1.1.1.1;subst this;exact⟨OB h.1.2,OB (cols:=cols) (params:=params) aD,trivial⟩
   .split at h
    .simp only[cm,HG]at h;exact⟨Mi h.1.1.2,Mi h.1.2,Kw args h.2⟩
    .cases h
theorem Kw{cols params:db}:∀ps:dp,z6 cols params ps=true->Wb ps
 |[],_=>trivial
 |p::ps,h=>by
  simp only[z6,cm]at h;exact⟨N7 p h.1,Kw ps h.2⟩
end
theorem buJ{cols params}(h:gY cols params p=0):(tA p).length<=1000000000:=by
 unfold gY at h;split at h
 .cases h
 .split at h
  .cases h
  .rename_i c;split at h
   .cases h
   .rename_i e;have d:kH cols params p=true:=bo
    have f:=MV p (N7 p d);simp only[Bool.or_eq_true,not_or,cr]at c;have g:=IA p 0 aD;omega
theorem bqJ:(tA fN).length<=1000000000:=by
 have:=MV fN ⟨bj,bj,trivial⟩;have e:SN fN=1:=rfl;omega
theorem GW{s:jC}{ps:db}:∀(c:dl),∀k∈(fH s ps c).1,k.length<=12
 |[],k,h=>by simp[fH]at h
 |q::c,k,h=>by
  simp only[fH]at h;split at h
  .split at h
   .simp only[mem_cons]at h;rcases h with rfl|h
    .exact jB s ps q
    .exact GW c k h
   .simp at h
  .simp at h
theorem Xt(h:∀k∈ks,k.length<=12) j:(ks.getD j []).length<=12:=by
 grind
theorem JP{s:jC}{ps:db}:∀{c:dl}{ks:List db},fH s ps c=(ks,0)->ks.length=c.length/\∀q∈c,(aK s ps q).2=0
 |[],ks,h=>by simp[fH]at h;subst h;simp
 |q::c,ks,h=>by
  simp only[fH]at h;split at h
  .rename_i f;split at h
   .rename_i d;have e:fH s ps c=((fH s ps c).1,0):=Prod.ext rfl d;obtain⟨g,j⟩:=JP e
    grind
   grind
  grind
theorem lO{op w on args}(h:(aK s ps (.mk op ta w co on gr od li args)).2=0):
 (∀a∈args,(aK s ps a).2=0)/\(args.length:Int)=arity op/\∃a b,a.length<=12/\b.length<=12/\(eV s ps (.mk op ta w co on gr od li args) a b).2=0:=by
 simp only[aK]at h;split at h
 .rename_i c;have e:fH s ps args=((fH s ps args).1,0):=Prod.ext rfl c;obtain⟨f,d⟩:=JP e;split at h
  .rename_i g;refine⟨d,aD,_,_,?_,?_,h⟩
   .exact Xt (GW args) 0
   .exact Xt (GW args) 1
  .simp[eK]at h
 .rename_i c;simp[eK]at h;omega
theorem byQ{op w on args b}(I:a.length<=12)(h:(eV s ps (.mk op ta w co on gr od li args) a b).2=0):
 OT ⟨op,ta,w,co,on,gr,od,li,0,0⟩:=by
 unfold eV at h;dsimp only at h;split at h
 .simp[eK]at h
 .rename_i j;rw[not_or]at j;have z:dC (.mk op ta w co on gr od li args):=Classical.not_not.1 j.2;obtain⟨_,A,B,C,D⟩:=z
  have E:∀l:db,(mT l).2=0->l.length<=12:=λl e=>by
   unfold mT at e
   grind
  have F:(tA w).length<=1000000000:=by
   rcases A with rfl|rfl
   .simp only[show¬((2:Int)=1)by decide,if_false,if_true]at h;split at h
    .rename_i e;exact buJ e
    .rename_i e;simp[eK]at h;omega
   .exact bqJ
  have G:co.length<=1000000000:=by
   rcases B with rfl|rfl
   .simp only[show¬((3:Int)=1)by decide,show¬((3:Int)=2)by decide,if_false,if_true]at h;split at h
    .grind
    .simp[eK]at h
   .simp
  have H:on.length<=1000000000:=by
   have d:Good (nH a b) on->on.length<=1000000000:=λg=>by
    have:=Ma (f:=λp=>p.1) (n:=a.length) g (λc x t=>by have:=t.1;rw[eZ]at this;exact this) (λc x t y o=>(t.2.2.2 y o).1);omega
   rcases C with rfl|rfl|rfl
   .simp only[show¬((4:Int)=1)by decide,show¬((4:Int)=2)by decide,show¬((4:Int)=3)by decide,if_false,if_true]at h;split at h
    .grind
    .simp[eK]at h
   .simp only[show¬((5:Int)=1)by decide,show¬((5:Int)=2)by decide,show¬((5:Int)=3)by decide,show¬((5:Int)=4)by decide,if_false,if_true]at h;split at h
    .grind
    .simp[eK]at h
   .simp
  have u:gr.length<=1000000000/\od.length<=1000000000:=by
   have d:mW a gr od li->gr.length<=1000000000/\od.length<=1000000000:=λr=>by
    have:=Ma (f:=λp=>p) (n:=a.length) r.group_ (λc x t=>by have:=t.1;rw[eZ]at this;exact this) (λc x t y o e=>t.2 bo);have:=r.len_;omega
   rcases D with rfl|rfl|⟨rfl,rfl,_⟩
   .simp only[show¬((9:Int)=1)by decide,show¬((9:Int)=2)by decide,show¬((9:Int)=3)by decide,show¬((9:Int)=4)by decide,show¬((9:Int)=5)by decide,if_false,if_true]at h;split at h
    .grind
    .simp[eK]at h
   .simp only[show¬((10:Int)=1)by decide,show¬((10:Int)=2)by decide,show¬((10:Int)=3)by decide,show¬((10:Int)=4)by decide,show¬((10:Int)=5)by decide,show¬((10:Int)=9)by decide,if_false,if_true]at h;split at h
    .grind
    .simp[eK]at h
   .simp
  exact⟨F,G,H,u.1,u.2⟩
theorem Nb{s:jC}{ps:db}:∀q:Query,(aK s ps q).2=0->DX q/\ccJ q
 |.mk op ta w co on gr od li args,h=>by
  obtain⟨d,e,a,b,f,_,g⟩:=lO h;rw[W0,bZQ];exact⟨⟨byQ f g,λq c=>(Nb q (d q c)).1⟩,e,λq c=>(Nb q (d q c)).2⟩
theorem aYJ{q}(h:(fG s ps q).2=0):DX q:=(Nb q (HF h).2.2.2).1
theorem Q2{n}(h:xB n){b}(c:b∈nF n):b≠32:=by
 intro e;subst e;by_cases f:0<=n
 .rw[Fu h f]at c;have:=VX _ _ c;simp at this
 .rw[Fv h aD]at c;rcases mem_cons.1 c with d|d
  .cases d
  .have:=VX _ _ d;simp at this
theorem wF n l:i7 (n::l)=nF n++32::i7 l:=by unfold i7;grind
theorem iN{m n r r'}(d:xB m)(e:xB n)(h:nF m++32::r=nF n++32::r'):m=n/\r=r':=by
 obtain⟨f,g⟩:=WM (λc=>Q2 d c rfl) (λc=>Q2 e c rfl) h;exact⟨a3Z d e f,g⟩
theorem Oq p l:xG (p::l)=nF p.1++32::(nF p.2++32::xG l):=by
 show i7 [p.1,p.2]++xG l=_;rw[wF,wF,append_assoc,cons_append,append_assoc];rfl
theorem Oi p l:xE (p::l)=nF p.1++32::(nF (if p.2 then 1 else 0)++32::xE l):=by
 show i7 [p.1,if p.2 then 1 else 0]++xE l=_;rw[wF,wF,append_assoc,cons_append,append_assoc];rfl
structure Zc(o:OV):Prop where
 kind_:xB o.kind
 index_:xB o.index
 vkind_:xB o.value.kind
 int_:xB o.value.int
 text_:o.value.text.size<=64
mutual
def MB:Pred->Prop
 |.mk op c l r args=>xB op/\xB c/\Zc l/\Zc r/\args.length<=8000000/\Sb args
def Sb:dp->Prop
 |[]=>True
 |p::ps=>MB p/\Sb ps
end
theorem yV{n:Nat}(h:n<=8000000):xB (n:Int):=⟨aD,aD⟩
theorem J4{o o' r r'}(d:Zc o)(e:Zc o')(h:D1 o++r=D1 o'++r'):o=o'/\r=r':=by
 have z:i7 []=[]:=rfl;simp only[D1,AR,wF,z,append_assoc,cons_append,nil_append]at h;obtain⟨j,h⟩:=iN d.kind_ e.kind_ h;obtain⟨n,h⟩:=iN d.index_ e.index_ h;obtain⟨u,h⟩:=iN d.vkind_ e.vkind_ h;obtain⟨x,h⟩:=iN d.int_ e.int_ h;obtain⟨y,h⟩:=iN (yV (by have:=d.text_;omega)) (yV (by have:=e.text_;omega)) h;have y:o.value.text.size=o'.value.text.size:=by omega
 obtain⟨f,A⟩:=append_inj h (by rw[Array.length_toList,Array.length_toList];exact y);refine⟨?_,A⟩;obtain⟨k,i,⟨D,E,g⟩⟩:=o;obtain⟨F,G,⟨B,C,c⟩⟩:=o';obtain⟨g⟩:=g;obtain⟨c⟩:=c;simp only at j n u x f;have f:g=c:=Array.toList_inj.1 f;subst j n u x f;rfl
mutual
theorem Oo:∀{p c:Pred}{r r':dr},MB p->MB c->tA p++r=tA c++r'->p=c/\r=r'
 |.mk op f l J args,.mk g e L j d,r,r',n,o,h=>by
  obtain⟨u,x,y,z,A,B⟩:=n;obtain⟨C,D,E,F,G,H⟩:=o;have I:i7 []=[]:=rfl;simp only[tA,wF,I,append_assoc,cons_append,nil_append]at h;obtain⟨M,h⟩:=iN u C h;obtain⟨O,h⟩:=iN x D h;obtain⟨P,h⟩:=J4 y E h;obtain⟨Q,h⟩:=J4 z F h;obtain⟨R,h⟩:=iN (yV A) (yV G) h;obtain⟨S,T⟩:=KS B H aD h
  grind
theorem KS:∀{ps c:dp}{r r':dr},Sb ps->Sb c->ps.length=c.length->pV ps++r=pV c++r'->ps=c/\r=r'
 |[],[],r,r',_,_,_,h=>⟨rfl,by simpa[pV]using h⟩
 |[],_::_,_,_,_,_,d,_=>by simp at d
 |_::_,[],_,_,_,_,d,_=>by simp at d
 |p::ps,g::c,r,r',e,f,d,h=>by
  simp only[pV,append_assoc]at h;obtain⟨j,h⟩:=Oo e.1 f.1 h;obtain⟨n,o⟩:=KS e.2 f.2 bo h
  grind
end
structure b1X(t:Step):Prop where
 wher:MB t.wher
 cols:∀n∈t.columns,xB n
 on_:∀p∈t.on,xB p.1/\xB p.2
 group_:∀n∈t.group,xB n
 order_:∀p∈t.order,xB p.1
theorem kG{n}(c: -8000000<=n)(d:n<=8000000):xB n:=⟨aD,aD⟩
theorem HZ:xB 0:=⟨bj,bj⟩
theorem wE:Zc fQ:=⟨HZ,HZ,HZ,HZ,bj⟩
theorem bmQ{v}(h:Zl v zeroV=true):v=zeroV:=G6.1 h
theorem YX{o}(h:sT l o≠0)(f:l.length<=8000000)(d:xB o.kind):Zc o:=by
 unfold sT at h;split at h
 .omega
 .rename_i c;simp only[Bool.or_eq_true,not_or,Bool.not_eq_true',Bool.not_eq_false,cr]at c;have e:=bmQ c.2;refine⟨d,kG aD aD,?_,?_,?_⟩
  all_goals rw[e]
  .exact wE.vkind_
  .exact wE.int_
  .exact wE.text_
theorem Xi{cols params o}(h:kindOf cols params o≠0)(j:cols.length<=8000000)(n:params.length<=8000000)(f:NX o.value):Zc o:=by
 unfold kindOf at h;split at h
 .rename_i d;have d:o.kind=3:=bo
  split at h
  .omega
  .rename_i g;simp only[Bool.or_eq_true,not_or,Bool.not_eq_true',Bool.not_eq_false,bne_iff_ne,ne_eq,Classical.not_not,kM,cm,cr]at g;refine⟨kG aD aD,kG aD aD,?_,f.int_,f.text_⟩;have c:=g.2.1;unfold nI at c;split at c
   .grind
   .split at c
    .rename_i e;simp at e;exact kG aD aD
    .split at c
     .rename_i e;simp at e;exact kG aD aD
     .split at c
      .rename_i e;simp at e;exact kG aD aD
      .cases c
 .split at h
  .rename_i d;simp at d;exact YX h n (kG aD aD)
  .split at h
   .rename_i d;simp at d;exact YX h j (kG aD aD)
   omega
theorem HA:∀ps:dp,(ps.length:Int)<=D0 ps
 |[]=>by simp[D0]
 |p::ps=>by
  have:=HA ps;have:1<=SN p:=by cases p;rename_i a;have:=HA a;simp only[SN];omega
  simp only[D0,cu];omega
theorem cdJ p:1<=SN p:=by cases p;rename_i a;have:=HA a;simp only[SN];omega
mutual
theorem Wz{cols params:db}(c:cols.length<=8000000)(d:params.length<=8000000):∀p:Pred,kH cols params p=true->ES p->SN p<=1000->MB p
 |.mk op n l r args,h,w,o=>by
  have u:=HA args;simp only[SN]at o;unfold kH at h;split at h
  .rename_i e;simp only[cm,HG,beq_iff_eq]at h;have:args=[]:=eq_nil_of_length_eq_zero h.2;subst this;have f:=vL.1 h.1.1.2;have g:=vL.1 h.1.2;subst f g;have j:op=1\/op=2:=bx e
   exact⟨kG aD aD,by rw[h.1.1.1];exact HZ,wE,wE,bi,trivial⟩
  .split at h
   .rename_i e;simp only[cm,beq_iff_eq,bne_iff_ne,ne_eq,cr]at h;have:args=[]:=eq_nil_of_length_eq_zero h.1.1.1.1;subst this;have j:op=3:=bx e
    exact⟨kG aD aD,kG aD aD,Xi h.1.2 c d w.1,Xi (cols:=cols) (params:=params) aD c d w.2.1,bi,trivial⟩
   .split at h
    .rename_i e;simp only[cm,HG,beq_iff_eq]at h;have f:=vL.1 h.1.1.2;have g:=vL.1 h.1.2;subst f g
     have j:op=4\/op=5\/op=6:=by
      grind
     exact⟨kG aD aD,by rw[h.1.1.1];exact HZ,wE,wE,aD,SM c d args h.2 w.2.2 aD⟩
    .cases h
theorem SM{cols params:db}(c:cols.length<=8000000)(d:params.length<=8000000):∀ps:dp,z6 cols params ps=true->NY ps->D0 ps<=1000->Sb ps
 |[],_,_,_=>trivial
 |p::ps,h,w,e=>by
  simp only[z6,cm]at h;have f:=cdJ p;have g:=HA ps;simp only[D0]at e;exact⟨Wz c d p h.1 w.1 aD,SM c d ps h.2 w.2 aD⟩
end
theorem cQZ{cols params}(h:gY cols params p=0)(c:cols.length<=8000000)(d:params.length<=8000000)(w:ES p):MB p:=by
 unfold gY at h;split at h
 .cases h
 .split at h
  .cases h
  .rename_i e;split at h
   .cases h
   .rename_i g;have f:kH cols params p=true:=bo
    simp only[Bool.or_eq_true,not_or,cr]at e;have j:=IA p 0 aD
    have:SN p<=24:=by
     omega
    exact Wz c d p f w aD
theorem cOX:MB fN:=⟨HZ,HZ,wE,wE,bj,trivial⟩
def b6Q:Query->Prop
 |.mk _ _ w co on gr od _ _=>MB w/\(∀n∈co,xB n)/\(∀p∈on,xB p.1/\xB p.2)/\(∀n∈gr,xB n)/\∀p∈od,xB p.1
def QI(q:Query):Prop:=
 match q with
 |.mk op ta w co on gr od li args=>b6Q (.mk op ta w co on gr od li [])/\∀a∈args,QI a
 termination_by SizeOf.sizeOf q
theorem J1{op w on args}:
 QI (.mk op ta w co on gr od li args)↔b6Q (.mk op ta w co on gr od li [])/\∀a∈args,QI a:=by rw[QI.eq_def]
theorem Dw{α T l}{P:α->Prop}(h:Good T l)(d:∀c x,T c x->P x):∀x∈l,P x:=λx e=>by
 obtain⟨j,f⟩:=mem_iff_getElem?.1 e;exact d _ _ (h j x f)
theorem Xo{n}(c:l.length<=1000)(h:DZ l n=true):xB n:=by
 have:=eZ.1 h;exact kG aD aD
theorem ZH{s:jC}{ps:db}{op ta:Int}{w co on gr od li args a b}(G:a.length<=12)(H:b.length<=12)(o:ps.length<=1000)(u:ES w)(h:(eV s ps (.mk op ta w co on gr od li args) a b).2=0):
 b6Q (.mk op ta w co on gr od li []):=by
 unfold eV at h;dsimp only at h;split at h
 .simp[eK]at h
 .rename_i f;rw[not_or]at f;have y:dC (.mk op ta w co on gr od li args):=Classical.not_not.1 f.2;obtain⟨_,z,A,B,C⟩:=y
  have D:MB w:=by
   rcases z with rfl|rfl
   .simp only[show¬((2:Int)=1)by decide,if_false,if_true]at h;split at h
    .rename_i e;exact cQZ e aD aD u
    .rename_i e;simp[eK]at h;omega
   .exact cOX
  have E:∀n∈co,xB n:=by
   rcases A with rfl|rfl
   .simp only[show¬((3:Int)=1)by decide,show¬((3:Int)=2)by decide,if_false,if_true]at h;split at h
    .rename_i e;exact Dw e.2 λc x t=>Xo aD t
    .simp[eK]at h
   grind
  have F:∀p∈on,xB p.1/\xB p.2:=by
   have d:Good (nH a b) on->∀p∈on,xB p.1/\xB p.2:=λg=>Dw g λc x t=>⟨Xo aD t.1,Xo aD t.2.1⟩
   rcases B with rfl|rfl|rfl
   .simp only[show¬((4:Int)=1)by decide,show¬((4:Int)=2)by decide,show¬((4:Int)=3)by decide,if_false,if_true]at h;split at h
    .grind
    .simp[eK]at h
   .simp only[show¬((5:Int)=1)by decide,show¬((5:Int)=2)by decide,show¬((5:Int)=3)by decide,show¬((5:Int)=4)by decide,if_false,if_true]at h;split at h
    .grind
    .simp[eK]at h
   grind
  have j:(∀n∈gr,xB n)/\∀p∈od,xB p.1:=by
   have d:mW a gr od li->(∀n∈gr,xB n)/\∀p∈od,xB p.1:=λr=>⟨Dw r.group_ λc x t=>Xo aD t.1,Dw r.order_ λc x t=>Xo aD t⟩
   rcases C with rfl|rfl|⟨rfl,rfl,_⟩
   .simp only[show¬((9:Int)=1)by decide,show¬((9:Int)=2)by decide,show¬((9:Int)=3)by decide,show¬((9:Int)=4)by decide,show¬((9:Int)=5)by decide,if_false,if_true]at h;split at h
    .grind
    .simp[eK]at h
   .simp only[show¬((10:Int)=1)by decide,show¬((10:Int)=2)by decide,show¬((10:Int)=3)by decide,show¬((10:Int)=4)by decide,show¬((10:Int)=5)by decide,show¬((10:Int)=9)by decide,if_false,if_true]at h;split at h
    .grind
    .simp[eK]at h
   grind
  exact⟨D,E,F,j.1,j.2⟩
theorem VG{s:jC}{ps:db}(c:ps.length<=1000):∀q:Query,(aK s ps q).2=0->QW q->QI q
 |.mk op ta w co on gr od li args,h,d=>by
  obtain⟨f,o,a,b,g,j,n⟩:=lO h;rw[MU]at d;rw[J1];exact⟨ZH g j c d.1 n,λq e=>VG c q (f q e) (d.2 q e)⟩
def Fc(a:Int)(n:Bool)(e:Int):=if n=true then decide (0<=a)&&decide (a<e)else a==0
def b8J:Vc.Spec:=λc m h K=>∃a n e,c=[cI a,cB n,cI e]/\K (cB (Fc a n e)) m h
def bZZ:Vc.Spec:=λc m h K=>∃v p,c=[aP v]/\fJ h p v/\∀r:Bool,(r=true↔p=fN)->K (cB r) m h
def Y6:Vc.Spec:=λc m h K=>∃v t,c=[aT v]/\vN h t v/\∀r:Bool,(r=true↔dC t.query)->K (cB r) m h
noncomputable def bOX(v:xU)(m:MH)(h:PH):=
 cZ [(197,bZZ)] [] ([3,5,7,9].map λk=>(k,{A:=Unit,st:=λ_=>bS 66 67 [(1,.at (.ptr 1 0))] [(1,.cells 101 (v.enc.map .val))] m h})) [] false
def Ue(op:Int)(m:MH)(h:PH)(K:da):=
  cW (op==1) (K (fI 0) m h) (op==2) (K (fI 1) m h) (cW (op==3) (K (fI 1) m h) (op==9) (K (fI 1) m h) (cW (op==4) (K (fI 2) m h) (op==5) (K (fI 2) m h) (cW (op==6) (K (fI 2) m h) (op==7) (K (fI 2) m h) (cW (op==8) (K (fI 2) m h) (op==10) (K (fI 2) m h) (K (fI (Int.negSucc 0)) m h)))))
def Ud(a:Int)(n:Bool)(e:Int)(m:MH)(h:PH)(K:da):=
  branch n (gQ a 0 (K (yF (decide (a<e))) m h) (K bB m h)) (K (yF (a==0)) m h)
def TK(v:PV)(m:MH)(h:PH)(K:da):=
  dO v.op 0 (dO v.cmp 0 (∃(r:Bool),fT (pI 32 v.left.enc GD r) r (∃(c:Bool),fT (pI 32 v.right.enc GD c) c (K (yF (wY v==0)) m h) (K bB m h)) (K bB m h)) (K bB m h)) (K bB m h)
def Uc(v:xU)(m:MH)(h:PH)(K:da):=
  ∃(I:Unit->Prop),dH v.op 1 (dH v.table 0 (K bB m h) (∃(x:Unit),aA (I x) eJ (aA (nN v) (m=m) (bQ h h)))) (∃(x:Unit),aA (I x) eJ (aA (nN v) (m=m) (bQ h h)))/\∀(x:Unit),I x->∃(I1:Unit->Prop),dH v.op 2 (tM (λf p=>aA (tS v.where_=tS f) (fJ h p f) (∀(r:Bool),iB (gU r (p=LV)) (!r) (K bB m h) (∃(d:Unit),aA (I1 d) eJ (aA (nN v) (m=m) (bQ h h)))))) (∃(d:Unit),aA (I1 d) eJ (aA (nN v) (m=m) (bQ h h)))/\∀(d:Unit),I1 d->∃(I2:Unit->Prop),dH v.op 3 (fX (aG v.columns) 0 (K bB m h) (∃(e:Unit),aA (I2 e) eJ (aA (nN v) (m=m) (bQ h h)))) (∃(e:Unit),aA (I2 e) eJ (aA (nN v) (m=m) (bQ h h)))/\∀(e:Unit),I2 e->∃(I3:Unit->Prop),dH v.op 4 (dH v.op 5
 (fX (aG v.on) 0 (K bB m h) (∃(c:Unit),aA (I3 c) eJ (aA (nN v) (m=m) (bQ h h)))) (∃(c:Unit),aA (I3 c) eJ (aA (nN v) (m=m) (bQ h h)))) (∃(c:Unit),aA (I3 c) eJ (aA (nN v) (m=m) (bQ h h)))/\∀(c:Unit),I3 c->dH v.op 9 (dH v.op 10 (dO (aG v.group) 0 (dO (aG v.order) 0 (K (yF (v.limit==0)) m h) (K bB m h)) (K bB m h)) (K fM m h)) (K fM m h)
theorem anJ:cz 147 Sr:=by
 refine gW func147 ?_;rintro d m h K ⟨op,rfl,c⟩;refine⟨cZ [] [] [] [] false,rfl,aI,Ue op m h K,bh,?_⟩;dsimp only[Ue,push_cast]
 repeat' (first|(refine aC (λ_=>?_) (λ_=>?_))|(refine B3 c ?_;simp only[arity];simp only[*,Bool.or_false,Bool.false_or,Bool.or_true,Bool.true_or,Bool.and_true,Bool.true_and,Bool.and_false,Bool.false_and,Bool.not_true,Bool.not_false,Bool.false_eq_true,if_true,if_false, ↓reduceIte];done)|(refine B3 c ?_;simp only[arity];grind))
theorem anZ:cz 148 b8J:=by
 refine gW func148 ?_;rintro f m h K ⟨a,n,e,rfl,c⟩;refine⟨cZ [] [] [] [] false,rfl,aI,Ud a n e m h K,bh,?_⟩;dsimp only[Ud,push_cast];unfold Fc at c;refine aC (λd=>?_) (λd=>?_)
 .rw[if_pos d]at c;refine aF (λg=>kD c ?_) (λg=>kD c ?_)
  .grind
  grind
 .rw[if_neg (by simp[d])]at c;exact kD c rfl
theorem aeJ:cz 197 bZZ:=by
 refine gW func197 ?_;rintro g m h K ⟨v,p,rfl,j,d⟩;refine⟨cZ [] [] [] [] false,rfl,aI,TK v m h K,bh,?_⟩;dsimp only[TK,push_cast];obtain⟨op,n,l,r,args⟩:=p;obtain⟨rfl,rfl,rfl,rfl,o⟩:=j.parts;have u:=Ft o.slen;have bad:¬(Pred.mk v.op v.cmp v.left v.right args=fN)->K (.val (.bool false)) m h:=λx=>d false ⟨λe=>(by cases e),λe=>(x e).elim⟩;simp only[fN,Pred.mk.injEq]at d bad;refine aC (λy=>aC (λz=>⟨_,BY v.left fQ,aC (λc=>⟨_,BY v.right fQ,aC (λf=>d _ ?_) (λf=>bad ?_)⟩) (λc=>bad ?_)⟩) (λz=>bad ?_)) (λy=>bad ?_)
 .rw[u];exact⟨λe=>⟨bo,bo,vL.1 c,vL.1 f,e⟩,λe=>e.2.2.2.2⟩
 .grind
 .intro e;rw[vL.2 e.2.2.1]at c;cases c
 .grind
 grind
theorem anX:cz 149 Y6:=by
 refine gW func149 ?_;rintro J m h K ⟨v,t,rfl,x,g⟩;refine⟨bOX v m h,rfl,aE aeJ aI,Uc v m h K,bh,?_⟩;dsimp only[Uc,push_cast];obtain⟨op,ta,w,co,on,gr,od,li,le,R⟩:=t;obtain⟨u,y,z,A,B,C,xs,D,_,_⟩:=x;simp only at u y z A B C xs D;have S:=Ft A.slen;have T:=Ft B.slen;have U:=Ft C.slen;have V:=Ft xs.slen;simp only[Step.query,dC]at g;subst u y D;have bad:∀{P:Prop},¬P->((v.op=1\/v.table=0)/\(v.op=2\/w=fN)/\(v.op=3\/co=[])/\(v.op=4\/v.op=5\/on=[])/\(v.op=9\/v.op=10\/(gr=[]/\od=[]/\v.limit=0))->P)->K (.val (.bool false)) m h:=λj L=>g false ⟨λe=>(by cases e),λe=>(j (L e)).elim⟩;have M:∀{n:Nat}{α:Type}{l:List α},n=l.length->((n:Int)>0↔l≠[]):=fun{n α l} e=>by rw[e,ne_eq, <-length_eq_zero_iff];omega
 refine⟨λ_=>v.op=1\/v.table=0,aC (λd=>aC (λc=>bad (P:=v.op=1\/v.table=0) ?_ λe=>e.1) (λc=>⟨(),.inr bo,MT⟩)) (λd=>⟨(),.inl bo,MT⟩),λ_ E=>?_⟩
 .grind
 refine⟨λ_=>v.op=2\/w=fN,aC (λd=>⟨v.where_,w,rfl,z,λr F=>aC (λc=>bad (P:=v.op=2\/w=fN) ?_ λe=>e.2.1) (λc=>⟨(),.inr (F.1 bo),MT⟩)⟩) (λd=>⟨(),.inl bo,MT⟩),λ_ G=>?_⟩
 .rw[not_or];refine⟨bo,λe=>?_⟩;rw[F.2 e]at c;cases c
 refine⟨λ_=>v.op=3\/co=[],aC (λd=>aF (λc=>bad (P:=v.op=3\/co=[]) ?_ λe=>e.2.2.1) (λc=>⟨(),.inr ?_,MT⟩)) (λd=>⟨(),.inl bo,MT⟩),λ_ H=>?_⟩
 .grind
 .grind
 refine⟨λ_=>v.op=4\/v.op=5\/on=[],aC (λd=>aC (λo=>aF (λc=>bad (P:=v.op=4\/v.op=5\/on=[]) ?_ λe=>e.2.2.2.1) (λc=>⟨(),.inr (.inr ?_),MT⟩)) (λo=>⟨(),.inr (.inl bo),MT⟩)) (λd=>⟨(),.inl bo,MT⟩),λ_ I=>?_⟩
 .grind
 .grind
 refine aC (λd=>aC (λc=>?_) (λc=>g true ⟨λ_=>⟨E,G,H,I,.inr (.inl bo)⟩,λ_=>rfl⟩)) (λd=>g true ⟨λ_=>⟨E,G,H,I,.inl bo⟩,λ_=>rfl⟩);have d:v.op≠9:=bo
 have c:v.op≠10:=bo
 have f:¬(gr=[]/\od=[]/\v.limit=0)->K (.val (.bool false)) m h:=λj=>bad j λe=>(e.2.2.2.2.resolve_left d).resolve_left c;refine aC (λO=>aC (λQ=>g _ ?_) (λQ=>f λe=>?_)) (λO=>f λe=>?_)
 .grind
 .grind
 .grind
open Classical in
noncomputable def W2(a co:db):db×Int:=if co≠[]/\Good (λ_ c=>DZ a c=true) co then mT (co.map λc=>a.getD c.toNat 0)else eK 120
def cIX:=λc m h K=>∃s t a co,c=[cS s,cS t]/\Ints h s a/\Ints h t co/\KR K m h (W2 a co)
def UX:Vc.Spec:=λc m h K=>∃s t u a b on,c=[cS s,cS t,cS u]/\Ints h s a/\Ints h t b/\gS h u on/\a.length<=1000/\b.length<=1000/\∀r:Bool,(r=true↔Good (nH a b) on)->K (cB r) m h
def Se:Vc.Spec:=λc m h K=>∃s v a t,c=[cS s,aT v]/\Ints h s a/\vN h t v/\a.length<=1000/\∀r:Bool,(r=true↔mW a t.group t.order t.limit)->K (cB r) m h
def eB(b:Bool):dc:=[.bool b]
noncomputable def bOQ s t m h:=
 cZ [] [(4,{A:=Nat,st:=λi=>bS 51 53 [(0,sv s),(1,sv t),(14,sv t),(15,iv t.len),(16,iv i)] [] m h}),
  (13,{A:=Nat×db,st:=λ⟨i,l⟩=>bS 51 53 [(0,sv s),(8,.at (.lst 34)),(35,sv t),(36,iv t.len),(37,iv i)] [(34,.lst 3 1 (l.map eI))] m h})] [] [] false
noncomputable def bNJ s t u m h:=
 cZ [] [(4,{A:=Nat×dt×dt,st:=λ⟨i,x,y⟩=>bS 75 78 [(0,sv s),(1,sv t),(7,.at (.lst 15)),(8,.at (.lst 18)),(19,sv u),(20,iv u.len),(21,iv i)] [(15,.lst 4 1 (x.map eB)),(18,.lst 4 1 (y.map eB))] m h})] [(9,{A:=Nat×dt×dt×Int×Int,st:=λ⟨i,x,y,a,b⟩=>bS 75 78 [(0,sv s),(1,sv t),(7,.at (.lst 15)),(8,.at (.lst 18)),(11,iv a),(12,iv b),(19,sv u),(20,iv u.len),(21,iv i)] [(15,.lst 4 1 (x.map eB)),(18,.lst 4 1 (y.map eB))] m h})] [] false
noncomputable def bNZ(s:Sl)(v:xU)(m:MH)(h:PH):=
 cZ [] [(3,{A:=Nat×dt,st:=λ⟨i,x⟩=>bS 68 70 [(0,sv s),(3,.at (.ptr 3 0)),(5,.at (.lst 12)),(14,sv v.group),(15,iv v.group.len),(16,iv i)] [(3,.cells 101 (v.enc.map .val)),(12,.lst 4 1 (x.map eB))] m h}),
  (12,{A:=Nat,st:=λi=>bS 68 70 [(0,sv s),(3,.at (.ptr 3 0)),(43,sv v.order),(44,iv v.order.len),(45,iv i)] [(3,.cells 101 (v.enc.map .val))] m h})] [] [] false
def Ub s t m h K:=
  dO (aG t) 0 (cJ K 120 m h) (mP (λI x=>aA (I x) (aJ s) (aA (aJ t) (aJ t) (aA (bG t) (bA x) (aA (m=m) (h=h) True)))) (λI u x=>I x->aZ (↑x:Int) (aG t) (bF (λb o=>aH (aM t.a b o) (0<=(↑x:Int)) ((↑x:Int)<aG t) (∃(y:Int),aL m h b (bK o x 1) (bM y)/\aZ y 0 (cJ K 120 m h) (gQ y (aG s) (cJ K 120 m h) (Ap I u x s t t m h))))) (fX (aG t) 12 (cJ K 2 m h) (aA (cF (aG t)) (nA (aG t) t) (aA (tQ t 8) (tR t) (LL (λI1 c=>aA (I1 c) (aJ s) (aA (eL 34) (aJ t) (aA (bG t) (bA c.1) (aA (qR (vK (aG t) CZ) c.2) (m=m) (bQ h h))))) (λI1 f c=>I1 c->aZ (↑c.1:Int) (aG t) (bF (λb o=>aH (aM t.a b o) (0<=(↑c.1:Int)) ((↑c.1:Int)<aG t) (∃(y:Int),aL m h
 b (bK o c.1 1) (bM y)/\bF (λg j=>aH (aM s.a g j) (0<=y) (y<aG s) (∃(n:Int),aH (aL m h g (fF j y 1) (bM n)) (0<=(↑c.1:Int)) ((↑c.1:Int)<mG (fS c.2)) (∃(e:dc),aA (pY (fS c.2) (↑c.1:Int) e) (0<e.length) (∃(d:Nat×db),aA (I1 d) (f d<f c) (aA (aJ s) (eL 34) (aA (aJ t) (bG t) (aA (fU (bC c.1 1)=bP d.1) (qR (List.set (fS c.2) (↑c.1:Int).toNat (xP (eH n) 1 e)) d.2) (bO (m=m) h h))))))))))) (bN h 1 (fS c.2) (λz A=>iP K z 0 m A)))))))))
noncomputable abbrev oN a:=List.map eB a
abbrev CH a b:=bW 4 1 a=bW 4 1 (oN b)
noncomputable abbrev BQ(a:Nat×dt×dt×Int×Int):=a.2.2.2.1
noncomputable abbrev AA(a:Nat×dt×dt×Int×Int):=a.2.2.2.2
attribute [push_cast] oN CH BQ AA
def Ua(s t u:Sl)(m:MH)(h:PH)(K:da):=
  aA (cF (aG s)) (nA (aG s) s) (aA (tQ s 1) (tR s) (aA (cF (aG t)) (nA (aG t) t) (aA (tQ t 1) (tR t) (∃(I:Nat×dt×dt->Prop)(j:Nat×dt×dt->Nat),(∃(x:Nat×dt×dt),aA (I x) (aJ s) (aA (aJ t) (eL 15) (aA (eL 18) (aJ u) (aA (bG u) (bA x.1) (j4 (CH (vK (aG s) (lJ xQ)) x.2.1) (CH (vK (aG t) (lJ xQ)) x.2.2) (m=m) h h)))))/\∀(x:Nat×dt×dt),I x->aZ (↑x.1:Int) (aG u) (bF (λb o=>aH (aM u.a b o) (0<=(↑x.1:Int)) ((↑x.1:Int)<aG u) (∃(y:Int×Int),aA (aL m h b (bK o x.1 2) (u7 y)) (cF 0) (aA CF rW (CG/\∃(I1:Nat×dt×dt×Int×Int->Prop),aZ y.1 0 (K bB m h) (gQ y.1 (aG s) (K bB m h)
 (aZ y.2 0 (K bB m h) (gQ y.2 (aG t) (K bB m h) (∃(c:Nat×dt×dt×Int×Int),aA (I1 c) (aJ s) (aA (aJ t) (eL 15) (aA (eL 18) (dV y.1 (BQ c)) (aA (dV y.2 (AA c)) (aJ u) (aA (bG u) (bV x.1 c.1) (aA (CH (oN x.2.1) c.2.1) (CH (oN x.2.2) c.2.2.1) (bO (m=m) h h))))))))))/\∀(c:Nat×dt×dt×Int×Int),I1 c->bF (λn z=>aH (aM s.a n z) (0<=BQ c) (BQ c<aG s) (∃(A:Int),aL m h n (fF z (BQ c) 1) (bM A)/\bF (λB C=>aH (aM t.a B C) (0<=AA c) (AA c<aG t) (∃(D:Int),aL m h B (fF C (AA c) 1) (bM D)/\dH A D (K bB m h) (sC (BQ c) (mG (oN c.2.1)) (λe=>pY (oN c.2.1) (BQ c) e/\∃(E:Bool),fT
 (List.take 1 (List.drop 0 e)=wZ E) E (K bB m h) (sC (AA c) (mG (oN c.2.2.1)) (λF=>pY (oN c.2.2.1) (AA c) F/\∃(G:Bool),fT (List.take 1 (List.drop 0 F)=wZ G) G (K bB m h) (sC (BQ c) (mG (oN c.2.1)) (λf=>aA (pY (oN c.2.1) (BQ c) f) (0<f.length) (aA (cF (AA c)) (AA c<mG (oN c.2.2.1)) (∃(g:dc),aA (pY (oN c.2.2.1) (AA c) g) (0<g.length) (∃(d:Nat×dt×dt),aA (I d) (j d<j x) (aA (aJ s) (aJ t) (aA (eL 15) (eL 18) (aA (aJ u) (bG u) (aA (fU (bC c.1 1)=bP d.1) (CH (List.set (oN c.2.1) (BQ c).toNat (xP Ck 1 f)) d.2.1) (aA (CH (List.set (oN c.2.2.1) (AA c).toNat (xP Ck 1 g)) d.2.2) (m=m) (bQ h
 h)))))))))))))))))))))))) (K fM m h)))))
def T9(s:Sl)(v:xU)(m:MH)(h:PH)(K:da):=
  aA (cF (aG s)) (nA (aG s) s) (aA (tQ s 1) (tR s) (∃(I:Nat×dt->Prop)(g:Nat×dt->Nat),(∃(x:Nat×dt),aA (I x) (aJ s) (aA cH (eL 12) (aA (aJ v.group) (bG v.group) (aA (bA x.1) (nN v) (aH (CH (vK (aG s) (lJ xQ)) x.2) (m=m) (h=h) True)))))/\∀(x:Nat×dt),I x->aZ (↑x.1:Int) (aG v.group) (bF (λb o=>aH (aM v.group.a b o) (0<=(↑x.1:Int)) ((↑x.1:Int)<aG v.group) (∃(y:Int),aL m h b (bK o x.1 1) (bM y)/\aZ y 0 (K bB m h) (gQ y (aG s) (K bB m h) (sC y (mG (oN x.2)) (λe=>pY (oN x.2) y e/\∃(j:Bool),fT (List.take 1 (List.drop 0 e)=wZ j) j (K bB m h) (sC y (mG (oN x.2)) (λd=>aA (pY (oN x.2) y d) (0<d.length) (∃(c:Nat×
 dt),aA (I c) (g c<g x) (aA (aJ s) cH (aA (eL 12) (aJ v.group) (aA (bG v.group) (fU (bC x.1 1)=bP c.1) (j4 (nN v) (CH (List.set (oN x.2) y.toNat (xP Ck 1 d)) c.2) (m=m) h h))))))))))))) (fX (aG v.order) 12 (K bB m h) (mP (λI1 c=>aA (I1 c) (aJ s) (aA cH (aJ v.order) (aA (bG v.order) (bA c) (aA (nN v) (m=m) (bQ h h))))) (λI1 n c=>I1 c->aZ (↑c:Int) (aG v.order) (bF (λb o=>aH (aM v.order.a b o) (0<=(↑c:Int)) ((↑c:Int)<aG v.order) (∃(y:Int×Bool),aL m h b (bK o c 2) (Az y)/\aZ y.1 0 (K bB m h) (gQ y.1 (aG s) (K bB m h) (∃(f:Nat),aA (I1 f) (n f<n c) (aA (aJ s) cH (aA (aJ v.order) (bG v.order) (aA (fU (bC c 1)=bP f) (nN v) (bO (m=m) h
 h))))))))) (gQ v.limit 0 (K (yF (decide (v.limit<=100))) m h) (K bB m h)))))))
theorem KR.bad{r e}(c:KR K m h r)(d:r=eK e):K (.tup [.val (.slice none 0 0),.val (.int .i64 e)]) m h:=c.err (.refl _) d
theorem anQ:cz 150 cIX:=by
 refine gW func150 ?_;rintro I m h K ⟨s,t,a,co,rfl,E,x,n⟩;refine⟨bOQ s t m h,rfl,aI,Ub s t m h K,bh,?_⟩;dsimp only[Ub,push_cast];have U:=E.slen;have y:=x.slen;have F:=x.len;unfold W2 at n;refine aC (λG=>n.bad (if_neg λe=>e.1 ((Ft x.slen).1 G))) (λG=>?_);have z:co≠[]:=λe=>bo
 refine⟨λi=>i<=co.length/\gG (λ_ c=>DZ a c=true) co i,λi=>co.length-i,⟨0,⟨aD,.zero⟩,MT⟩,λi⟨V,H⟩=>aF (λd=>?_) (λA=>?_)⟩
 .obtain⟨c,j⟩:=dW y d;obtain⟨b,o,e,r⟩:=x.at' j;refine⟨b,o,e,aD,d,c,.imm r,aF (λB=>n.bad (if_neg λg=>?_)) (λB=>aF (λJ=>n.bad (if_neg λg=>?_)) (λJ=>⟨i+1,⟨aD,H.succ j (eZ.2 ⟨aD,aD⟩)⟩,bo,MT⟩))⟩
  .have:=eZ.1 (g.2 i c j);omega
  .have:=eZ.1 (g.2 i c j);omega
 have f:=H.all aD;rw[if_pos ⟨z,f⟩]at n;refine aF (λB=>n.big (.refl _) rfl bn) (λB=>⟨aD,aD,aD,aD,?_⟩);refine⟨λ⟨i,l⟩=>i<=co.length/\l=((co.take i).map λc=>a.getD c.toNat 0)++replicate (co.length-i) 0,λ⟨i,_⟩=>co.length-i,⟨(0,replicate co.length 0),⟨aD,bi⟩,?_⟩,?_⟩
 .have:List.map eI (replicate co.length (0:Int))=replicate (Int.toNat (t.len:Int)) [eH 0]:=by rw[map_replicate,Int.toNat_natCast,y];rfl
  grind
 rintro⟨i,l⟩ ⟨L,rfl⟩;dsimp only;refine aF (λd=>?_) (λA M h' C W=>n.ok C rfl bn ?_)
 .obtain⟨c,j⟩:=dW y d;obtain⟨b,o,e,r⟩:=x.at' j;have u:=eZ.1 (f i c j);obtain⟨O,P,Q,R⟩:=E.inb u.1 u.2;refine⟨b,o,e,aD,d,c,.imm r,O,P,Q,u.1,aD,a.getD c.toNat 0,.imm R,aD,bn,eI 0,?_,by simp[eI],(i+1,((co.take (i+1)).map λc=>a.getD c.toNat 0)++replicate (co.length-(i+1)) 0),⟨aD,rfl⟩,aD,?_⟩
  .grind
  .have S:co.length-i=(co.length-(i+1))+1:=by omega
   have T:(List.map eI (((co.take i).map λc=>a.getD c.toNat 0)++replicate (co.length-i) 0)).set (Int.toNat (i:Int)) (eH (a.getD c.toNat 0)::([]++List.drop 1 (eI 0)))=List.map eI (((co.take (i+1)).map λc=>a.getD c.toNat 0)++replicate (co.length-(i+1)) 0):=by
    have X:((co.take i).map λc=>a.getD c.toNat 0).length=i:=bn
    rw[S,replicate_succ,cq,j,Int.toNat_natCast];simp only[cj,map_cons];have D:(List.map eI ((co.take i).map λc=>a.getD c.toNat 0)).length=i:=bo
    rw[set_append_right _ _ aD,D,Nat.sub_self];simp[eI]
   rw[<-T];exact MT
 .have:i=co.length:=by omega
  subst this
  grind
structure Seen(n:Nat)(x:dt)(l:db):Prop where
 len:x.length=n
 iff:∀k:Nat,k<n->(x[k]? =some true↔(k:Int)∈l)
theorem Seen.zero n:Seen n (replicate n false) []:=⟨bi,λk c=>bo⟩
theorem Seen.map0{n}{s:Sl}(h:s.len=n):List.map eB (replicate n false)=replicate (Int.toNat (s.len:Int)) [Value.bool false]:=by rw[map_replicate,Int.toNat_natCast,h];rfl
theorem Seen.look{n x}(h:Seen n x l){c:Int}(d:0<=c)(e:c<n):∃y,(List.map eB x)[c.toNat]? =some (eB y)/\(y=true↔c∈l):=by
 have f:=h.len;have g:c.toNat<x.length:=by omega
 refine⟨x[c.toNat],bo,?_⟩;have:=h.iff c.toNat aD
 grind
theorem Seen.set{n x}(h:Seen n x l){c:Int}(f:0<=c)(g:c<n):Seen n (x.set c.toNat true) (l++[c]):=by
 refine⟨bx h.len,λk d=>?_⟩;have j:=h.len;rw[getElem?_set,mem_append,mem_singleton];by_cases e:c.toNat=k
 .grind
 .rw[if_neg e,h.iff k d]
  grind
theorem Seen.cells x k y:(List.map eB x).set k (Value.bool true::([]++List.drop 1 (eB y)))=List.map eB (x.set k true):=by rw[map_set];rfl
theorem amJ:cz 151 UX:=by
 refine gW func151 ?_;rintro T m h K ⟨s,t,u,a,b,on,rfl,I,J,F,al,bl,L⟩;refine⟨bNJ s t u m h,rfl,aI,Ua s t u m h K,bh,?_⟩;dsimp only[Ua,push_cast];have U:=I.slen;have V:=J.slen;have W:=F.slen;have G:=F.len;refine⟨aD,aD,aD,aD,aD,aD,aD,aD,?_⟩;refine⟨λ⟨i,x,y⟩=>i<=on.length/\gG (nH a b) on i/\Seen a.length x ((on.take i).map λp=>p.1)/\Seen b.length y ((on.take i).map λp=>p.2),λ⟨i,_,_⟩=>on.length-i,⟨(0,replicate a.length false,replicate b.length false),⟨aD,.zero,.zero _,.zero _⟩,?_⟩,?_⟩
 .rw[Seen.map0 U,Seen.map0 V];exact MT
 rintro⟨i,x,y⟩ ⟨X,H,A,B⟩;dsimp only at X H A B⊢
 refine aF (λn=>?_) (λY=>L true ⟨λ_=>H.all aD,λ_=>rfl⟩);obtain⟨p,o⟩:=dW W n;obtain⟨Z,o1,e1,r1⟩:=F.at o;have bad:¬nH a b (on.take i) p->K (.val (.bool false)) m h:=λhn=>L false ⟨λe=>(by cases e),λe=>(Good.not o hn e).elim⟩;refine⟨Z,o1,e1,aD,n,p,.imm r1,aD,aD,aD,aD,λ⟨i',x',y',c,d⟩=>i'=i/\x'=x/\y'=y/\c=p.1/\d=p.2/\DZ a p.1=true/\DZ b p.2=true,?_,?_⟩
 .refine aF (λz=>bad λg=>?_) (λz=>aF (λC=>bad λg=>?_) (λC=>aF (λD=>bad λg=>?_) (λD=>aF (λh4=>bad λg=>?_) (λh4=>⟨(i,x,y,p.1,p.2),⟨rfl,rfl,rfl,rfl,rfl,eZ.2 ⟨aD,aD⟩,eZ.2 ⟨aD,aD⟩⟩,MT⟩))))
  .have:=eZ.1 g.1;omega
  .have:=eZ.1 g.1;omega
  .have:=eZ.1 g.2.1;omega
  .have:=eZ.1 g.2.1;omega
 rintro⟨i,x,y,c,d⟩ ⟨rfl,rfl,rfl,rfl,rfl,M,O⟩;dsimp only;have f:=eZ.1 M;have j:=eZ.1 O;obtain⟨b2,o2,e2,r2⟩:=I.inb f.1 f.2;obtain⟨b3,o3,e3,r3⟩:=J.inb j.1 j.2;obtain⟨P,Q,q1⟩:=A.look f.1 f.2;obtain⟨R,S,q2⟩:=B.look j.1 j.2;have lx:=A.len;have ly:=B.len;refine⟨b2,o2,e2,f.1,aD,_,.imm r2,b3,o3,e3,j.1,aD,_,.imm r3,aC (λz=>bad λg=>?_) (λz=>⟨f.1,bn,_,Q,P,rfl,aC (λC=>bad λg=>?_) (λC=>⟨j.1,bn,_,S,R,rfl,aC (λD=>bad λg=>?_) (λD=>?_)⟩)⟩)⟩
 .rw[g.2.2.1]at z;simp at z
 .obtain⟨q,E,e⟩:=mem_map.1 (q1.1 C);exact(g.2.2.2 q E).1 e
 .obtain⟨q,E,e⟩:=mem_map.1 (q2.1 D);exact(g.2.2.2 q E).2 e
 refine⟨f.1,bn,_,Q,by simp[eB],j.1,bn,_,S,by simp[eB],(i+1,x.set p.1.toNat true,y.set p.2.toNat true),⟨aD,H.succ o ⟨M,O,bo,λq E=>⟨λe=>?_,λe=>?_⟩⟩,?_,?_⟩,aD,?_⟩
 .grind
 .grind
 .rw[cq,o,cj];exact A.set f.1 f.2
 .rw[cq,o,cj];exact B.set j.1 j.2
 .rw[<-Seen.cells x p.1.toNat P, <-Seen.cells y p.2.toNat R];exact MT
theorem amZ:cz 153 Se:=by
 refine gW func153 ?_;rintro S m h K ⟨s,v,a,t,rfl,T,x,al,O⟩;refine⟨bNZ s v m h,rfl,aI,T9 s v m h K,bh,?_⟩;dsimp only[T9,push_cast];have U:=T.slen;have V:=x.group_.slen;have W:=x.order_.slen;have P:=x.group_.len;have Q:=x.order_.len;have X:=x.limit_;have bad:¬mW a t.group t.order t.limit->K (.val (.bool false)) m h:=λA=>O false ⟨λe=>(by cases e),λe=>(A e).elim⟩;refine⟨aD,aD,aD,aD,?_⟩;refine⟨λ⟨i,u⟩=>i<=t.group.length/\gG (He a) t.group i/\Seen a.length u (t.group.take i),λ⟨i,_⟩=>t.group.length-i,⟨(0,replicate a.length false),⟨aD,.zero,.zero _⟩,?_⟩,?_⟩
 .rw[Seen.map0 U];exact MT
 rintro⟨i,u⟩ ⟨G,E,B⟩;dsimp only at G E B⊢
 have Y:=B.len;refine aF (λd=>?_) (λC=>?_)
 .obtain⟨c,j⟩:=dW V d;obtain⟨H,I,J,L⟩:=x.group_.at' j;have f:¬He a (t.group.take i) c->K (.val (.bool false)) m h:=λA=>bad λo=>Good.not j A o.group_;refine⟨H,I,J,aD,d,c,.imm L,aF (λM=>f λg=>?_) (λM=>aF (λz=>f λg=>?_) (λz=>?_))⟩
  .have:=eZ.1 g.1;omega
  .have:=eZ.1 g.1;omega
  obtain⟨y,R,Z⟩:=B.look (c:=c) aD aD;refine⟨aD,bn,_,R,y,rfl,aC (λF=>f λg=>g.2 (Z.1 F)) (λF=>⟨aD,bn,_,R,by simp[eB],(i+1,u.set c.toNat true),⟨aD,E.succ j ⟨eZ.2 ⟨aD,aD⟩,λe=>?_⟩,?_⟩,aD,?_⟩)⟩
  .grind
  .rw[cq,j];exact B.set aD aD
  .rw[<-Seen.cells u c.toNat y];exact MT
 have gg:=E.all aD;clear G E C B Y;refine aF (λM=>bad λo=>by have:=o.len_;omega) (λM=>?_);refine⟨λi=>i<=t.order.length/\gG (Kr a) t.order i,λi=>t.order.length-i,⟨0,⟨aD,.zero⟩,MT⟩,λi⟨G,D⟩=>aF (λd=>?_) (λC=>?_)⟩
 .obtain⟨c,j⟩:=dW W d;obtain⟨H,I,J,L⟩:=x.order_.at j;have n:¬Kr a (t.order.take i) c->K (.val (.bool false)) m h:=λA=>bad λo=>Good.not j A o.order_;refine⟨H,I,J,aD,d,c,.imm L,aF (λz=>n λg=>?_) (λz=>aF (λF=>n λg=>?_) (λF=>⟨i+1,⟨aD,D.succ j (eZ.2 ⟨aD,aD⟩)⟩,bo,MT⟩))⟩
  .have:=eZ.1 (show DZ a c.1=true from g);omega
  .have:=eZ.1 (show DZ a c.1=true from g);omega
 have oo:=D.all aD;rw[X];refine aF (λz=>O _ ⟨λe=>⟨gg,oo,aD,z,bx e⟩,λe=>decide_eq_true e.high⟩) (λz=>bad λo=>by have:=o.low;omega)
end Go.Ps
