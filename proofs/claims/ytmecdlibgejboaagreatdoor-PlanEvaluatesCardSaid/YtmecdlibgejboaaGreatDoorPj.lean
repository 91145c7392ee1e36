/-
  Part 10 of a proof that a law of the given program returns true: a condition generator that is proved sound, and contracts of functions. No condition of its own. Own work, joined by a program (pack2.py).
-/
import Derived.Test.YtmecdlibgejboaaGreatDoorPi
set_option linter.unusedVariables false
set_option linter.unusedSimpArgs false
namespace Go.Ps
open Go Go.Vc Go.Proofs List Tryz
variable{K:bo}{m:MH}{h:PH}{s:mI}{ps:br}{ts:cn}{cb:Nat}{sc:bY}{v:QV}{q:Query}{t:Step}{p:Pred}{l:br}{i:Nat}{N:Nat}{m':MH}{h':PH}{co:br}{gr:br}{od:bz}{w:Pred}{ta:Int}{li:Int}{xs:List bm}{sz:Nat}{k:Nat}{ks:List br}{rs:br}{r:Sl}{a:br}{b:Nat}
def aSt(s:Sl):CV:=.val (.agg ⟨[.slice s.a s.len s.cap]⟩)
def bHX:Vc.Spec:=λc m h K=>∃v s,c=[aS v,cI 3]/\gO h s v/\K (cI (dH s)) m h
def xH(st:List bt):Int:=(st.map λl=>(l.length:Int)).sum
def acX:Vc.Spec:=λc m h K=>∃s d,c=[aSt s]/\Leaves h s d/\d.length<=1000/\K (cI (xH d)) m h
def akQ(s:mI)(t:Int)(r:bu):Bool:=yN s t&&(match s.tables[t.toNat]? with|some c=>FG c r|none=>false)
def Jj(s:mI)(t:Int)(r:bu):bu:=match(if yN s t then s.tables[t.toNat]? else none)with|some c=>lO c r|none=>[]
def bIZ:Vc.Spec:=λc m h K=>∃v s t d r,c=[aS v,cI t,cS d,cI 3]/\gO h s v/\bP h d r/\K (cB (akQ s t r)) m h
def Z9:Vc.Spec:=λc m h K=>∃v s t d r,c=[aS v,cI t,cS d]/\gO h s v/\bP h d r/\∀e,bP h e (Jj s t r)->K (cS e) m h
def FN:Vc.Spec:=λc m h K=>∃v s e d,c=[aS v,cI 3,aSt e]/\gO h s v/\Leaves h e d/\d.length<=1000/\K (cI (l8 s d)) m h
noncomputable def a1X:Ctx:=dG [(143,bTX),(164,Pm)] [(7,{A:=Nat×cK×Sl×MH×PH,st:=λ⟨i,t,s,m,h⟩=>bO 95 99 [(3,iv 3),(9,.at (.ptr 9 0)),(41,sv s),(42,iv s.len),(43,iv i)] [(9,.cells 82 (t.enc.map .val))] m h})] [(12,{A:=Nat×cK×VV×Sl×Bool×MH×PH,st:=λ⟨i,t,v,s,b,m,h⟩=>bO 95 99 [(3,iv 3),(9,.at (.ptr 9 0)),(10,iv i),(11,.at (.ptr 11 0)),(12,bv b),(41,sv s),(42,iv s.len),(43,iv i)] [(9,.cells 82 (t.enc.map .val)),(11,.cells 24 (v.enc.map .val))] m h}),
 (13,{A:=Nat×cK×VV×Sl×Bool×Bool×MH×PH,st:=λ⟨i,t,v,s,b,c,m,h⟩=>bO 95 99 [(3,iv 3),(9,.at (.ptr 9 0)),(10,iv i),(11,.at (.ptr 11 0)),(12,bv b),(13,bv c),(41,sv s),(42,iv s.len),(43,iv i)] [(9,.cells 82 (t.enc.map .val)),(11,.cells 24 (v.enc.map .val))] m h})] [] false
noncomputable def a1Z(s:Sl)(m:MH)(h:PH):Ctx:=dG [] [(3,{A:=Nat×Int,st:=λ⟨i,n⟩=>bO 19 20 [(3,iv n),(7,sv s),(8,iv s.len),(9,iv i)] [] m h})] [] [] false
noncomputable def brJ(v:bY)(s:Sl)(m:MH)(h:PH):Ctx:=dG [(115,bHX),(116,acX),(117,bIZ),(119,Z9),(118,JU)] [(9,{A:=Nat,st:=λi=>bO 69 72 [(1,iv 3),(3,.at (.ptr 3 0)),(29,sv s),(30,iv s.len),(31,iv i)] [(3,.cells 40 (v.enc.map .val))] m h}),
 (12,{A:=Nat×Sl×Nat,st:=λ⟨i,u,j⟩=>bO 69 72 [(1,iv 3),(3,.at (.ptr 3 0)),(8,iv i),(9,sv u),(29,sv s),(30,iv s.len),(31,iv i),(36,sv u),(37,iv u.len),(38,iv j)] [(3,.cells 40 (v.enc.map .val))] m h})] [] [] false
def RT(v:bY)(m:MH)(h:PH)(K:bo):Prop:=
  Gj v h (λs=>K (fQ (dH s)) m h) (K (fQ 0) m h)
def RS(s:Sl)(m:MH)(h:PH)(K:bo):Prop:=
  ∃(I:Nat×Int->Prop)(d:Nat×Int->Nat),(∃(x:Nat×Int),aA (I x) (cQ 0 x.2) (aA (aH s) (bG s) (dK (bC x.1) m m h h)))/\∀(x:Nat×Int),I x->aZ (↑x.1:Int) (aG s) (aK (λb o=>aA (aL s.a b o) (0<=(↑x.1:Int)) ((↑x.1:Int)<aG s/\∃(y:Sl),aJ m h b (bK o x.1 1) (aM y)/\∃(c:Nat×Int),aA (I c) (d c<d x) (aA (cQ (eT (x.2+aG y)) c.2) (aH s) (aA (bG s) (bD (fP (bE x.1 1)) c.1) (aA (m=m) (h=h) True)))))) (K (fQ x.2) m h)
abbrev kY:Prop:=mQ 3
noncomputable abbrev oE(a:Nat×cK×Sl×MH×PH):Sl:=a.2.2.1
noncomputable abbrev Fo(a:Nat×cK×Sl×MH×PH):cK:=a.2.1
noncomputable abbrev pP(a:Nat×cK×Sl×MH×PH):MH×PH:=a.2.2.2
noncomputable abbrev I0(a:Nat×cK×VV×Sl×Bool×MH×PH):Bool:=a.2.2.2.2.1
noncomputable abbrev Bc(a:Nat×cK×VV×Sl×Bool×MH×PH):Sl:=a.2.2.2.1
noncomputable abbrev Kj(a:Nat×cK×VV×Sl×Bool×MH×PH):cK:=a.2.1
noncomputable abbrev Bd(a:Nat×cK×VV×Sl×Bool×MH×PH):MH×PH:=a.2.2.2.2.2
noncomputable abbrev wS(a:Nat×cK×VV×Sl×Bool×Bool×MH×PH):Sl:=a.2.2.2.1
noncomputable abbrev Fm(a:Nat×cK×VV×Sl×Bool×Bool×MH×PH):cK:=a.2.1
noncomputable abbrev qE(a:Nat×cK×VV×Sl×Bool×Bool×MH×PH):MH×PH:=a.2.2.2.2.2.2
attribute [push_cast] kY oE Fo pP I0 Bc Kj Bd wS Fm qE
def RR(v:bY)(t:Int)(s:Sl)(m:MH)(h:PH)(K:bo):Prop:=
  nV (λj n=>∃(u:Int),aA (aW (jR (bR v)) t=aW (jR (bR j)) u) (gO h n j) (mA (yN n u) (K aX m h) (F9 v t (λb o=>∃(y:cK),aJ m h b (fX o t 5) (zS y)/\cO (aG s) (Aa y) (K aX m h) (∃(I:Nat×cK×Sl×MH×PH->Prop)(f:Nat×cK×Sl×MH×PH->Nat),(∃(x:Nat×cK×Sl×MH×PH),aA (I x) kY (aA (eP 9) (bB s (oE x)) (aA (bQ s (oE x)) (bC x.1) (aA (oQ 82 (gP y)=oQ 82 (gP (Fo x))) (cT m (pP x)) (j4 (eA h (pP x)))))))/\∀(x:Nat×cK×Sl×MH×PH),I x->aZ (↑x.1:Int) (aG (oE x)) (aK (λz A=>aA (aL (oE x).a z A) (0<=(↑x.1:Int)) ((↑x.1:Int)<aG (oE x)/\∃(g:VV),aJ (pP x).1 (pP x).2 z (bK A x.1 3) g.enc/\∃(B:VV),gK (qD g=qD
 B) (!(lD B)) (K aX (pP x).1 (pP x).2) (∃(I1:Nat×cK×VV×Sl×Bool×MH×PH->Prop),eD g.kind 2 (∃(d:Nat×cK×VV×Sl×Bool×MH×PH),aA (I1 d) kY (aA (eP 9) (cG x.1 d.1) (aA (eP 11) (iT (decide ((↑x.1:Int)>=(Fo x).key)) (I0 d)) (aA (bB (oE x) (Bc d)) (bQ (oE x) (Bc d)) (aA (cG x.1 d.1) (oQ 82 (gP (Fo x))=oQ 82 (gP (Kj d))) (aA (uB 24 g.enc=uB 24 d.2.2.1.enc) (eU (pP x) (Bd d)) (j4 (cW (pP x) (Bd d))))))))) (∃(d:Nat×cK×VV×Sl×Bool×MH×PH),aA (I1 d) kY (aA (eP 9) (cG x.1 d.1) (aA (eP 11) (BC (I0 d)) (aA (bB (oE x) (Bc d)) (bQ (oE x) (Bc d)) (aA (cG x.1 d.1) (oQ 82 (gP (Fo x))=oQ 82 (gP (Kj d))) (aA (uB 24
 g.enc=uB 24 d.2.2.1.enc) (eU (pP x) (Bd d)) (j4 (cW (pP x) (Bd d)))))))))/\∀(d:Nat×cK×VV×Sl×Bool×MH×PH),I1 d->∃(I2:Nat×cK×VV×Sl×Bool×Bool×MH×PH->Prop),eD d.2.2.1.kind 1 (∃(c:Nat×cK×VV×Sl×Bool×Bool×MH×PH),aA (I2 c) kY (aA (eP 9) (cG d.1 c.1) (aA (eP 11) (iT (I0 d) c.2.2.2.2.1) (aA (iT (decide ((↑d.1:Int)>=(Kj d).key)) c.2.2.2.2.2.1) (bB (Bc d) (wS c)) (aA (bQ (Bc d) (wS c)) (cG d.1 c.1) (aA (oQ 82 (gP (Kj d))=oQ 82 (gP (Fm c))) (uB 24 d.2.2.1.enc=uB 24 c.2.2.1.enc) (gX (eU (Bd d) (qE c)) (cW (Bd d) (qE c))))))))) (∃(c:Nat×cK×VV×Sl×Bool×Bool×MH×PH),aA (I2 c) kY (aA (eP 9) (cG d.1 c.1) (aA (eP
 11) (iT (I0 d) c.2.2.2.2.1) (aA (BC c.2.2.2.2.2.1) (bB (Bc d) (wS c)) (aA (bQ (Bc d) (wS c)) (cG d.1 c.1) (aA (oQ 82 (gP (Kj d))=oQ 82 (gP (Fm c))) (uB 24 d.2.2.1.enc=uB 24 c.2.2.1.enc) (gX (eU (Bd d) (qE c)) (cW (Bd d) (qE c)))))))))/\∀(c:Nat×cK×VV×Sl×Bool×Bool×MH×PH),I2 c->aK (λC D=>aA (aL (Fm c).columns.a C D) (0<=(↑c.1:Int)) ((↑c.1:Int)<aG (Fm c).columns/\∃(E:Int),aJ (qE c).1 (qE c).2 C (bK D c.1 2+1) (bL E)/\cO c.2.2.1.kind E (mA c.2.2.2.2.1 (mA c.2.2.2.2.2.1 (K aX (qE c).1 (qE c).2) (∃(e:Nat×cK×Sl×MH×PH),aA (I e) (f e<f x) (aA kY (eP 9) (aA (bB (wS c) (oE e)) (bQ (wS c)
 (oE e)) (aA (bD (fP (bE c.1 1)) e.1) (oQ 82 (gP (Fm c))=oQ 82 (gP (Fo e))) (gX (eU (qE c) (pP e)) (cW (qE c) (pP e)))))))) (∃(e:Nat×cK×Sl×MH×PH),aA (I e) (f e<f x) (aA kY (eP 9) (aA (bB (wS c) (oE e)) (bQ (wS c) (oE e)) (aA (bD (fP (bE c.1 1)) e.1) (oQ 82 (gP (Fm c))=oQ 82 (gP (Fo e))) (gX (eU (qE c) (pP e)) (cW (qE c) (pP e)))))))) (∃(e:Nat×cK×Sl×MH×PH),aA (I e) (f e<f x) (aA kY (eP 9) (aA (bB (wS c) (oE e)) (bQ (wS c) (oE e)) (aA (bD (fP (bE c.1 1)) e.1) (oQ 82 (gP (Fm c))=oQ 82 (gP (Fo e))) (gX (eU (qE c) (pP e)) (cW (qE c) (pP e))))))))))))) (K gL (pP
 x).1 (pP x).2))))))
def RQ(v:bY)(t:Int)(s:Sl)(m:MH)(h:PH)(K:bo):Prop:=
  aZ t 0 (K jG m h) (fO t (iX v) (K jG m h) (aK (λb o=>aA (aL (tS v) b o) (0<=t) (t<aG v.tables/\∃(y:Int),aA (aJ m h b (fX o t 5+2) (bL y)) (0<=ite (pR s y>0) (pR s y) 0) (ite (pR s y>0) (pR s y) 0<=(↑s.cap:Int)/\K (CV.val (Value.slice s.a (ite (pR s y>0) (pR s y) 0).toNat s.cap)) m h)))))
noncomputable abbrev nQ(a:Nat×Sl×Nat):Sl:=a.2.1
noncomputable abbrev Gw(a:Nat×Sl×Nat):Int:=eT ((↑a.2.2:Int)-1)
attribute [push_cast] nQ Gw
def Vi(v:bY)(s:Sl)(m:MH)(h:PH)(K:bo):Prop:=
  nV (λA n=>aA (aW (jR (bR v)) 3=aW (jR (bR A)) 3) (gO h n A) (cO (dH n) 0 (K (fQ (dH n)) m h) (HB (λB u=>aA (pY (aM s)=pY (aM B)) (Leaves h B u) (mT u.length/\dN (decide (xH u>512)) (K (fQ 2) m h) (aG s !=iX v) (K (fQ 80) m h) (nR (λI x=>aA (I x) kY (aA (eP 3) (aH s) (aA (bG s) (bC x) (aA (bM v) (m=m) (bX h h))))) (λI C x=>I x->aZ (↑x:Int) (aG s) (aK (λb o=>aA (aL s.a b o) (0<=(↑x:Int)) ((↑x:Int)<aG s/\∃(y:Sl),aJ m h b (bK o x 1) (aM y)/\∃(I1:Nat×Sl×Nat->Prop)(e:Nat×Sl×Nat->Nat),(∃(c:Nat×Sl×Nat),aA (I1 c) kY (aA (eP 3) (cG x c.1) (aA (bB y (nQ c)) (aH s) (aA (bG s) (cG x c.1) (aA (bB y (nQ c)) (bQ y
 (nQ c)) (aA (bC c.2.2) (bM v) (dW m m h h)))))))/\∀(c:Nat×Sl×Nat),I1 c->aZ (↑c.2.2:Int) (aG (nQ c)) (aK (λD E=>aA (aL (nQ c).a D E) (0<=(↑c.2.2:Int)) ((↑c.2.2:Int)<aG (nQ c)/\∃(z:Sl),aJ m h D (bK E c.2.2 1) (aM z)/\nV (λF G=>∃(t:Int),oA (λH r=>aA (cJ (bR v) (fQ (↑c.1:Int)::gQ z 3)=cJ (bR F) (fQ t::gQ H 3)) (gO h G F) (bP h H r/\mR (!(akQ G t r)) (K (fQ 80) m h) (↑c.2.2:Int) 0 (aK (λf g=>aA (aL (nQ c).a f g) (0<=Gw c) (Gw c<aG (nQ c)/\∃(j:Sl),aJ m h f (fX g (Gw c) 1) (aM j)/\nV (λJ L=>∃(M:Int),oA (λO P=>aA (cJ (bR v) (gJ (fQ (↑c.1:Int)) (rC j))=cJ (bR J) (gJ (fQ M) (rC
 O))) (gO h L J) (bP h O P/\∀(Q:Sl),bP h Q (Jj L M P)->bT h f (fX g (Gw c) 1) (aM j)/\nV (λR S=>∃(T:Int),oA (λa U=>aA (cJ (bR v) (gJ (fQ (↑c.1:Int)) (rC z))=cJ (bR R) (gJ (fQ T) (rC a))) (gO h S R) (bP h a U/\∀(V:Sl),bP h V (Jj S T U)->bT h f (fX g (Gw c) 1) (aM j)/\∃(W:Sl),oA (λX Y=>∃(Z:bu),aA (cA Q V=cA W X) (bP h W Y) (bP h X Z/\fO (eC Y Z) 0 (K (fQ 80) m h) (∃(d:Nat×Sl×Nat),aA (I1 d) (e d<e c) (aA kY iM (aA (cG c.1 d.1) (bB (nQ c) (nQ d)) (aA (aH s) (bG s) (aA (cG c.1 d.1) (bB (nQ c) (nQ d)) (aA (bQ (nQ c) (nQ d)) (bD (fP (bE c.2.2 1)) d.2.2) (dK (bM v) m m h
 h)))))))))))))))))) (∃(d:Nat×Sl×Nat),aA (I1 d) (e d<e c) (aA kY iM (aA (cG c.1 d.1) (bB (nQ c) (nQ d)) (aA (aH s) (bG s) (aA (cG c.1 d.1) (bB (nQ c) (nQ d)) (aA (bQ (nQ c) (nQ d)) (bD (fP (bE c.2.2 1)) d.2.2) (dK (bM v) m m h h))))))))))))) (∃(d:Nat),aA (I d) (C d<C x) (aA kY iM (aA (aH s) (bG s) (aA (bD (fP (bE c.1 1)) d) (bM v) (dW m m h h)))))))) (K (fQ 0) m h))))))))
theorem bP.cut{a:Option Addr}{len c:Nat}{r:bu}(x:bP h ⟨a,len,c⟩ r){n:Nat}(z:n<=r.length):bP h ⟨a,n,c⟩ (r.take n):=by
 obtain⟨⟨e,f,g,j⟩,A⟩:=x;refine⟨⟨e.take n,by rw[map_take];exact cZ.cut f n (by rw[length_map];omega),by rw[length_take,length_take,g],λi x d=>?_⟩,by rw[length_take];omega⟩;rw[getElem?_take]at d;split at d
 .rename_i o;obtain⟨v,u,y⟩:=j i x d;exact⟨v,by rw[getElem?_take,if_pos o];exact u,y⟩
 .cases d
theorem bAJ{v:bY}(d:gO h s v)(c:K (cI (dH s)) m h):RT v m h K:=
 ⟨v,s,rfl,d,aB (λ_=>c) (λe=>by rw[show dH s=0 by simpa using e]at c;exact c)⟩
theorem YA:bk 115 bHX:=by
 refine iB func115 ?_;rintro c m h K ⟨v,s,rfl,d,e⟩;refine⟨dG [(54,vO)] [] [] [] false,rfl,aD aa aF,RT v m h K,bf,?_⟩;exact bAJ d e
theorem Leaves.lens{s:Sl}{st:List bt}(c:Leaves h s st){l:bt}(d:l∈st):l.length<=502633886983:=by
 obtain⟨i,e,rfl⟩:=mem_iff_getElem.1 d;obtain⟨_,_,_,_,_,f⟩:=bN.at c (getElem?_eq_getElem e);exact f.len
theorem FK:∀{l:List bt},(∀x∈l,x.length<=502633886983)->0<=xH l/\xH l<=(l.length:Int)*502633886983
 |[],_=>by simp[xH]
 |a::l,h=>by
  have e:=h a (mem_cons_self ..);have c:=FK (l:=l) λx d=>h x (mem_cons_of_mem _ d);simp only[xH,map_cons,sum_cons,length_cons]at c⊢
  omega
theorem YL{st:List bt}{l:bt}(h:st[i]? =some l):xH (st.take (i+1))=xH (st.take i)+(l.length:Int):=by
 rw[take_add_one,h];simp[xH]
theorem Yz:bk 116 acX:=by
 refine iB func116 ?_;rintro A m h K ⟨s,c,rfl,f,J,B⟩;refine⟨a1Z s m h,rfl,aF,RS s m h K,bf,?_⟩;dsimp only[RS,push_cast];have g:=bN.slen f;refine⟨λz=>z.1<=c.length/\z.2=xH (c.take z.1),λz=>c.length-z.1,⟨(0,0),⟨bg,by simp[xH]⟩,MT⟩,?_⟩;rintro⟨i,n⟩ ⟨C,e⟩;dsimp only at C e⊢
 subst e;refine aE (λj=>?_) (λD=>?_)
 .obtain⟨l,d⟩:=eN g j;obtain⟨b,o,u,E,rd,F⟩:=bN.at f d;have y:=bN.slen F;have G:=FK (l:=c.take (i+1)) λx d=>f.lens (mem_of_mem_take d);have H:=(FK (l:=c.take i) λx d=>f.lens (mem_of_mem_take d)).1;have I:=YL d;rw[length_take]at G;refine⟨b,o,E,aC,aC,u,.imm rd,(i+1,xH (c.take (i+1))),⟨by show i+1<=c.length;omega,rfl⟩,by show c.length-(i+1)<c.length-i;omega,?_⟩;rw[eG aC aC,y, <-I];exact MT
 .rw[take_of_length_le aC];exact B
theorem Jo{t:Ay}{r:bu}:FG t r=true↔r.length=t.columns.length/\∀i,i<r.length->C8 t.key (t.columns.getD i ⟨⟨#[]⟩,0⟩).kind i (r.getD i zeroV)=true:=by
 simp only[FG,Bool.and_eq_true,decide_eq_true_eq,all_eq_true,mem_range]
theorem U5{t:Int}{r:bu}{c:Ay}(d:s.tables[t.toNat]? =some c)(h:yN s t=true):akQ s t r=FG c r:=by
 simp only[akQ,h,d,Bool.true_and]
theorem Yy:bk 117 bIZ:=by
 refine iB func117 ?_;rintro a' m h K ⟨v,s,t,O,r,rfl,P,Q,B⟩;refine⟨a1X,rfl,aD OX (aD OW aF),RR v t O m h K,bf,?_⟩;dsimp only[RR,push_cast];have a0:=P.tables.slen;have a1:=bN.slen Q;refine⟨v,s,t,rfl,P,aB (λe=>?_) (λe=>?_)⟩
 .have e:yN s t=false:=bj e
  simp only[akQ,e,Bool.false_and]at B;exact B
 have e:yN s t=true:=bj e
 have he:=e;simp only[yN,Bool.and_eq_true,decide_eq_true_eq]at he;obtain⟨d,J⟩:∃d,s.tables[t.toNat]? =some d:=⟨_,getElem?_eq_getElem aC⟩
 obtain⟨b,o,y,ea,rd,R⟩:=bN.at P.tables J;rw[U5 J e]at B;have a2:=bN.slen R.columns;have hk:=R.key;refine⟨b,o,ea,he.1,aC,y,.imm rd,aB (λG=>?_) (λG=>?_)⟩
 .have:FG d r=false:=by
   cases f:FG d r with
   |false=>rfl
   |true=>
    have:=(Jo.1 f).1;simp at G;omega
  rw[this]at B;exact B
 have S:r.length=d.columns.length:=by simp at G;omega
 have bad:∀i,i<r.length->C8 d.key (d.columns.getD i ⟨⟨#[]⟩,0⟩).kind i (r.getD i zeroV)=false->K (cB false) m h:=λi T H=>by
  have:FG d r=false:=by
   cases f:FG d r with
   |false=>rfl
   |true=>rw[(Jo.1 f).2 i T]at H;cases H
  rw[this]at B;exact B
 refine⟨λz=>z.2.1=y/\z.2.2.1=O/\z.2.2.2.1=m/\z.2.2.2.2=h/\z.1<=r.length/\∀j,j<z.1->C8 d.key (d.columns.getD j ⟨⟨#[]⟩,0⟩).kind j (r.getD j zeroV)=true,λz=>r.length-z.1,⟨(0,y,O,m,h),⟨rfl,rfl,rfl,rfl,bg,λj U=>by simp at U⟩,MT⟩,?_⟩;rintro⟨i,n,C,m',h'⟩ ⟨G,f,E,F,T,u⟩;dsimp only at G f E F T u⊢
 subst G f E F;refine aE (λa3=>?_) (λa4=>?_)
 .have L:i<r.length:=by omega
  have hx:r[i]? =some (r.getD i zeroV):=by rw[getD_eq_getElem?_getD,getElem?_eq_getElem L];rfl
  obtain⟨b2,o2,x,V,M,W⟩:=bN.at Q hx;subst W;have hc:d.columns[i]? =some (d.columns.getD i ⟨⟨#[]⟩,0⟩):=by rw[getD_eq_getElem?_getD,getElem?_eq_getElem aC];rfl
  obtain⟨b3,o3,c,X,Y,Z⟩:=bN.at R.columns hc;have g:=bad i L
  have A:C8 d.key (d.columns.getD i ⟨⟨#[]⟩,0⟩).kind i (r.getD i zeroV)=true->∀j,j<i+1->C8 d.key (d.columns.getD j ⟨⟨#[]⟩,0⟩).kind j (r.getD j zeroV)=true:=λH j U=>by
   by_cases I:j=i
   .rw[I];exact H
   .exact u j aC
  generalize r.getD i zeroV=x at g A M hx;rw[Z]at g A;have go:C8 d.key c.kind i x=true->∃z:Nat×cK×Sl×MH×PH,(z.2.1=n/\z.2.2.1=C/\z.2.2.2.1=m'/\z.2.2.2.2=h'/\z.1<=r.length/\∀j,j<z.1->C8 d.key (d.columns.getD j ⟨⟨#[]⟩,0⟩).kind j (r.getD j zeroV)=true)/\r.length-z.1<r.length-i/\z=(i+1,n,C,m',h'):=λH=>⟨_,⟨rfl,rfl,rfl,rfl,by show i+1<=r.length;omega,A H⟩,by show r.length-(i+1)<r.length-i;omega,rfl⟩
  refine⟨b2,o2,V,aC,aC,x,.imm M,x,rfl,aB (λev=>g ?_) (λev=>?_)⟩
  .have ev:lD x=false:=bj ev
   simp[C8,ev]
  have ev:lD x=true:=bj ev
  refine⟨λz=>z=(i,n,x,C,(x.kind==2&&decide ((i:Int)>=n.key)),m',h'),aB (λf=>⟨_,rfl,by rw[f];exact MT⟩) (λf=>⟨_,rfl,by rw[f];exact MT⟩),?_⟩;rintro _ rfl;dsimp only;refine⟨λz=>z=(i,n,x,C,(x.kind==2&&decide ((i:Int)>=n.key)),(x.kind==1&&decide ((i:Int)>=n.key)),m',h'),aB (λf=>⟨_,rfl,by rw[f];exact MT⟩) (λf=>⟨_,rfl,by rw[f];exact MT⟩),?_⟩;rintro _ rfl;dsimp only
  have D:C8 d.key c.kind i x=(x.kind==c.kind||((x.kind==2&&decide ((i:Int)>=n.key))||(x.kind==1&&decide ((i:Int)>=n.key)))):=by
   rw[hk];simp only[C8,ev,Bool.true_and,ge_iff_le,Bool.and_or_distrib_right]
  generalize a5:(x.kind==2&&decide ((i:Int)>=n.key))=B1 at D⊢
  generalize a6:(x.kind==1&&decide ((i:Int)>=n.key))=B2 at D⊢
  refine⟨b3,o3,X,aC,aC,c.kind,.imm (bT.part Y 1 1),aB (λE=>aB (λF=>aB (λI=>g ?_) (λI=>?_)) (λF=>?_)) (λE=>?_)⟩
  .have E:(x.kind==c.kind)=false:=bj E
   have F:B1=false:=bj F
   have I:B2=false:=bj I
   rw[D,E,F,I];rfl
  all_goals
   obtain⟨_,g1,g2,rfl⟩:=go (by rw[D];simp_all);refine⟨_,g1,g2,?_⟩;dsimp only;rw[iJ (by have:=bN.len Q;omega)];exact MT
 .have:FG d r=true:=Jo.2 ⟨S,λj U=>u j aC⟩;rw[this]at B;exact B
theorem Yx:bk 119 Z9:=by
 refine iB func119 ?_;rintro D m h K ⟨v,s,t,z,r,rfl,A,n,B⟩;refine⟨dG [] [] [] [] false,rfl,aF,RQ v t z m h K,bf,?_⟩;dsimp only[RQ,push_cast];have E:=A.tables.slen;have d:=bN.slen n;have c:yN s t=false->K jG m h:=λe=>B ⟨none,0,0⟩ (by simp only[Jj,e];exact bN.nil _ _ _ _);refine aE (λF=>c (by simp[yN];omega)) (λF=>aE (λG=>c (by simp[yN];omega)) (λG=>?_));have e:yN s t=true:=by simp[yN];omega
 obtain⟨f,g⟩:∃f,s.tables[t.toNat]? =some f:=⟨_,getElem?_eq_getElem aC⟩
 obtain⟨b,o,y,H,rd,I⟩:=bN.at A.tables g;have J:=I.key;obtain⟨a,len,j⟩:=z;have C:len<=j:=by obtain⟨O,L,_⟩:=n.ex;exact L.cap
 have d:len=r.length:=d
 have u:(if(if(len:Int)<y.key then(len:Int)else y.key)>0 then(if(len:Int)<y.key then(len:Int)else y.key)else 0)=max 0 (min f.key r.length):=by
  rw[<-J];split<;>split<;>omega
 refine⟨b,o,H,aC,aC,y.key,.imm (bT.part rd 2 1),?_⟩;dsimp only;rw[u];refine⟨aC,aC,B ⟨a,(max 0 (min f.key r.length)).toNat,j⟩ ?_⟩;have M:Jj s t r=r.take (max 0 (min f.key r.length)).toNat:=by simp only[Jj,e,if_true,g];rfl
 rw[M];exact n.cut aC
theorem GH{t:Nat}{c:Ay}(h:s.tables[t]? =some c)(r:bu):Jj s t r=lO c r:=by
 have:t<s.tables.length:=(List.getElem?_eq_some_iff.1 h).1;have e:yN s (t:Int)=true:=by simp[yN];omega
 simp only[Jj,e,if_true,Int.toNat_natCast,h]
theorem ZA{t:Nat}{c:Ay}(h:s.tables[t]? =some c)(r:bu):akQ s t r=FG c r:=by
 have:t<s.tables.length:=(List.getElem?_eq_some_iff.1 h).1;have e:yN s (t:Int)=true:=by simp[yN];omega
 exact U5 (bj h) e
theorem QQ:bk 67 FN:=by
 refine iB func67 ?_;rintro b' m h K ⟨v,s,Z,Q,rfl,T,hl,hn,d⟩;refine⟨brJ v Z m h,rfl,aD YA (aD Yz (aD Yy (aD Yx (aD BL aF)))),Vi v Z m h K,bf,?_⟩;dsimp only[Vi,push_cast];have b0:=T.tables.slen;have a':=bN.slen hl;unfold l8 at d;refine⟨v,s,rfl,T,aB (λe=>?_) (λe=>⟨Z,Q,rfl,hl,hn,aE (λR=>?_) (λR=>aB (λe3=>?_) (λe3=>?_))⟩)⟩
 .rw[if_pos (bj e)]at d;exact d
 all_goals rw[if_neg (bj e)]at d
 .rw[if_pos (by unfold xH at R;omega)]at d;exact d
 all_goals rw[if_neg (by unfold xH at R;omega)]at d
 .rw[if_pos (by simp at e3;omega)]at d;exact d
 have U:Q.length=s.tables.length:=by simp at e3;omega
 rw[if_neg (by simp[U])]at d;have bad:¬Nu s Q->K (cI 80) m h:=λhb=>by rw[if_neg hb]at d;exact d
 refine⟨λi=>i<=Q.length/\∀(j:Nat) t l,j<i->s.tables[j]? =some t->Q[j]? =some l->Ze t l,λi=>Q.length-i,⟨0,⟨bg,λj t l hj=>by omega⟩,MT⟩,?_⟩;rintro i ⟨hi,F⟩;refine aE (λa0=>?_) (λb1=>?_)
 .obtain⟨l,hx⟩:=eN a' a0;obtain⟨b,o,u,ea,rd,S⟩:=bN.at hl hx;have a1:=bN.slen S;have b4:=bN.len S;obtain⟨D,c⟩:∃D,s.tables[i]? =some D:=⟨_,getElem?_eq_getElem aC⟩
  have G:¬Ze D l->K (cI 80) m h:=λhb=>bad λf=>hb (f i D l c hx);refine⟨b,o,ea,aC,aC,u,.imm rd,λz=>z.1=i/\z.2.1=u/\z.2.2<=l.length/\(∀k r,k<z.2.2->l[k]? =some r->FG D r=true)/\∀k r I,k+1<z.2.2->l[k]? =some r->l[k+1]? =some I->eC (lO D r) (lO D I)<0,λz=>l.length-z.2.2,⟨(i,u,0),⟨rfl,rfl,bg,λk r E=>by simp at E,λk r I E=>by simp at E⟩,MT⟩,?_⟩;rintro⟨J,u',j⟩ ⟨e1,R,hj,g,y⟩;dsimp only at e1 R hj g y⊢
  subst e1 R;refine aE (λV=>?_) (λa9=>?_)
  .obtain⟨r,A⟩:=eN a1 V;obtain⟨b2,o2,w,a2,a3,hv⟩:=bN.at S A;refine⟨b2,o2,a2,aC,aC,w,.imm a3,v,s,J,w,r,rfl,T,hv,aB (λW=>G λf=>?_) (λW=>?_)⟩
   .rw[ZA c,f.1 r (mem_of_getElem? A)]at W;cases W
   have hf:FG D r=true:=by rw[ZA c]at W;simpa using W
   have B:∀k r,k<j+1->l[k]? =some r->FG D r=true:=λk I E L=>by
    by_cases X:k=j
    .subst X;rw[A]at L;cases L;exact hf
    .exact g k I aC L
   refine aE (λa4=>?_) (λa4=>?_)
   .have hw:IntKind.i64.wrap ((j:Int)-1)=((j-1:Nat):Int):=by rw[eG aC aC];omega
    obtain⟨Y,M⟩:∃Y,l[j-1]? =some Y:=⟨_,getElem?_eq_getElem aC⟩
    obtain⟨b3,o3,w3,a5,O,a6⟩:=bN.at S M;rw[hw];refine⟨b3,o3,a5,aC,aC,w3,.imm O,v,s,J,w3,Y,rfl,T,a6,λs1 a7=>⟨O,v,s,J,w,r,rfl,T,hv,λs2 a8=>⟨O,s1,s2,_,_,rfl,a7,a8,aE (λhc=>G λf=>?_) (λhc=>?_)⟩⟩⟩
    .rw[GH c,GH c]at hc;have:=f.2 (j-1) Y r M (by rw[show j-1+1=j by omega];exact A);omega
    .rw[GH c,GH c]at hc;refine⟨(J,u',j+1),⟨rfl,rfl,by show j+1<=l.length;omega,B,λk r1 r2 E H C=>?_⟩,by show l.length-(j+1)<l.length-j;omega,?_⟩
     .by_cases X:k+1=j
      .have:k=j-1:=by omega
       subst this;rw[M]at H;rw[X,A]at C;cases H;cases C;omega
      .exact y k r1 r2 (by have:k+1<j+1:=E;omega) H C
     .dsimp only;rw[iJ aC];exact MT
   .refine⟨(J,u',j+1),⟨rfl,rfl,by show j+1<=l.length;omega,B,λk r1 r2 E H C=>by have:k+1<j+1:=E;omega⟩,by show l.length-(j+1)<l.length-j;omega,?_⟩;dsimp only;rw[iJ aC];exact MT
  .refine⟨J+1,⟨aC,λk t l' E ht P=>?_⟩,aC,?_⟩
   .by_cases X:k=J
    .subst X;rw[c]at ht;cases ht;rw[hx]at P;cases P;refine⟨λr S=>?_,λk r I H C=>y k r I ?_ H C⟩
     .obtain⟨n,hn,rfl⟩:=mem_iff_getElem.1 S;exact g n _ aC (getElem?_eq_getElem hn)
     .have:=(List.getElem?_eq_some_iff.1 C).1;omega
    .exact F k t l' aC ht P
   .rw[iJ aC];exact MT
 .rw[if_pos]at d
  .exact d
  .exactλj t l H C=>F j t l (by have:=(List.getElem?_eq_some_iff.1 C).1;omega) H C
def Mh:Vc.Spec:=λc m h K=>∃sc p v s ps q,c=[aS sc,cS p,aQ v]/\gO h s sc/\Ints h p ps/\dQ h q v/\lP q=true/\KR K m h (fE s ps q)
noncomputable def aQQ(p:Sl)(N:Nat):Ctx:={pF [(54,vO),(76,TE),(77,Ak N)] [(5,{A:=Nat×Nat×Nat×Nat×Nat×MH×PH,st:=λ⟨i,a,b,c,d,m,h⟩=>bO 53 56 [(1,sv p),(3,vv (.pointer (some ⟨a,0,none⟩))),(5,vv (.pointer (some ⟨b,0,none⟩))),(6,vv (.pointer (some ⟨c,0,none⟩))),(7,vv (.pointer (some ⟨d,0,none⟩))),(18,sv p),(19,iv p.len),(20,iv i)] [] m h})] [] [] [200003,200005,200006,200007,200011,0] [] false with elemT:=[3,35]}
noncomputable abbrev eF(a:Nat×Nat×Nat×Nat×Nat×MH×PH):Nat×Nat×Nat×MH×PH:=a.2.2
abbrev MX(a:Sl)(b c:Nat×Nat×Nat×Nat×Nat×MH×PH):Prop:=aA (bG a) (bD (fP (bE b.1 1)) c.1) (aA (eU (fW (eF b)) (fW (eF c))) (cW (fW (eF b)) (fW (eF c))) True)
attribute [push_cast] eF MX
def KB(sc:bY)(p:Sl)(v:QV)(N:Nat)(m:MH)(h:PH)(K:bo):Prop:=
  fR (λb J=>aY (bW m h b) (cM m J b (bR sc) 40) (fR (λL M=>aY (bW J h L) (cM J M L v.enc 35) (fR (λE O=>aY (bW M h E) (cM M O E gA 30) (fR (λF H=>aY (bW O h F) (cM O H F (jD bJ) 44) (∃(y:bY),aJ H h b 0 (bR y)/\Gj y h (λs=>fN H E rV (λn=>fN n F (fD (dH s)) (λu=>∃(g:Sl),aJ u h E 0 (aM g)/\∃(f:Int),aJ u h F 0 (bL f)/\K (CV.tup (aW (rC g) f)) u h))) (∃(I:Nat×Nat×Nat×Nat×Nat×MH×PH->Prop)(n:Nat×Nat×Nat×Nat×Nat×MH×PH->Nat),(∃(x:Nat×Nat×Nat×Nat×Nat×MH×PH),aA (I x) (aH p) (aA (cH b x.2.1) (cH L (eF x).1) (aA (cH E (fU (eF x))) (cH F (fT (eF x))) (aA (aH p) (bG p) (aA (bC x.1) (cT H
 (fW (eF x))) (eA h (fW (eF x))/\True))))))/\∀(x:Nat×Nat×Nat×Nat×Nat×MH×PH),I x->aZ (↑x.1:Int) (aG p) (aK (λj o=>aA (aL p.a j o) (0<=(↑x.1:Int)) ((↑x.1:Int)<aG p/\∃(g:Int),aJ (jS (eF x)) (iE (eF x)) j (bK o x.1 1) (bL g)/\cO g 3 (cO g 4 (cO g 5 (fN (jS (eF x)) (fU (eF x)) rV (λu=>fN u (fT (eF x)) (fD 1) (λA=>∃(f:Sl),aJ A (iE (eF x)) (fU (eF x)) 0 (aM f)/\∃(B:Int),aJ A (iE (eF x)) (fT (eF x)) 0 (bL B)/\K (CV.tup (aW (rC f) B)) A (iE (eF x))))) (∃(c:Nat×Nat×Nat×Nat×Nat×MH×PH),aA (I c) (n c<n x) (aA (aH p) (cH x.2.1 c.2.1) (aA (cH (eF x).1 (eF c).1) (cH (fU (eF x)) (fU (eF c)))
 (aA (cH (fT (eF x)) (fT (eF c))) (aH p) (MX p x c)))))) (∃(c:Nat×Nat×Nat×Nat×Nat×MH×PH),aA (I c) (n c<n x) (aA (aH p) (cH x.2.1 c.2.1) (aA (cH (eF x).1 (eF c).1) (cH (fU (eF x)) (fU (eF c))) (aA (cH (fT (eF x)) (fT (eF c))) (aH p) (MX p x c)))))) (∃(c:Nat×Nat×Nat×Nat×Nat×MH×PH),aA (I c) (n c<n x) (aA (aH p) (cH x.2.1 c.2.1) (aA (cH (eF x).1 (eF c).1) (cH (fU (eF x)) (fU (eF c))) (aA (cH (fT (eF x)) (fT (eF c))) (aH p) (MX p x c)))))))) (fR (λj u=>aY (bW (jS (eF x)) (iE (eF x)) j) (cM (jS (eF x)) u j (jD bJ) 3) (fN u j bJ (λA=>AX A (iE (eF x)) (eF x).1 0 (λg=>∃(P
 :QV),jP (tT (dL g)=tT (dL P)) (λQ=>∀(C:PH),dA (iE (eF x)) C (bT C Q 0 P.enc) (∃(S:PH->bm->List bm->Prop)(c:List (Int×QV))(I1:Nat->MH->PH->Prop),aA (FR Proofs.Tryz.prog 140 S) (S C (jD (WE Q 0)) (List.map (fun(R:Int×QV)=>gV (fD R.1) (Value.agg (Array.mk R.2.enc))) c)) (aA (I1 0 A C) (∀(k:Nat)(e:Int)(X:QV),jQ (λz d=>aY (c[k]? =Option.some (e,X)) (PH.le C d) (I1 k z d->uN z d j 0 (λf=>fN z j (fD (eT (f+1))) (λD=>uN D d j 0 (λB=>mR (decide (B>24)) (fN D (fU (eF x)) rV (λa=>fN a (fT (eF x)) (fD 2) (λ_=>False))) e 8 (fN D (fU (eF x)) rV (λa=>fN a (fT (eF x)) (fD 2) (λ_=>False))) (I1 (k+1) D d))))))) (jQ (fun
 z d=>dA C d (I1 c.length z d) (∃(f:bY),aJ z d x.2.1 0 (bR f)/\AX z d (eF x).1 0 (λB=>Gi f p B d (λY s T q=>aA (dQ d q Y) (oR q N) (∀(U:Sl)(G:PH),dA d G (Ints G U (bH s T q).1) (fN z (fU (eF x)) (dT U) (λD=>fN D (fT (eF x)) (fD (bH s T q).2) (λa=>∃(V:Sl),aJ a G (fU (eF x)) 0 (aM V)/\∃(W:Int),aJ a G (fT (eF x)) 0 (bL W)/\K (CV.tup (aW (rC V) W)) a G))))))))))))))))))))))))))
mutual
theorem Pb:∀(p:Query)(n:Nat),kM p n=false->O8 p<=n
 |.mk _ _ _ _ _ _ _ _ args,0,h=>by simp[kM]at h
 |.mk _ _ _ _ _ _ _ _ args,n+1,h=>by
  simp only[kM]at h;have:=L9 args n h;simp only[O8];omega
theorem L9:∀(ps:ce)(n:Nat),oZ ps n=false->FJ ps<=n
 |[],_,_=>by simp[FJ]
 |p::ps,n,h=>by
  simp only[oZ,Bool.or_eq_false_iff]at h;have c:=Pb p n h.1;have d:=L9 ps n h.2;simp only[FJ];omega
end
mutual
theorem vQ.deep{h:PH}:∀{q:Query}{v:QV}{d:Nat}{es:cw},vQ h q v d es->∀e∈es,e.1<d+O8 q
 |.mk op ta _ _ _ _ _ _ args,v,d,es,w,e,c=>by
  rw[vQ]at w;obtain⟨j,f,n,g,rfl⟩:=w;simp only[O8];rcases mem_cons.1 c with rfl|c
  .show d<_;omega
  .have:=jJ.deep g e c;omega
theorem jJ.deep{h:PH}:∀{f:ce}{vs:cu}{d:Nat}{es:cw},jJ h f vs d es->∀e∈es,e.1<d+FJ f
 |[],vs,d,es,w,e,c=>by rw[jJ]at w;rw[w.2]at c;simp at c
 |q::f,vs,d,es,w,e,c=>by
  rw[jJ]at w;obtain⟨v,g,o,u,y,z,j,n,rfl⟩:=w;simp only[FJ];rcases mem_append.1 c with c|c
  .have:=vQ.deep j e c;omega
  .have:=jJ.deep n e c;omega
end
theorem aHZ{m g:MH}{h hx:PH}{c d:Nat}{B C:Value}{sl:Sl}{e:Int}{K:bo}(j:c≠d)(D:m c=none)(F:m d=none)(G:g c=some (.cells #[B] 30 (0,0)))(H:g d=some (.cells #[C] 44 (0,0)))(s:Sub m g)(le:PH.le h hx)(I:K (.tup [cS sl,cI e]) m hx):
 ∃(cs:Array Value)(E:TypeId),Lo g c (.cells cs E (0,0))/\0<cs.size/\∀m':MH,gG g m' c (.cells (Array.mk (dT sl::cs.toList.drop 1)) E (0,0))->∃(cs:Array Value)(E:TypeId),Lo m' d (.cells cs E (0,0))/\0<cs.size/\∀m2:MH,gG m' m2 d (.cells (Array.mk (fD e::cs.toList.drop 1)) E (0,0))->∃y:Sl,aJ m2 hx c 0 [dT y]/\∃A:Int,aJ m2 hx d 0 [fD A]/\cE h K (.tup [cS y,cI A]) m2 hx:=by
 refine⟨_,_,⟨G⟩,bg,λJ n=>⟨_,_,⟨by rw[n.other d (Ne.symm j)];exact H⟩,bg,λm2 u=>⟨sl,.of_m (by rw[u.other c j];exact n.at_) rfl,e,.of_m u.at_ rfl,λ_=>⟨m,hx,λb o f=>?_,le,λb i v f=>.inl f,I⟩⟩⟩⟩;rw[u.other b (λz=>by rw[z,F]at f;cases f),n.other b (λz=>by rw[z,D]at f;cases f)];exact s b o f
theorem W7:bk 39 Mh:=by
 refine Hg func39 ?_;rintro a9 m h K ⟨sc,p,v,s,ps,q,rfl,hs,hp,hq,n,y⟩;refine⟨aQQ p (SizeOf.sizeOf q+1),rfl,aD aa (aD Oz (aD (QO _) aF)),KB sc p v (SizeOf.sizeOf q+1) m h (cE h K),bf,?_⟩;show KB sc p v (SizeOf.sizeOf q+1) m h (cE h K);dsimp only[KB,push_cast];have hl:=hp.slen;have a8:=hp.len;have b':=Qd n;have b0:O8 q<=8:=Pb q 8 (by simp only[lP,Bool.and_eq_true,Bool.not_eq_true']at n;exact n.2);unfold fE at y;rw[if_pos n]at y;intro G m1 u1 w1 H m2 u2 w2 E m3 u3 R F A S T;obtain⟨s1,n3⟩:=gH (Sub.refl m) u1 w1;obtain⟨s2,n5⟩:=gH s1 u2 w2;obtain⟨s3,n6⟩:=gH s2 u3 R;obtain⟨s4,n7⟩:=gH s3 S T;have I:∀{ma mb:MH}{b:Nat}{o:Obj}{hh:PH},bW ma hh b->gG ma mb b o->∀{x g},ma x=some g->mb x=some g:=fun{ma mb b o hh} u w{x g} e=>by rw[w.other x (λB=>by rw[B,u.m_]at e;cases e)];exact e
 have a3:=I S T (I u3 R (I u2 w2 w1.at_));have a5:=I S T (I u3 R w2.at_);have a6:=I S T R.at_;have a7:=T.at_;have J:E≠F:=λe=>by have B:=R.at_;rw[e,S.m_]at B;cases B
 refine⟨sc,.of_m a3 rfl,sc,s,rfl,hs,aB (λP=>?_) (λP=>?_)⟩
 .rw[if_neg (bj P)]at y;exact aHZ (sl:=cD) J n6 n7 a6 a7 s4 (.refl _) (y cD h (.refl _) (nF h))
 have P:dH s=0:=bj P
 rw[if_pos P]at y;refine⟨λz=>z.2=(G,H,E,F,A,h)/\z.1<=ps.length/\(ps.take z.1).all dC=true,λz=>ps.length-z.1,⟨(0,G,H,E,F,A,h),⟨rfl,bg,bg⟩,MT⟩,?_⟩;rintro⟨i,z⟩ ⟨ez,hi,c⟩;dsimp only at ez hi c;subst ez;dsimp only;refine aE (λU=>?_) (λb1=>?_)
 .obtain⟨x,L⟩:=eN hl U;obtain⟨b,o,e,r⟩:=hp.at' L;have V:dC x=true->(ps.take (i+1)).all dC=true:=λhc=>by rw[xL L,c,hc];rfl
  have W:IntKind.i64.wrap ((i:Int)+1)=((i+1:Nat):Int):=iJ aC;have go:dC x=true->((i+1,G,H,E,F,A,h):Nat×Nat×Nat×Nat×Nat×MH×PH).2=(G,H,E,F,A,h)/\i+1<=ps.length/\(ps.take (i+1)).all dC=true:=λhc=>⟨rfl,aC,V hc⟩
  rw[W];refine⟨b,o,e,aC,U,x,.imm r,aB (λc1=>aB (λc2=>aB (λc3=>?_) (λc3=>⟨(i+1,G,H,E,F,A,h),go ?_,by show ps.length-(i+1)<ps.length-i;omega,MT⟩)) (λc2=>⟨(i+1,G,H,E,F,A,h),go ?_,by show ps.length-(i+1)<ps.length-i;omega,MT⟩)) (λc1=>⟨(i+1,G,H,E,F,A,h),go ?_,by show ps.length-(i+1)<ps.length-i;omega,MT⟩)⟩
  .have:dC x=false:=by simp_all [dC]
   rw[if_neg (λe=>by rw[Bm L this]at e;cases e)]at y;exact aHZ (sl:=cD) J n6 n7 a6 a7 s4 (.refl _) (y cD h (.refl _) (nF h))
  .simp_all [dC]
  .simp_all [dC]
  .simp_all [dC]
 rw[take_of_length_le aC]at c;rw[if_pos c]at y;intro C m5 u5 w5;refine⟨_,_,⟨w5.at_⟩,bg,λm6 w6=>?_⟩
 have k6:∀{x g},A x=some g->m6 x=some g/\x≠C:=fun{x g} e=>by
  have:x≠C:=λB=>by rw[B,u5.m_]at e;cases e
  exact⟨by rw[w6.other x this];exact I u5 w5 e,this⟩
 refine⟨v,.of_m (k6 a5).1 rfl,v,rfl,λbw a0 f a1=>?_⟩;obtain⟨es,W⟩:=vQ.of (hq.mono f) 1;have b2:=W.small;have M:=W.deep;refine⟨Nk,es.map λe=>((e.1:Int),e.2),λk X L=>L=a0/\Ds m6 X C/\X C=some (.cells #[fD (k:Nat)] 3 (0,0)),Zu,⟨bw,v,q,es,rfl,a1,W,aC,by rw[map_map];rfl⟩,⟨rfl,λx o e _=>e,w6.at_⟩,?_,?_⟩
 .rintro k d e' X L Q-⟨rfl,O,j⟩
  rw[getElem?_map]at Q;cases D:es[k]? with
  |none=>rw[D]at Q;cases Q
  |some e=>
   rw[D]at Q;simp only[Option.map_some,Option.some.injEq,Prod.mk.injEq]at Q;obtain⟨rfl,rfl⟩:=Q;have b4:=(List.getElem?_eq_some_iff.1 D).1;have b8:=M e (mem_of_getElem? D);have Y:IntKind.i64.wrap ((k:Int)+1)=((k+1:Nat):Int):=iJ aC;refine⟨k,.of_m j rfl,_,_,⟨j⟩,bg,λm7 w7=>⟨((k+1:Nat):Int),?_,aE (λa2=>by omega) (λ_=>aE (λa2=>by omega) (λ_=>⟨rfl,λx o e1 B=>by rw[w7.other x B];exact O x o e1 B,?_⟩))⟩⟩
   .rw[<-Y];exact .of_m w7.at_ rfl
   .rw[<-Y];exact w7.at_
 .rintro X L-⟨rfl,O,j⟩
  have Z:∀{x g},A x=some g->X x=some g:=fun{x g} e=>O x g (k6 e).1 (k6 e).2;refine⟨sc,.of_m (Z a3) rfl,v,.of_m (Z a5) rfl,sc,p,v,s,ps,q,rfl,hs.mono f,Bw P,hp.mono f,hq.mono f,aC,λsl h7 a' a4=>?_⟩;exact aHZ J n6 n7 (Z a6) (Z a7) (λx o e=>Z (s4 x o e)) (f.trans a') (y sl h7 (f.trans a') a4)
noncomputable def aHJ(s:mI)(st:List bt)(q:Query):bt×Int:=
 if(fE s [] q).2≠0 then([],(fE s [] q).2)else if l8 s st≠0 then([],l8 s st)else(tZ st q,0)
def bhJ(st:List bt)(q:Query):Prop:=∃c,1<=c/\(∀l∈st,l.length<=c)/\nI c q<=1000000
structure Mp(h:PH)(sl:Sl)(st:List bt):Prop where
 lea:Leaves h sl st
 len:st.length<=1000
 val:StV st
theorem Mp.mono{sl:Sl}{st:List bt}(x:Mp h sl st)(le:PH.le h h'):Mp h' sl st:=⟨bN.mono x.lea le λl s c=>bN.mono c le λr t d=>bP.mono d le,x.len,x.val⟩
def bXJ:Vc.Spec:=λd m h K=>∃v s e c w q,d=[aS v,aSt e,aQ w]/\gO h s v/\Mp h e c/\dQ h q w/\lP q=true/\dU m/\((fE s [] q).2=0->l8 s c=0->bhJ c q)/\∀f h',PH.le h h'->Rows h' f (aHJ s c q).1->K (.tup [cS f,cI (aHJ s c q).2]) m h'
noncomputable def bvJ(w:QV)(sl:Sl):Ctx:=dG [(39,Mh),(67,FN),(70,bbX),(71,Z6)] [(10,{A:=Nat×ca×Sl×MH×PH,st:=λ⟨i,c,s,m,h⟩=>bO 54 57 [(4,.at (.ptr 4 0)),(5,.at (.ptr 5 0)),(12,.at (.lst 34)),(35,sv s),(36,iv s.len),(37,iv i)] [(4,.cells 63 [.val (.slice sl.a sl.len sl.cap)]),(5,.cells 35 (w.enc.map .val)),(34,.lst 68 1 (c.map eS))] m h})] [] [] false
abbrev u7(a:At):Prop:=eQ (oQ 63 (rG a))
abbrev II(a:List bm)(b:Nat)(c:Sl)(d:bm)(e:List bm):Prop:=Option.some (Own.lst 68 1 (List.set a (lK b) (xS (dT c) 1 d)))=Option.some (Own.lst 68 1 e)
attribute [push_cast] u7 II
def Vx(v:bY)(sl:Sl)(w:QV)(m:MH)(h:PH)(K:bo):Prop:=
  AJ (λs p=>∃(F:QV),ET (λn u=>∃(q:Query),aA (cJ (bR v) (gJ jG (dL w))=cJ (bR s) (eJ p (dL F))) (gO h n s) (aA (Ints h p u) (dQ h q F) (fS (lP q)/\∀(S:Sl)(c:PH),dA h c (Ints c S (fE n u q).1) (cO (wB n u q) 0 (K (CV.tup (gJ jG (CV.val (fD (wB n u q))))) m c) (nV (λG A=>HB (λH z=>aA (cJ (bR v) (gJ (fQ 3) (jR (aM sl)))=cJ (bR G) (gJ (fQ 3) (jR (aM H)))) (gO c A G) (aA (Leaves c H z) (mT z.length) (cO (l8 A z) 0 (K (CV.tup (aW jG (l8 A z))) m c) (oU (λJ B=>aA (tT (dL w)=tT (dL J)) (dQ c B J) (Bl B<=900000/\∀(f:Sl)(C:PH),dA c C (Ints C f (j7 B)) (Be f 24 (MY (λI x=>aA (I x) (eP 4) (aA (eP 5) (eL 34)
 (aA (bB f (fJ x)) (bQ f (fJ x)) (aA (bC x.1) (u7 (qK sl)) (aA (fL w) (wT 68 f gA (lI x)) (aA (cT m (iO x)) (eA C (iO x)) True)))))) (λI L x=>I x->aZ (↑x.1:Int) (aG (fJ x)) (aK (λb o=>aA (aL (fJ x).a b o) (0<=(↑x.1:Int)) ((↑x.1:Int)<aG (fJ x)/\∃(y:Int),aJ (iO x).1 (oG x) b (bK o x.1 1) (bL y)/\aK (λM O=>aA (aL sl.a M O) (0<=y) (y<aG sl/\∃(P:Sl),aA (aJ (iO x).1 (oG x) M (fX O y 1) (aM P)) (0<=(↑x.1:Int)) ((↑x.1:Int)<lU (lI x)/\∃(e:bm),Od (jC (lI x) (lK x.1) e) (yG 0 e) (λd=>aA (I d) (L d<L x) (aA (eP 4) dY (aA (eL 34) (bB (fJ x) (fJ d)) (aA (bQ (fJ x) (fJ d)) (bD (fP (bE x.1 1)) d.1) (aA
 (u7 (qK sl)) (fL w) (aA (II (lI x) x.1 P e (lI d)) (eU (iO x) (iO d)) (j4 (cW (iO x) (iO d))))))))))))))) (bZ (oG x) 1 (lI x) (λT D=>∃(l:Sl)(Q:QV)(g:List bt)(j:Query),aA (eJ T (dL w)=eJ l (dL Q)) (Leaves D l g) (aA (dQ D j Q) (Zo g j 0) (aA (dU (iO x).1) (DK (lB g j 0).1) (IK (lB g j 0).1 (λr=>DH r)/\∀(R:Sl)(E:PH),dA D E (Rows E R (lB g j 0).1) (K (CV.tup (aW (rC R) 0)) (iO x).1 E))))))))))))))))))))))
mutual
theorem Qh:∀q:Query,(j7 q).length<=Bl q
 |.mk op ta _ _ _ _ _ _ args=>by
  have:=NJ args;rw[j7,Bl,length_append];split<;>simp<;>omega
theorem NJ:∀c:ce,(i6 c).length<=xI c
 |[]=>by simp[i6,xI]
 |q::c=>by
  have:=Qh q;have:=NJ c;rw[i6,xI,length_append];omega
end
theorem asZ:bk 26 bXJ:=by
 refine iB func26 ?_;rintro b' m h K ⟨v,s,S,E,w,q,rfl,hs,n,T,M,hT,hb,y⟩;refine⟨bvJ w S,rfl,aD W7 (aD QQ (aD apQ (aD aoJ aF))),Vx v S w m h K,bf,?_⟩;dsimp only[Vx,push_cast];unfold aHJ at y;refine⟨v,cD,w,s,[],q,rfl,hs,nF h,T,M,λb0 h1 d _=>aB (λe=>?_) (λe=>?_)⟩
 .rw[if_pos (bj e)]at y;exact y ⟨none,0,0⟩ h1 d (bN.nil _ _ _ _)
 have e:(fE s [] q).2=0:=bj e
 rw[if_neg (by simp[e])]at y;refine⟨v,s,S,E,rfl,hs.mono d,(n.mono d).lea,n.len,aB (λB=>?_) (λB=>?_)⟩
 .rw[if_pos (bj B)]at y;exact y ⟨none,0,0⟩ h1 d (bN.nil _ _ _ _)
 have B:l8 s E=0:=bj B
 rw[if_neg (by simp[B])]at y;dsimp only at y;obtain⟨c,c1,c2,c3⟩:=hb e B;obtain⟨_,_,_,U⟩:=B9 e;have O:bH s [] q=((bH s [] q).1,0):=Prod.ext rfl U;obtain⟨ok,ev,V,len⟩:=WI B n.val c2 c1 O c3;have a7:=Qd M;have W:=Qh q;have P:=H8 O;have b1:=(Nx B).2.1;refine⟨w,q,rfl,T.mono d,aC,λX Y F Z=>?_⟩;have Q:=Z.slen;have C:=n.mono (d.trans F);have a8:=bN.slen C.lea;generalize G:j7 q=ts at Z Q W P;refine⟨aC,aC,aC,aC,λz=>z.1<=ts.length/\z.2.2.1=X/\z.2.2.2.1=m/\z.2.2.2.2=Y/\∃D,z.2.1=D++replicate (ts.length-z.1) ⟨none,0,0⟩/\D.length=z.1/\∀(j:Nat) u t,D[j]? =some u->ts[j]? =some t->Rows Y u (E.getD t.toNat []),λz=>ts.length-z.1,⟨(0,replicate ts.length ⟨none,0,0⟩,X,m,Y),⟨bg,rfl,rfl,rfl,[],bg,rfl,λj u t h=>by simp at h⟩,?_⟩,?_⟩
 .rw[show((X.len:Int)).toNat=ts.length by omega];dsimp only;rw[map_replicate];exact MT
 rintro⟨i,l,s2,m2,h3⟩ ⟨a',e3,e4,e5,D,J,H,f⟩;dsimp only at a' e3 e4 e5 J H f⊢
 subst e3 e4 e5;refine aE (λa0=>?_) (λb3=>?_)
 .obtain⟨t,g⟩:=eN Q a0;obtain⟨b,o,ea,rd⟩:=Z.at' g;have ht:=P t (mem_of_getElem? g);have a1:t.toNat<E.length:=by omega
  have e6:E[t.toNat]? =some (E.getD t.toNat []):=by rw[getD_eq_getElem?_getD,getElem?_eq_getElem a1];rfl
  obtain⟨b2,o2,u,a2,a3,L⟩:=bN.at C.lea e6;have b4:l.length=ts.length:=by rw[J,length_append,length_replicate];omega
  have a4:l[i]? =some ⟨none,0,0⟩:=by
   rw[J,getElem?_append_right aC,getElem?_replicate,if_pos aC]
  refine⟨b,o,ea,aC,aC,t,.imm rd,b2,o2,a2,ht.1,aC,u,.imm a3,aC,by rw[length_map];omega,[rV],by rw[getElem?_map,show((i:Int)).toNat=i from rfl,a4];rfl,bg,(i+1,l.set i u,s2,m2,h3),⟨by show i+1<=ts.length;omega,rfl,rfl,rfl,D++[u],?_,by simp[H],λj u' t' I h8=>?_⟩,by show ts.length-(i+1)<ts.length-i;omega,?_⟩
  .dsimp only;rw[J,set_append,if_neg aC,append_assoc];congr 1;rw[show ts.length-i=(ts.length-(i+1))+1 by omega,replicate_succ,show i-D.length=0 by omega];rfl
  .by_cases hj:j<D.length
   .rw[getElem?_append_left hj]at I;exact f j u' t' I h8
   .rw[getElem?_append_right aC]at I;have:j-D.length=0:=by have:=(List.getElem?_eq_some_iff.1 I).1;simp at this;omega
    rw[this]at I;simp at I;subst I;have:j=i:=by omega
    subst this;rw[g]at h8;cases h8;exact L
  .dsimp only
   have e9:((l.map eS).set ((i:Int)).toNat (dT u::List.drop 1 [rV]))=(l.set i u).map eS:=by
    rw[map_set];rfl
   rw[e9,iJ aC];exact MT
 .have:i=ts.length:=by omega
  subst this;rw[Nat.sub_self,replicate_zero,append_nil]at J;subst J;intro s3 h4 A a5;refine⟨s3,w,tH E q,q,rfl,⟨⟨l,a5,by rw[tH,length_map,G,H],λi x g=>?_⟩,by rw[tH,length_map,G];omega⟩,T.mono ((d.trans F).trans A),ok,hT,by rw[ev];exact len,λr L=>?_,λs5 h5 a6 L=>y s5 h5 (((d.trans F).trans A).trans a6) (by rw[<-ev];exact L)⟩
  .rw[tH,G,getElem?_map]at g;cases R:ts[i]? with
   |none=>rw[R]at g;cases g
   |some t=>
    rw[R]at g;simp only[Option.map_some,Option.some.injEq]at g;subst g;have a9:=(List.getElem?_eq_some_iff.1 R).1;exact⟨l[i],getElem?_eq_getElem aC,bN.mono (f i _ t (getElem?_eq_getElem aC) R) A λr t hv=>bP.mono hv A⟩
  .rw[ev]at L;have:=(V.row r L).len;omega
noncomputable def uA(st:List bt)(ts:cn):List bt:=(List.range ts.length).map λi=>tZ st (eH ts i)
structure Nn(s:mI)(st:List bt)(ts:cn):Prop where
 ar:∀(i:Nat) t,ts[i]? =some t->0<=arity t.op
 fit:∀(i:Nat) t,ts[i]? =some t->vJ i t
 kinds:∀i,i<ts.length->(bH s [] (eH ts i)).2=0
 bnd:∃c,1<=c/\(∀l∈st,l.length<=c)/\∀i,i<ts.length->nI c (eH ts i)<=1000000
def bXZ:Vc.Spec:=λd m h K=>∃sc e p r s c ts rs,d=[aS sc,aSt e,aPl p r]/\gO h s sc/\Mp h e c/\rT h p r ts rs/\dU m/\(i7 s ts rs=0->l8 s c=0->Nn s c ts)/\
 (i7 s ts rs≠0->K (.tup [jG,cI (i7 s ts rs)]) m h)/\(i7 s ts rs=0->l8 s c≠0->K (.tup [jG,cI (l8 s c)]) m h)/\(i7 s ts rs=0->l8 s c=0->∀f h',PH.le h h'->Leaves h' f (uA c ts)->K (.tup [cS f,cI 0]) m h')
noncomputable def bwQ(sl p:Sl):Ctx:=dG [(17,Pv),(67,FN),(68,Wm),(69,Su)]
 [(9,{A:=Nat×ca×MH×PH,st:=λ⟨i,c,m,h⟩=>bO 85 88 [(4,.at (.ptr 4 0)),(11,.at (.lst 34)),(36,sv p),(37,iv p.len),(38,iv i)] [(4,.cells 63 [.val (.slice sl.a sl.len sl.cap)]),(34,.lst 68 1 (c.map eS))] m h}),
  (16,{A:=Nat×Nat×ca×MH×PH,st:=λ⟨i,n,c,m,h⟩=>bO 85 88 [(11,.at (.lst 34)),(71,.at (.lst 34)),(72,iv n),(73,iv i)] [(34,.lst 68 1 (c.map eS))] m h})] [] [] false
noncomputable abbrev lR(a:Nat×ca×MH×PH):List bm:=kS a.2.1
noncomputable abbrev jN(a:Nat×ca×MH×PH):MH×PH:=a.2.2
attribute [push_cast] lR jN
def OF(sc:bY)(sl p r:Sl)(m:MH)(h:PH)(K:bo):Prop:=
  ∃(s:bY),mS (λH J=>∃(D:mI)(t:cn)(E:br),aA (jT (bR sc) (gV (dT p) (dT r))=jT (bR s) (gV (dT H) (dT J))) (gO h D s) (rT h H J t E/\∀(_:Sl),cO (i7 D t E) 0 (K (CV.tup (aW jG (i7 D t E))) m h) (nV (λv F=>HB (λL A=>aA (cJ (bR sc) (gJ (fQ 3) (jR (aM sl)))=cJ (bR v) (gJ (fQ 3) (jR (aM L)))) (gO h F v) (aA (Leaves h L A) (mT A.length) (cO (l8 F A) 0 (K (CV.tup (aW jG (l8 F A))) m h) (Be p 24 (∃(I:Nat×ca×MH×PH->Prop)(B:Nat×ca×MH×PH->Nat),(∃(x:Nat×ca×MH×PH),aA (I x) (eP 4) (aA (eL 34) (aH p) (aA (bG p) (bC x.1) (aA (u7 (qK sl)) (wT 68 p gA (lR x)) (gX (cT m (jN x)) (eA h (jN x)))))))/\∀(x:Nat
 ×ca×MH×PH),I x->aZ (↑x.1:Int) (aG p) (aK (λb o=>aA (aL p.a b o) (0<=(↑x.1:Int)) ((↑x.1:Int)<aG p/\∃(y:l7),aJ (jN x).1 (jN x).2 b (bK o x.1 22) y.enc/\eD y.op 1 (aK (λM O=>aA (aL sl.a M O) (0<=y.table) (y.table<aG sl/\∃(n:Sl),aA (aJ (jN x).1 (jN x).2 M (fX O y.table 1) (aM n)) (0<=(↑x.1:Int)) ((↑x.1:Int)<lU (lR x)/\∃(e:bm),aA (jC (lR x) (lK x.1) e) (yG 0 e) (∃(c:Nat×ca×MH×PH),aA (I c) (B c<B x) (aA (eP 4) (eL 34) (aA (aH p) (bG p) (aA (bD (fP (bE x.1 1)) c.1) (u7 (qK sl)) (aA (II (lR x) x.1 n e (lR c)) (eU (jN x) (jN c)) (cW (jN x) (jN c)/\True)))))))))) (oO y.left (lR x) (λe=>jC (lR x) y.left.toNat e/\∃
 (n:Sl),aA (mZ 1 e (aM n)) (0<=y.right) (y.right<lU (lR x)/\∃(j:bm),jC (lR x) y.right.toNat j/\∃(P:Sl),mZ 1 j (aM P)/\∃(Q:l7)(d:Step),Kl (λu z l=>∃(C:bt),aA (cJ y.enc (cA n P)=cJ Q.enc (cA u z)) (rR (jN x).2 d Q) (aA (Rows (jN x).2 u l) (Rows (jN x).2 z C) (aA (dU (jN x).1) (2<=d.op) (aA (d.op<=10) (NZ d.op (Query.mk d.op d.table d.wher d.columns d.on d.group d.order d.limit []) [l,C]) (aA (DK l) (DK C) (∀(R:Sl)(f:PH),dA (jN x).2 f (Rows f R (WQ d.op (Query.mk d.op d.table d.wher d.columns d.on d.group d.order d.limit []) [l,C])) (oO (↑x.1:Int) (lR x) (λG=>aA (jC (lR x) (lK x.1) G) (yG 0 G) (∃(c:Nat×ca×MH×PH),aA
 (I c) (B c<B x) (aA (eP 4) (eL 34) (aA (aH p) (bG p) (aA (bD (fP (bE x.1 1)) c.1) (u7 (qK sl)) (aA (II (lR x) x.1 R G (lR c)) (eU (jN x) (jN c)) (eA f (jN c)/\True)))))))))))))))))))) (∃(I1:Nat×Nat×ca×MH×PH->Prop)(S:Nat×Nat×ca×MH×PH->Nat),(∃(c:Nat×Nat×ca×MH×PH),aA (I1 c) (eL 34) (aA (eL 34) (cG (lR x).length c.2.1) (aA (bC c.1) (Option.some (Own.lst 68 1 (lR x))=Option.some (Own.lst 68 1 (lR c.2))) (aA (eU (jN x) (jN c.2)) (cW (jN x) (jN c.2)) True))))/\∀(c:Nat×Nat×ca×MH×PH),I1 c->aZ (↑c.1:Int) (↑c.2.1:Int) (oO (↑c.1:Int) (lR c.2) (λe=>jC (lR c.2) (lK c.1) e/\∃(y:Sl),mZ 1 e (aM y)/\HC (λu l=>aA (gW y=gW
 u) (Rows (jN c.2).2 u l) (aA (DK l) (∀(T:bu),List.Mem T l->DH T) (∀(z:Sl)(f:PH),dA (jN c.2).2 f (Rows f z l) (oO (↑c.1:Int) (lR c.2) (λj=>aA (jC (lR c.2) (lK c.1) j) (yG 0 j) (∃(g:Nat×Nat×ca×MH×PH),aA (I1 g) (S g<S c) (aA (eL 34) (eL 34) (aA (cG c.2.1 g.2.1) (bD (fP (bE c.1 1)) g.1) (aA (II (lR c.2) c.1 z j (lR g.2)) (eU (jN c.2) (jN g.2)) (j4 (eA f (jN g.2)))))))))))))) (sR (jN c.2).2 (lR c.2) K (jN c.2).1)))))))))))
theorem J4(st:List bt):∀l,H7 st l=l.map (tZ st)
 |[]=>by simp[H7]
 |q::l=>by rw[H7,J4 st l];rfl
theorem aJZ{op o:Int}{on:bx}{args:ce}{ls:List bt}:WQ op (.mk o ta w co on gr od li args) ls=WQ op (.mk o ta w co on gr od li []) ls:=rfl
theorem Qp{op o:Int}{on:bx}{args:ce}{ls:List bt}:NZ op (.mk o ta w co on gr od li args) ls=NZ op (.mk o ta w co on gr od li []) ls:=rfl
theorem aGQ{st:List bt}{ts:cn}(ok:CP ts){i:Nat}{t:Step}(c:ts[i]? =some t)(d:t.op≠1):tZ st (eH ts i)=WQ t.op t.query ((tK t).map λa=>tZ st (eH ts a.toNat)):=by
 rw[nX ok c,tZ,if_neg d,J4,AS,map_map];exact aJZ
theorem aKQ{st:List bt}{op:Int}{on:bx}{args:ce}{ks:br}{c:Nat}(e:l8 s st=0)(g:StV st)(n:∀l∈st,l.length<=c)(o:1<=c)(f:bH s ps (.mk op ta w co on gr od li args)=(ks,0))(u:nI c (.mk op ta w co on gr od li args)<=1000000)(d:op≠1):
 NZ op (.mk op ta w co on gr od li args) (H7 st args):=by
 have x:=(WI e g n o f u).1;rw[Zo,if_neg d]at x;obtain⟨z,A,_,_⟩:=yM f;have B:j7 (.mk op ta w co on gr od li args)=i6 args:=by simp[j7,d]
 have y:=HK (st:=st) (ls:=tH st (.mk op ta w co on gr od li args)) (k:=0) A ⟨λj t h=>by
  rw[getD_eq_getElem?_getD,Nat.zero_add,tH,B,getElem?_map,h];rfl⟩
 rw[y]at x;exact x.1
theorem bkJ{c d:bt}(h:arity t.op=1):WQ t.op t.query [c,d]=WQ t.op t.query [c]:=by
 obtain⟨op,ta,w,co,on,gr,od,li,a,b⟩:=t;have h:arity op=1:=h
 have:op=2\/op=3\/op=9:=by
  unfold arity at h;split at h
  .omega
  .split at h
   .rename_i e;simp at e;omega
   .split at h<;>omega
 rcases this with rfl|rfl|rfl<;>rfl
theorem aJJ{f g:bt}(h:arity t.op=1)(x:NZ t.op t.query [f])(j:∃w,gR w g):NZ t.op t.query [f,g]:=by
 obtain⟨op,ta,w,co,on,gr,od,li,a,b⟩:=t;have h:arity op=1:=h
 have:op=2\/op=3\/op=9:=by
  unfold arity at h;split at h
  .omega
  .split at h
   .rename_i e;simp at e;omega
   .split at h<;>omega
 rcases this with rfl|rfl|rfl
 .obtain⟨_,c⟩:=x;refine⟨bg,λl d=>?_⟩;rcases mem_cons.1 d with rfl|d
  .exact c _ bg
  .rw[mem_singleton.1 d];exact j
 .obtain⟨_,c⟩:=x;exact⟨bg,c⟩
 .obtain⟨_,c⟩:=x;exact⟨bg,c⟩
theorem aJX{op:Int}(h:0<arity op):2<=op/\op<=10:=by
 unfold arity at h;simp only[beq_iff_eq,Bool.or_eq_true]at h;split at h
 .omega
 .split at h
  .omega
  .split at h<;>omega
theorem bRJ{sl p:Sl}{st:List bt}(hs:gO h s sc)(E:Mp h sl st)(x:rT h p r ts rs)(hT:dU m)(hb:i7 s ts rs=0->l8 s st=0->Nn s st ts)
 (k1:i7 s ts rs≠0->K (.tup [jG,cI (i7 s ts rs)]) m h)(k2:i7 s ts rs=0->l8 s st≠0->K (.tup [jG,cI (l8 s st)]) m h)(k3:i7 s ts rs=0->l8 s st=0->∀A h',PH.le h h'->Leaves h' A (uA st ts)->K (.tup [cS A,cI 0]) m h'):OF sc sl p r m h K:=by
 dsimp only[OF,push_cast];obtain⟨a7,_⟩:=x.slen;have b9:=x.len;refine⟨sc,p,r,s,ts,rs,rfl,hs,x,λkk=>aB (λe=>k1 (bj e)) (λe=>?_)⟩;have e1:i7 s ts rs=0:=bj e
 refine⟨sc,s,sl,st,rfl,hs,E.lea,E.len,aB (λe=>k2 e1 (bj e)) (λe=>?_)⟩;have X:l8 s st=0:=bj e
 have B:=hb e1 X;obtain⟨c,Y,Z,a'⟩:=B.bnd;have ok:CP ts:=λi t e=>⟨B.ar i t e,Jn (B.ar i t e) (B.fit i t e)⟩
 have kq:∀j,j<ts.length->bH s [] (eH ts j)=((bH s [] (eH ts j)).1,0):=λj C=>Prod.ext rfl (B.kinds j C);have R:∀j,j<ts.length->∃w,gR w (tZ st (eH ts j)):=λj C=>⟨_,(WI X E.val Z Y (kq j C) (a' j C)).2.2.1⟩
 refine⟨aC,aC,aC,aC,λx=>x.1<=ts.length/\x.2.2.1=m/\PH.le h x.2.2.2/\∃H:ca,H.length=x.1/\x.2.1=H++replicate (ts.length-x.1) ⟨none,0,0⟩/\∀j,j<x.1->∃u,H[j]? =some u/\Rows x.2.2.2 u (tZ st (eH ts j)),λx=>ts.length-x.1,⟨(0,replicate ts.length ⟨none,0,0⟩,m,h),⟨Nat.zero_le _,rfl,.refl _,[],rfl,bg,λj C=>by dsimp only at C;omega⟩,?_⟩,?_⟩
 .dsimp only;rw[map_replicate,show((p.len:Int)).toNat=ts.length by omega];exact MT
 rintro⟨i,vs,mx,hx⟩ ⟨hi,e3,le,H,f,hv,D⟩;dsimp only at hi e3 le f hv D⊢
 subst e3 hv;refine aE (λa0=>?_) (λa8=>?_)
 .obtain⟨t,g⟩:=eN a7 a0;obtain⟨b,o,y,ea,rd,W⟩:=x.at g;have U:i<ts.length:=by omega
  have nx:∀(A:Sl)(h':PH),PH.le hx h'->Rows h' A (tZ st (eH ts i))->∃e,((H++replicate (ts.length-i) (⟨none,0,0⟩:Sl)).map eS)[((i:Nat):Int).toNat]? =some e/\0<e.length/\∃F:ca,(((H++replicate (ts.length-i) (⟨none,0,0⟩:Sl)).map eS).set ((i:Nat):Int).toNat (dT A::List.drop 1 e))=List.map eS F/\∃V:ca,V.length=i+1/\F=V++replicate (ts.length-(i+1)) ⟨none,0,0⟩/\∀j,j<i+1->∃u,V[j]? =some u/\Rows h' u (tZ st (eH ts j)):=λA h' d J=>by
   refine⟨[rV],?_,bg,(H++[A])++replicate (ts.length-(i+1)) ⟨none,0,0⟩,?_,H++[A],by simp[f],rfl,λj C=>?_⟩
   .rw[getElem?_map,Int.toNat_natCast,getElem?_append_right aC,getElem?_replicate,if_pos aC];rfl
   .rw[Int.toNat_natCast,show ts.length-i=(ts.length-(i+1))+1 by omega,replicate_succ,map_append,set_append,if_neg (by simp[f]),map_append,map_append,append_assoc];simp[f,eS]
   .by_cases M:j<i
    .obtain⟨u,O,L⟩:=D j M;exact⟨u,by rw[getElem?_append_left aC];exact O,bN.mono L d (λ_ _ h=>bP.mono h d)⟩
    .have:j=i:=by omega
     subst this;exact⟨A,by rw[getElem?_append_right aC,f,Nat.sub_self];rfl,J⟩
  have a1:((List.map eS (H++replicate (ts.length-i) (⟨none,0,0⟩:Sl))).length:Int)=ts.length:=by simp[f];omega
  rw[a1,iJ aC];refine⟨b,o,ea,aC,aC,y,.imm (rd.mono le),aB (λe=>?_) (λe=>?_)⟩
  .have G:t.op=1:=by rw[<-W.op_];exact eq_of_beq e
   have hq:=kq i U;rw[nX ok g]at hq;have a9:=H8 hq t.table (by rw[j7,if_pos G];simp);have c':=bN.slen E.lea;have b8:=(Nx X).2.1;have a2:st[t.table.toNat]? =some (st.getD t.table.toNat []):=by rw[getD_eq_getElem?_getD,getElem?_eq_getElem aC];rfl
   obtain⟨b2,o2,u,b',b0,hu⟩:=bN.at E.lea a2;have hF:tZ st (eH ts i)=st.getD t.table.toNat []:=by rw[nX ok g,tZ,if_pos G]
   obtain⟨e,O,L,F,h3,h4⟩:=nx u hx (.refl _) (by rw[hF];exact bN.mono hu le (λ_ _ h=>bP.mono h le));rw[W.table_];exact⟨b2,o2,b',a9.1,aC,u,.imm (b0.mono le),aC,aC,e,O,L,(i+1,F,mx,hx),⟨by dsimp only;omega,rfl,le,h4⟩,by dsimp only;omega,by rw[h3];exact MT⟩
  .have G:t.op≠1:=by rw[<-W.op_];exact ne_of_beq_false e
   have h0:=B.ar i t g;have L:=JN t.op;have c0:arity t.op≠0:=λe=>G (Pg e);have Q:=aJX (op:=t.op) aC;have a3:=(ok i t g).2;have hA:arity t.op=1\/arity t.op=2:=by omega
   have hL:0<=t.left/\t.left<i:=a3 _ (by rcases hA with e|e<;>simp[tK,e])
   have hR:0<=t.right/\t.right<i:=by
    rcases hA with e|e
    .have:=(aNJ (B.fit i t g)).2 aC;omega
    .exact a3 _ (by simp[tK,e])
   obtain⟨u1,b1,b3⟩:=D t.left.toNat aC;obtain⟨u2,b4,b5⟩:=D t.right.toNat aC
   have I:∀{j:Nat}{u:Sl},H[j]? =some u->((H++replicate (ts.length-i) (⟨none,0,0⟩:Sl)).map eS)[j]? =some (eS u):=fun{j u} h=>by
    have:=(List.getElem?_eq_some_iff.1 h).1;rw[getElem?_map,getElem?_append_left this,h];rfl
   have len:∀{j},j<ts.length->(tZ st (eH ts j)).length<=1000000:=fun{j} C=>(R j C).elim λ_ h=>h.len;have hq:=kq i U;have a4:=a' i U;rw[nX ok g]at hq a4;have x1:=aKQ X E.val Z Y hq a4 G;rw[J4,AS,map_map]at x1;have x2:=aGQ (st:=st) ok g G
   have x3:NZ t.op t.query [tZ st (eH ts t.left.toNat),tZ st (eH ts t.right.toNat)]/\tZ st (eH ts i)=WQ t.op t.query [tZ st (eH ts t.left.toNat),tZ st (eH ts t.right.toNat)]:=by
    rcases hA with e|e
    .rw[show tK t=[t.left]by simp[tK,e]]at x1 x2;exact⟨aJJ e (Qp▸x1) (R _ aC),by rw[x2,bkJ e];rfl⟩
    .rw[show tK t=[t.left,t.right]by simp[tK,e]]at x1 x2;exact⟨Qp▸x1,x2⟩
   rw[W.left_,W.right_];refine⟨hL.1,aC,eS u1,I b1,u1,rfl,hR.1,aC,eS u2,I b4,u2,rfl,y,t,u1,u2,_,_,rfl,W.mono le,b3,b5,hT,Q.1,Q.2,x3.1,len aC,len aC,λA h' d J=>?_⟩;obtain⟨e,O,L,F,h3,h4⟩:=nx A h' d (by rw[x3.2];exact J);exact⟨aC,aC,e,O,L,(i+1,F,mx,h'),⟨by dsimp only;omega,rfl,le.trans d,h4⟩,by dsimp only;omega,by rw[h3];exact MT⟩
 .have:i=ts.length:=by omega
  subst this;rw[Nat.sub_self,replicate_zero,append_nil];refine⟨λx=>x.1<=ts.length/\x.2.1=ts.length/\x.2.2.2.1=mx/\PH.le h x.2.2.2.2/\x.2.2.1.length=ts.length/\∀j,j<ts.length->∃u,x.2.2.1[j]? =some u/\Rows x.2.2.2.2 u (tZ st (eH ts j)),λx=>ts.length-x.1,⟨(0,ts.length,H,mx,hx),⟨Nat.zero_le _,rfl,rfl,le,f,D⟩,by rw[length_map,f];exact MT⟩,?_⟩;rintro⟨i,n,vs,my,hy⟩ ⟨hi,e3,e4,le,P,J⟩;dsimp only at hi e3 e4 le P J⊢
  subst e3 e4;refine aE (λa0=>?_) (λa8=>?_)
  .obtain⟨u,hu,D⟩:=J i aC;obtain⟨w,S⟩:=R i aC;have I:(vs.map eS)[((i:Nat):Int).toNat]? =some (eS u):=by rw[getElem?_map,Int.toNat_natCast,hu];rfl
   rw[length_map,P,iJ aC];refine⟨aC,aC,eS u,I,u,rfl,u,_,rfl,D,S.len,λr J=>by have:=(S.row r J).len;omega,λA h' d b6=>⟨aC,aC,eS u,I,by simp[eS],(i+1,ts.length,vs.set i A,my,h'),⟨by dsimp only;omega,rfl,rfl,le.trans d,by dsimp only;rw[length_set];exact P,λj C=>?_⟩,by dsimp only;omega,?_⟩⟩
   .dsimp only;rw[getElem?_set];by_cases M:i=j
    .subst M;exact⟨A,by rw[if_pos rfl,if_pos aC],b6⟩
    .obtain⟨u',O,L⟩:=J j C;exact⟨u',by rw[if_neg M];exact O,bN.mono L d (λ_ _ h=>bP.mono h d)⟩
   .dsimp only;rw[map_set,Int.toNat_natCast];exact MT
  .refineλA h' d b7=>k3 e1 X A h' (le.trans d) ⟨⟨vs,b7,by simp[uA,P],λj z T=>?_⟩,by simp[uA];omega⟩
   unfold uA at T;rw[getElem?_map]at T;cases C:(List.range ts.length)[j]? with
   |none=>rw[C]at T;cases T
   |some k=>
    rw[C]at T;obtain⟨a5,a6⟩:=List.getElem?_eq_some_iff.1 C;rw[length_range]at a5;rw[getElem_range]at a6;subst a6;have T:tZ st (eH ts j)=z:=bj T
    subst T;obtain⟨u,O,L⟩:=J j a5;exact⟨u,O,bN.mono L d (λ_ _ h=>bP.mono h d)⟩
theorem asJ:bk 25 bXZ:=by
 refine iB func25 ?_;rintro e m h K ⟨sc,d,p,r,s,z,ts,rs,rfl,f,c,g,j,n,o,u,y⟩;refine⟨bwQ d p,rfl,aD axX (aD QQ (aD apZ (aD apX aF))),OF sc d p r m h K,bf,?_⟩;exact bRJ f c g j n o u y
def Y8:Vc.Spec:=λc m h K=>∃s r,c=[cS s]/\bP h s r/\r.length<=1000/\∀d h',PH.le h h'->bP h' d r->K (cS d) m h'
def beZ:Vc.Spec:=λc m h K=>∃v s t d r,c=[aS v,cI t,cS d]/\gO h s v/\bP h d r/\r.length<=1000/\∀e h',PH.le h h'->bP h' e (Jj s t r)->K (cS e) m h'
def TP(key:Int)(ks:br)(r:bu):Prop:=r.length=ks.length/\(∀v∈r,Lj v)/\∀(i:Nat) v k,r[i]? =some v->ks[i]? =some k->C8 key k i v=true
def bYQ:Vc.Spec:=λc m h K=>∃cb s key ks,c=[cP cb,cS s,cI key,cI 3]/\aR m h cb/\Ints h s ks/\ks.length<=1000/\(∀k∈ks,k=3\/k=4\/k=5)/\∀d r m' h',PH.le h h'->bP h' d r->TP key ks r->bI m m' cb->aR m' h' cb->K (cS d) m' h'
def aDZ(m:MH)(d:Nat)(us:ca):Prop:=∃c:Array Value,m d=some (.cells c 68 (0,0))/\us.length<=c.size/\c.toList.take us.length=us.map Sl.val
def bYX:Vc.Spec:=λf m h K=>∃v s c n d e u,∃t:Nat,∃tab rs g j o row,f=[aS v,aSt ⟨some ⟨c,0,none⟩,n,d⟩,cI t,cS g,cS o]/\gO h s v/\s.tables[t]? =some tab/\aDZ m c e/\n=e.length/\e[t]? =some u/\Rows h u rs/\rs.length<=1000/\(∀r∈rs,r.length<=1000)/\bP h g j/\bP h o row/\0<row.length/\row.length<=1000/\
 ∀y m' h',PH.le h h'->Rows h' y (Bz tab j row false rs)->aDZ m' c (e.set t y)->bI m m' c->K (aSt ⟨some ⟨c,0,none⟩,n,d⟩) m' h'
noncomputable def f58_ctx(cb:Nat)(key:Int)(s:Sl):Ctx:=dG [(36,PK),(108,TG)] [(3,{A:=Nat×bu×MH×PH,st:=λ⟨i,l,m,h⟩=>bO 59 63 [(0,pv cb),(2,iv key),(3,iv 3),(9,.at (.lst 24)),(12,sv s),(13,iv s.len),(14,iv i)] [(24,.lst 24 3 (l.map VV.enc))] m h})] [] [] false
noncomputable def btQ(v:bY)(sl:Sl)(t:Nat)(f g:Sl)(m:MH):Ctx:=dG [(61,beZ),(72,JU),(112,Y8)] [(4,{A:=Nat×ca×Bool×Sl×PH,st:=λ⟨i,e,d,u,h⟩=>bO 66 71 [(2,iv t),(3,sv f),(4,sv g),(5,.at (.ptr 5 0)),(6,.at (.ptr 6 0)),(10,.at (.ptr 10 0)),(11,.at (.lst 45)),(12,bv d),(23,sv u),(24,iv u.len),(25,iv i)] [(5,.cells 40 (v.enc.map .val)),(6,.cells 63 [.val sl.val]),(10,.cells 63 [.val cD.val]),(45,.lst 100 1 (e.map eS))] m h})] [(9,{A:=Nat×ca×Bool×Sl×Sl×Int×PH,st:=λ⟨i,e,d,u,r,c,h⟩=>bO 66 71 [(2,iv t),(3,sv f),(4,sv g),(5,.at (.ptr 5 0)),(6,.at (.ptr 6 0)),(10,.at (.ptr 10 0)),(11,.at (.lst 45)),(12,bv d),(14,sv r),(15,iv c),(23,sv u),(24,iv u.len),(25,iv i)] [(5,.cells 40 (v.enc.map .val)),(6,.cells 63 [.val sl.val]),(10,.cells 63 [.val cD.val]),(45,.lst 100 1 (e.map eS))] m h}),
 (14,{A:=ca×PH,st:=λ⟨e,h⟩=>bO 66 71 [(2,iv t),(6,.at (.ptr 6 0)),(10,.at (.ptr 10 0)),(11,.at (.lst 45))] [(6,.cells 63 [.val sl.val]),(10,.cells 63 [.val cD.val]),(45,.lst 100 1 (e.map eS))] m h})] [] false
def RV(s:Sl)(m:MH)(h:PH)(K:bo):Prop:=
  ∃(y:List bm),aA (eR 3 y) (cZ h (dJ s) 3 y) (aA (iY y.length 32) (lN y.length) (bZ h 3 y (λc d=>K (rC c) m d)))
def Vn(v:bY)(t:Int)(s:Sl)(m:MH)(h:PH)(K:bo):Prop:=
  aZ t 0 (K jG m h) (fO t (iX v) (K jG m h) (aK (λb o=>aA (aL (tS v) b o) (0<=t) (t<aG v.tables/\∃(y:Int),aA (aJ m h b (fX o t 5+2) (bL y)) (0<=ite (pR s y>0) (pR s y) 0) (ite (pR s y>0) (pR s y) 0<=(↑s.cap:Int)/\oA (λd r=>aA (tT (CV.val (Value.slice s.a (ite (pR s y>0) (pR s y) 0).toNat s.cap))=gW d) (bP h d r) (DH r/\∀(e:Sl)(c:PH),dA h c (bP c e r) (K (rC e) m c))))))))
noncomputable abbrev pV(a:Nat×bu×MH×PH):List bm:=C4 a.2.1
noncomputable abbrev iW(a:Nat×bu×MH×PH):MH×PH:=a.2.2
noncomputable abbrev tG(a:Nat×bu×MH×PH):Nat->Nat->Option Value:=(iW a).2
abbrev Cm(a:Nat×bu×MH×PH)(b:Nat×bu×MH×PH->Prop)(c:Nat×bu×MH×PH->Nat)(d:Nat)(e:Int)(g:Sl)(i:(Nat×bu×MH×PH)->Prop):Prop:=aA (iY (jA (pV a) 1) 32) (dO (pV a)) (∃(x:Nat×bu×MH×PH),aA (b x) (c x<c a) (aA (dD d) (mQ e) (aA kY (eL 24) (aA (aH g) (bG g) (i x)))))
attribute [push_cast] pV iW tG Cm
def aq(cb:Nat)(s:Sl)(key:Int)(m:MH)(h:PH)(K:bo):Prop:=
  ∃(I:Nat×bu×MH×PH->Prop)(g:Nat×bu×MH×PH->Nat),(∃(x:Nat×bu×MH×PH),aA (I x) (dD cb) (aA (mQ key) kY (aA (eL 24) (aH s) (aA (bG s) (bC x.1) (aA (rB 24 3 (pV x)) (cT m (iW x)) (eA h (iW x)/\True))))))/\∀(x:Nat×bu×MH×PH),I x->aZ (↑x.1:Int) (aG s) (aK (λb o=>aA (aL s.a b o) (0<=(↑x.1:Int)) ((↑x.1:Int)<aG s/\∃(y:Int),aJ (iW x).1 (tG x) b (bK o x.1 1) (bL y)/\dN (decide ((↑x.1:Int)>=key)) (lW cb 5 (iW x).1 (tG x) (λc r=>∀(e:MH),aY (bI (iW x).1 e c) (aR e (tG x) c) (dN r (Cm x I g cb key s (λd=>aA (bD (fP (bE x.1 1)) d.1) (Option.some (Own.lst 24 3 (jW (pV x) (bA (fD 2) bJ (jD PN))))=Option.some (Own.lst 24 3 (pV d)))
 (aA (cT e (iW d)) (cW (iW x) (iW d)) True))) (decide ((↑x.1:Int)>=key)) (lW cb 5 e (tG x) (λj n=>∀(f:MH),aY (bI e f j) (aR f (tG x) j) (branch n (Cm x I g cb key s (λd=>aA (bD (fP (bE x.1 1)) d.1) (Option.some (Own.lst 24 3 (jW (pV x) (bA (fD 1) bJ (jD PN))))=Option.some (Own.lst 24 3 (pV d))) (aA (cT f (iW d)) (cW (iW x) (iW d)) True))) (D6 cb y f (tG x) (λv u=>Cm x I g cb key s (λd=>aA (bD (fP (bE x.1 1)) d.1) (Option.some (Own.lst 24 3 (jW (pV x) v.enc))=Option.some (Own.lst 24 3 (pV d))) (aA (cT u (iW d)) (cW (iW x) (iW d)) True))))))) (D6 cb y e (tG x) (λv f=>Cm x I g cb key s (λd=>aA (bD (fP (bE x.1 1)) d.1) (Option.some
 (Own.lst 24 3 (jW (pV x) v.enc))=Option.some (Own.lst 24 3 (pV d))) (aA (cT f (iW d)) (cW (iW x) (iW d)) True))))))) (decide ((↑x.1:Int)>=key)) (lW cb 5 (iW x).1 (tG x) (λc r=>∀(e:MH),aY (bI (iW x).1 e c) (aR e (tG x) c) (branch r (Cm x I g cb key s (λd=>aA (bD (fP (bE x.1 1)) d.1) (Option.some (Own.lst 24 3 (jW (pV x) (bA (fD 1) bJ (jD PN))))=Option.some (Own.lst 24 3 (pV d))) (aA (cT e (iW d)) (cW (iW x) (iW d)) True))) (D6 cb y e (tG x) (λv f=>Cm x I g cb key s (λd=>aA (bD (fP (bE x.1 1)) d.1) (Option.some (Own.lst 24 3 (jW (pV x) v.enc))=Option.some (Own.lst 24 3 (pV d))) (aA (cT f (iW d)) (cW (iW x) (iW d)) True))))))) (D6 cb y (iW x).1
 (tG x) (λv e=>Cm x I g cb key s (λd=>aA (bD (fP (bE x.1 1)) d.1) (Option.some (Own.lst 24 3 (jW (pV x) v.enc))=Option.some (Own.lst 24 3 (pV d))) (aA (cT e (iW d)) (cW (iW x) (iW d)) True))))))) (bZ (tG x) 3 (pV x) (λz A=>K (rC z) (iW x).1 A))
noncomputable abbrev CA(a:Nat×ca×Bool×Sl×PH):Bool:=a.2.2.1
noncomputable abbrev oF(a:Nat×ca×Bool×Sl×PH):Sl:=a.2.2.2.1
abbrev tC:Prop:=u7 PO
noncomputable abbrev tB(a:Nat×ca×Bool×Sl×PH):List bm:=kS a.2.1
noncomputable abbrev zW(a:Nat×ca×Bool×Sl×PH):Nat->Nat->Option Value:=a.2.2.2.2
abbrev MZ(a:(Nat×ca×Bool×Sl×Sl×Int×PH)->Prop)(b:Nat)(c d:Sl)(e:(Nat×ca×Bool×Sl×Sl×Int×PH)->Prop):Prop:=∃(x:Nat×ca×Bool×Sl×Sl×Int×PH),aA (a x) (qW b) (aA (aH c) (aH d) (aA dY (eP 6) (aA lT (eL 45) (e x))))
noncomputable abbrev I7(a:Nat×ca×Bool×Sl×Sl×Int×PH):Sl:=a.2.2.2.2.1
noncomputable abbrev I6(a:Nat×ca×Bool×Sl×Sl×Int×PH):Int:=a.2.2.2.2.2.1
noncomputable abbrev wU(a:Nat×ca×Bool×Sl×Sl×Int×PH):Sl:=a.2.2.2.1
noncomputable abbrev Cz(a:Nat×ca×Bool×Sl×Sl×Int×PH):List bm:=kS a.2.1
noncomputable abbrev Gx(a:Nat×ca×Bool×Sl×Sl×Int×PH):Nat->Nat->Option Value:=a.2.2.2.2.2.2
attribute [push_cast] CA oF tC tB zW MZ I7 I6 wU Cz Gx
def Vo(v:bY)(f n d t:Nat)(u j:Sl)(m:MH)(h:PH)(K:bo):Prop:=
  aK (λb o=>aA (aL (mC f) b o) (0<=(↑t:Int)) ((↑t:Int)<(↑n:Int)/\∃(y:Sl),aJ m h b (bK o t 1) (aM y)/\∃(I:Nat×ca×Bool×Sl×PH->Prop)(D:Nat×ca×Bool×Sl×PH->Nat),(∃(x:Nat×ca×Bool×Sl×PH),aA (I x) (qW t) (aA (aH u) (aH j) (aA dY (eP 6) (aA lT (eL 45) (aA (iT (aG j==0) (CA x)) (bB y (oF x)) (aA (bQ y (oF x)) (bC x.1) (aA (bM v) (u7 (AG (mC f) n d)) (aA tC (Cy (tB x)) (dW m m h (zW x))))))))))/\∀(x:Nat×ca×Bool×Sl×PH),I x->aZ (↑x.1:Int) (aG (oF x)) (aK (λz A=>aA (aL (oF x).a z A) (0<=(↑x.1:Int)) ((↑x.1:Int)<aG (oF x)/\∃(B:Sl),aJ m (zW x) z (bK A x.1 1) (aM B)/\nV (λE s=>∃(F:Int),
 oA (λG r=>aA (cJ (bR v) (gJ (fQ (↑t:Int)) (rC B))=cJ (bR E) (gJ (fQ F) (rC G))) (gO (zW x) s E) (aA (bP (zW x) G r) (DH r) (∀(H:Sl)(g:PH),dA (zW x) g (bP g H (Jj s F r)) (∃(J:Sl),oA (λL a=>∃(C:bu),aA (cA H u=cA J L) (bP g J a) (bP g L C/\∃(I1:Nat×ca×Bool×Sl×Sl×Int×PH->Prop),fO (eC a C) 0 (mA (CA x) (IJ j g (λM O=>aA (iL (tB x)) (dO (tB x)) (MZ (λc=>I1 c) t u j (λc=>aA (wC c.2.2.1) (bB B (I7 c)) (aA (cQ (eC a C) (I6 c)) (bB (oF x) (wU c)) (aA (bQ (oF x) (wU c)) (cG x.1 c.1) (aA (bM v) (u7 (AG (mC f) n d)) (aA tC (lJ (iN (tB x) M) (Cz c)) (aA
 (m=m) (O=Gx c) True))))))))) (MZ (λc=>I1 c) t u j (λc=>aA (iT (CA x) c.2.2.1) (bB B (I7 c)) (aA (cQ (eC a C) (I6 c)) (bB (oF x) (wU c)) (aA (bQ (oF x) (wU c)) (cG x.1 c.1) (aA (bM v) (u7 (AG (mC f) n d)) (aA tC (lJ (tB x) (Cz c)) (aA (m=m) (g=Gx c) True)))))))) (MZ (λc=>I1 c) t u j (λc=>aA (iT (CA x) c.2.2.1) (bB B (I7 c)) (aA (cQ (eC a C) (I6 c)) (bB (oF x) (wU c)) (aA (bQ (oF x) (wU c)) (cG x.1 c.1) (aA (bM v) (u7 (AG (mC f) n d)) (aA tC (lJ (tB x) (Cz c)) (aA (m=m) (g=Gx c) True)))))))/\∀(c:Nat×ca×Bool×Sl×Sl×Int×PH),I1 c->cO (I6 c) 0 (aA
 (iL (Cz c)) (dO (Cz c)) (∃(e:Nat×ca×Bool×Sl×PH),aA (I e) (D e<D x) (aA (qW t) (aH u) (aA (aH j) dY (aA (eP 6) lT (aA (eL 45) (iT c.2.2.1 (CA e)) (aA (bB (wU c) (oF e)) (bQ (wU c) (oF e)) (aA (bD (fP (bE c.1 1)) e.1) (bM v) (aA (u7 (AG (mC f) n d)) tC (dK (lJ (iN (Cz c) (I7 c)) (tB e)) m m (Gx c) (zW e))))))))))) (∃(e:Nat×ca×Bool×Sl×PH),aA (I e) (D e<D x) (aA (qW t) (aH u) (aA (aH j) dY (aA (eP 6) lT (aA (eL 45) (iT c.2.2.1 (CA e)) (aA (bB (wU c) (oF e)) (bQ (wU c) (oF e)) (aA (bD (fP (bE c.1 1)) e.1) (bM v) (aA (u7 (AG (mC f) n d)) tC (dK (lJ (Cz
 c) (tB e)) m m (Gx c) (zW e)))))))))))))))))))) (∃(I1:ca×PH->Prop),mA (CA x) (IJ j (zW x) (λs g=>aA (iL (tB x)) (dO (tB x)) (∃(c:ca×PH),aA (I1 c) (qW t) (aA (eP 6) lT (aA (eL 45) (u7 (AG (mC f) n d)) (aA tC (lJ (iN (tB x) s) (kS c.1)) (dW m m g c.2))))))) (∃(c:ca×PH),aA (I1 c) (qW t) (aA (eP 6) lT (aA (eL 45) (u7 (AG (mC f) n d)) (aA tC (lJ (tB x) (kS c.1)) (dW m m (zW x) c.2)))))/\∀(c:ca×PH),I1 c->aK (λz A=>aA (aL (mC f) z A) (0<=(↑t:Int)) ((↑t:Int)<(↑n:Int)/\bZ c.2 1 (kS c.1) (λs g=>sP m z (bK A t 1) (aM s) (λP=>K (jR (jD (Value.slice (mC f) n d))) P g)))))))
theorem O4:bk 112 Y8:=by
 refine iB func112 ?_;rintro e m h K ⟨s,r,rfl,f,z,g⟩;refine⟨dG [] [] [] [] false,rfl,aF,RV s m h K,bf,?_⟩;dsimp only[RV,push_cast];obtain⟨⟨c,j,n,o⟩,u⟩:=f;exact⟨c.map VV.enc,NK c,j,by rw[length_map];omega,by rw[length_map];omega,λy h' le d=>g y h' le ⟨⟨c,d,n,o⟩,u⟩⟩
theorem QT:bk 61 beZ:=by
 refine iB func61 ?_;rintro D m h K ⟨v,s,t,A,r,rfl,B,n,O,u⟩;refine⟨dG [(112,Y8)] [] [] [] false,rfl,aD O4 aF,Vn v t A m h K,bf,?_⟩;dsimp only[Vn,push_cast];have E:=B.tables.slen;have d:=bN.slen n;have c:yN s t=false->K jG m h:=λe=>u ⟨none,0,0⟩ h (.refl _) (by simp only[Jj,e];exact bN.nil _ _ _ _);refine aE (λF=>c (by simp[yN];omega)) (λF=>aE (λG=>c (by simp[yN];omega)) (λG=>?_));have e:yN s t=true:=by simp[yN];omega
 obtain⟨f,g⟩:∃f,s.tables[t.toNat]? =some f:=⟨_,getElem?_eq_getElem aC⟩
 obtain⟨b,o,y,H,rd,I⟩:=bN.at B.tables g;have J:=I.key;obtain⟨a,len,j⟩:=A;have C:len<=j:=by obtain⟨P,L,_⟩:=n.ex;exact L.cap
 have d:len=r.length:=d
 have z:(if(if(len:Int)<y.key then(len:Int)else y.key)>0 then(if(len:Int)<y.key then(len:Int)else y.key)else 0)=max 0 (min f.key r.length):=by
  rw[<-J];split<;>split<;>omega
 refine⟨b,o,H,aC,aC,y.key,.imm (bT.part rd 2 1),?_⟩;dsimp only;rw[z];have M:Jj s t r=r.take (max 0 (min f.key r.length)).toNat:=by simp only[Jj,e,if_true,g];rfl
 rw[M]at u;exact⟨aC,aC,⟨a,(max 0 (min f.key r.length)).toNat,j⟩,_,rfl,n.cut aC,by rw[length_take];omega,u⟩
theorem TP.snoc{key:Int}{ks:br}{l:bu}{k:Int}{v:VV}(x:TP key (ks.take i) l)(e:ks[i]? =some k)(f:Lj v)(g:C8 key k i v=true):TP key (ks.take (i+1)) (l++[v]):=by
 obtain⟨n,o,y⟩:=x;have C:=(List.getElem?_eq_some_iff.1 e).1;have z:l.length=i:=by rw[n,length_take];omega
 refine⟨by rw[length_append,length_take];simp;omega,λu d=>?_,λj u A d c=>?_⟩
 .rcases mem_append.1 d with d|d
  .exact o u d
  .simp at d;subst d;exact f
 .rw[getElem?_take]at c;split at c
  .by_cases B:j<l.length
   .rw[getElem?_append_left B]at d;exact y j u A d (by rw[getElem?_take,if_pos aC];exact c)
   .have:j=i:=by omega
    subst this;rw[getElem?_append_right aC,z,Nat.sub_self]at d;simp at d;subst d;rw[e]at c;cases c;exact g
  .cases c
theorem U4{key k c:Int}(d:c=1\/c=2)(e:(i:Int)>=key):C8 key k i ⟨c,0,⟨#[]⟩⟩=true:=by
 rcases d with rfl|rfl<;>simp[C8,lD,Hv]<;>omega
theorem Ky{key k:Int}{v:VV}(c:KOk k)(d:abX k v):C8 key k i v=true:=by
 obtain⟨e,f⟩:=d c;simp[C8,e,f]
theorem T5(c:Int):Lj ⟨c,0,⟨#[]⟩⟩:=⟨⟨bg,bg⟩,by show(ByteArray.mk #[]).size<=64;decide⟩
theorem bd:bk 58 bYQ:=by
 refine iB func58 ?_;rintro Y m h K ⟨cb,s,key,ks,rfl,Z,R,hl,hk,hK⟩;refine⟨f58_ctx cb key s,rfl,aD Br (aD HI aF),aq cb s key m h K,bf,?_⟩;dsimp only[aq,push_cast];have L:=R.slen;refine⟨λz=>z.2.2.2=h/\z.1<=ks.length/\TP key (ks.take z.1) z.2.1/\bI m z.2.2.1 cb/\aR z.2.2.1 h cb,λz=>ks.length-z.1,⟨(0,[],m,h),⟨rfl,bg,⟨bg,bg,λj u k h=>by simp at h⟩,.refl _ _,Z⟩,MT⟩,?_⟩;rintro⟨i,l,S,h'⟩ ⟨T,hi,d,M,I⟩;dsimp only at T hi d M I⊢
 subst T;have a':l.length=i:=by rw[d.1,length_take];omega
 refine aE (λO=>?_) (λa0 s' h2 B P=>?_)
 .obtain⟨k,C⟩:=eN L O;obtain⟨b,o,ea,rd⟩:=R.at' C;have y:=hk k (mem_of_getElem? C);have D:∀(u:VV)(m':MH),Lj u->C8 key k i u=true->bI S m' cb->aR m' h' cb->h'=h'/\i+1<=ks.length/\TP key (ks.take (i+1)) (l++[u])/\bI m m' cb/\aR m' h' cb:=λu m' A hf o c=>⟨rfl,aC,d.snoc C A hf,M.trans o,c⟩
  have e:ks.length-(i+1)<ks.length-i:=by omega
  have E:IntKind.i64.wrap ((i:Int)+1)=((i+1:Nat):Int):=iJ aC;refine⟨b,o,ea,aC,aC,k,.imm rd,aE (λg=>⟨cb,5,rfl,aC,aC,I,λr U J Q=>aB (λ_=>?_) (λ_=>aE (λ_=>⟨cb,5,rfl,aC,aC,Q,λr V W X=>aB (λ_=>?_) (λ_=>⟨cb,k,rfl,X,λu n A f F G=>?_⟩)⟩) (λ_=>⟨cb,k,rfl,Q,λu n A f F G=>?_⟩))⟩) (λg=>aE (λH=>absurd H g) (λ_=>⟨cb,k,rfl,I,λu n A f F G=>?_⟩))⟩
  .refine⟨by rw[length_map];omega,by rw[length_map];omega,(i+1,l++[⟨2,0,⟨#[]⟩⟩],U,h'),D _ U (T5 2) (U4 (.inr rfl) g) J Q,e,?_⟩;rw[E,map_append];exact MT
  .refine⟨by rw[length_map];omega,by rw[length_map];omega,(i+1,l++[⟨1,0,⟨#[]⟩⟩],V,h'),D _ V (T5 1) (U4 (.inl rfl) g) (J.trans W) X,e,?_⟩;rw[E,map_append];exact MT
  .refine⟨by rw[length_map];omega,by rw[length_map];omega,(i+1,l++[u],n,h'),D _ n A (Ky y f) ((J.trans W).trans F) G,e,?_⟩;rw[E,map_append];exact MT
  .refine⟨by rw[length_map];omega,by rw[length_map];omega,(i+1,l++[u],n,h'),D _ n A (Ky y f) (J.trans F) G,e,?_⟩;rw[E,map_append];exact MT
  .refine⟨by rw[length_map];omega,by rw[length_map];omega,(i+1,l++[u],n,h'),D _ n A (Ky y f) F G,e,?_⟩;rw[E,map_append];exact MT
 .rw[take_of_length_le aC]at d;exact hK s' l S h2 B ⟨⟨l,P,rfl,λi x C=>⟨x,C,rfl⟩⟩,aC⟩ d M (I.mono B)
theorem aqQ:bk 60 bYX:=by
 refine iB func60 ?_;rintro b4 m h K ⟨v,s,tb,n,V,us,u,t,tab,rs,sk,L,W,row,rfl,hs,X,hT,hn,hu,Y,b5,a2,a3,C,h0,h1,hK⟩;refine⟨btQ v ⟨some ⟨tb,0,none⟩,n,V⟩ t sk W m,rfl,aD QT (aD QP (aD O4 aF)),Vo v tb n V t sk W m h K,bf,?_⟩;dsimp only[Vo,push_cast];obtain⟨y,M,a4,Z⟩:=hT;have a5:t<us.length:=(List.getElem?_eq_some_iff.1 hu).1;have a6:=bN.slen Y;have b3:=bN.slen C;have a7:((W.len:Int)==0)=false:=by simp;omega
 have a8:(y.toList.drop (0+t*1)).take [dT u].length=[dT u]:=by
  have D:y.toList[t]? =some (Sl.val u):=by
   have e:(y.toList.take us.length)[t]? =some (Sl.val u):=by rw[Z,getElem?_map,hu];rfl
   rwa [getElem?_take,if_pos a5]at e
  have P:=(List.getElem?_eq_some_iff.1 D).1;rw[Nat.zero_add,Nat.mul_one,drop_eq_getElem_cons P,(List.getElem?_eq_some_iff.1 D).2];rfl
 refine⟨tb,0,rfl,aC,aC,u,.lent y 68 (0,0) M a8,λz=>z.2.2.2.1=u/\z.1<=rs.length/\PH.le h z.2.2.2.2/\∃out,eE z.2.2.2.2 z.2.1 out/\out.length<=2*z.1/\out++Bz tab L row z.2.2.1 (rs.drop z.1)=Bz tab L row false rs,λz=>rs.length-z.1,⟨(0,[],false,u,h),⟨rfl,bg,.refl _,[],eE.nil _,bg,bg⟩,by rw[a7];exact MT⟩,?_⟩;rintro⟨i,F,d,u',hx⟩ ⟨e1,hi,j,out,f,G,nG⟩;dsimp only at e1 hi j f G nG⊢
 subst e1;have a':=f.len;refine aE (λP=>?_) (λb6=>?_)
 .obtain⟨r,H⟩:=eN a6 P;have a9:=(List.getElem?_eq_some_iff.1 H).1;obtain⟨b,o,w,ea,rd,hv⟩:=bN.at Y H;have Q:rs.drop i=r::rs.drop (i+1):=by rw[drop_eq_getElem_cons a9,(List.getElem?_eq_some_iff.1 H).2]
  rw[Q,Bz]at nG;refine⟨b,o,ea,aC,aC,w,.imm (rd.mono j),v,s,t,w,r,rfl,hs.mono j,bP.mono hv j,a2 r (mem_of_getElem? H),λs' h2 A b'=>⟨s',sk,_,L,rfl,b',bP.mono a3 (j.trans A),?_⟩⟩;rw[GH X];generalize hc:eC (lO tab r) L=c at nG⊢
  refine⟨λz=>z.1=i/\z.2.2.2.1=u'/\z.2.2.2.2.1=w/\z.2.2.2.2.2.1=c/\PH.le hx z.2.2.2.2.2.2/\∃out,eE z.2.2.2.2.2.2 z.2.1 out/\out.length<=2*i+1/\out++((if c≠0 then[r]else[])++Bz tab L row z.2.2.1 (rs.drop (i+1)))=Bz tab L row false rs,aE (λI=>aB (λB=>?_) (λB=>?_)) (λI=>?_),?_⟩
  .have B:d=false:=bj B
   subst B;rw[if_pos ⟨I,rfl⟩,show(false||decide (0<=c))=true by simp;omega]at nG;refine⟨W,row,rfl,bP.mono C (j.trans A),h1,λJ R g S=>⟨by rw[length_map];omega,by rw[length_map];omega,(i,F++[J],true,u',w,c,R),⟨rfl,rfl,rfl,rfl,A.trans g,out++[row],(f.mono (A.trans g)).snoc S,by rw[length_append];simp;omega,?_⟩,?_⟩⟩
   .rw[append_assoc];exact nG
   .rw[map_append];exact MT
  .have B:d=true:=bj B
   subst B;rw[if_neg bg,Bool.true_or,nil_append]at nG;exact⟨(i,F,true,u',w,c,h2),⟨rfl,rfl,rfl,rfl,A,out,f.mono A,aC,nG⟩,MT⟩
  .rw[if_neg (λh=>I h.1),show(d||decide (0<=c))=d by rw[decide_eq_false I,Bool.or_false],nil_append]at nG;exact⟨(i,F,d,u',w,c,h2),⟨rfl,rfl,rfl,rfl,A,out,f.mono A,aC,nG⟩,MT⟩
  clear nG f G a' out F;rintro⟨E,F,d,u2,w2,c2,R⟩ ⟨e2,e3,e4,e5,g,out,f,G,nG⟩;dsimp only at e2 e3 e4 e5 g f G nG⊢
  subst e2 e3 e4 e5;have a':=f.len;have hw:IntKind.i64.wrap ((E:Int)+1)=((E+1:Nat):Int):=iJ aC;refine aB (λT=>?_) (λT=>?_)
  .rw[if_pos (bj T)]at nG;refine⟨by rw[length_map];omega,by rw[length_map];omega,(E+1,F++[w2],d,u2,R),⟨rfl,by show E+1<=rs.length;omega,j.trans g,out++[r],f.snoc (bP.mono hv (j.trans g)),by rw[length_append];simp;omega,by rw[append_assoc];exact nG⟩,by show rs.length-(E+1)<rs.length-E;omega,?_⟩;rw[hw,map_append];exact MT
  .rw[if_neg (bj T),nil_append]at nG;refine⟨(E+1,F,d,u2,R),⟨rfl,by show E+1<=rs.length;omega,j.trans g,out,f,by show out.length<=2*(E+1);omega,nG⟩,by show rs.length-(E+1)<rs.length-E;omega,?_⟩;rw[hw];exact MT
 .have b0:i=rs.length:=by omega
  rw[b0,drop_length,Bz]at nG;refine⟨λz=>PH.le h z.2/\eE z.2 z.1 (Bz tab L row false rs),aB (λB=>?_) (λB=>?_),?_⟩
  .have B:d=false:=bj B
   rw[B,if_neg bg]at nG;refine⟨W,row,rfl,bP.mono C j,h1,λJ R g S=>⟨by rw[length_map];omega,by rw[length_map];omega,(F++[J],R),⟨j.trans g,by rw[<-nG];exact(f.mono g).snoc S⟩,?_⟩⟩;rw[map_append];exact MT
  .have B:d=true:=bj B
   rw[B,if_pos rfl,append_nil]at nG;exact⟨(F,hx),⟨j,by rw[<-nG];exact f⟩,MT⟩
  rintro⟨b7,R⟩ ⟨g,O⟩;dsimp only at g O⊢
  have b1:=Mx (t:=tab) (key:=L) (row:=row) (l:=rs) (d:=false);refine⟨tb,0,rfl,aC,aC,λJ h4 a0 b2=>⟨y,68,⟨M⟩,?_,λm' a1=>hK J m' h4 (g.trans a0) ((O.mono a0).rows b2 (by simp at b1;omega)) ⟨_,a1.at_,?_,?_⟩ ⟨λb hb=>(a1.other b hb).symm▸rfl⟩⟩⟩
  .omega
  .have U:splice y.toList (0+((t:Int)).toNat*1) [dT J]=y.toList.set t (Sl.val J):=by
    rw[set_eq_take_append_cons_drop,if_pos (by rw[Array.length_toList];omega)];simp only[splice,Int.toNat_natCast,Nat.zero_add,Nat.mul_one,length_singleton,append_assoc];rfl
   rw[U];simp only[length_set,size_toArray,Array.length_toList];exact a4
  .have U:splice y.toList (0+((t:Int)).toNat*1) [dT J]=y.toList.set t (Sl.val J):=by
    rw[set_eq_take_append_cons_drop,if_pos (by rw[Array.length_toList];omega)];simp only[splice,Int.toNat_natCast,Nat.zero_add,Nat.mul_one,length_singleton,append_assoc];rfl
   rw[U,length_set,map_set, <-Z,take_set]
def PC{α:Type}(T:List α->α->Prop):List α->List α->Prop
 |_,[]=>True
 |pre,x::r=>T pre x/\PC T (pre++[x]) r
theorem U2{α:Type}{T:List α->α->Prop}:∀{l c:List α},PC T c l->∀(j:Nat) x,l[j]? =some x->T (c++l.take j) x
 |[],_,_,j,x,e=>by simp at e
 |y::r,c,h,0,x,e=>by simp at e;subst e;simpa using h.1
 |y::r,c,h,j+1,x,e=>by
  have:=U2 h.2 j x (bj e);simpa using this
theorem EC{α:Type}{T:List α->α->Prop}{l:List α}(h:PC T [] l):Good T l:=λj x e=>bj (U2 h j x e)
theorem ajZ{α:Type}{T:List α->α->Prop}{l:List α}(h:Good T l)(n:Nat):Good T (l.take n):=λj x e=>by
 rw[getElem?_take]at e;split at e
 .rename_i c;rw[take_take,Nat.min_eq_left aC];exact h j x e
 .cases e
theorem aHQ(u:s.tables.length<=8)(g:∀t∈s.tables,t.columns.length<=8/\t.refs=[]/\t.checks=[])(y:0<=s.version)(z:s.version<=1000)(A:Good Dr s.tables):dH s=0:=by
 have n:Da s:=⟨u,λj t e=>by
  obtain⟨o,d,f⟩:=g t (mem_of_getElem? e);exact⟨o,by simp[d],by simp[f]⟩⟩
 have ok:Mg s:=⟨y,z,A,λj t e=>by
  obtain⟨o,d,f⟩:=g t (mem_of_getElem? e);unfold EY;rw[d];intro i x B;simp at B⟩
 rw[J7 n ok];refine uF _ λe c=>?_;obtain⟨i,_,c⟩:=mem_flatMap.1 c;unfold vU at c;split at c
 .rename_i t C;obtain⟨o,d,f⟩:=g t (mem_of_getElem? C);rw[f]at c;simp at c
 .simp at c
theorem WM{id:Int}(h:id=4\/id=5):Good Dr (mV id):=by
 have c:dC id=true:=by rcases h with rfl|rfl<;>rfl
 refine EC ⟨⟨?_,?_,?_,?_,EC ⟨⟨?_,?_,?_⟩,⟨?_,?_,?_⟩,trivial⟩⟩,⟨?_,?_,?_,?_,EC ⟨⟨?_,?_,?_⟩,⟨?_,?_,?_⟩,⟨?_,?_,?_⟩,⟨?_,?_,?_⟩,trivial⟩⟩,⟨?_,?_,?_,?_,EC ⟨⟨?_,?_,?_⟩,⟨?_,?_,?_⟩,trivial⟩⟩,⟨?_,?_,?_,?_,EC ⟨⟨?_,?_,?_⟩,trivial⟩⟩,trivial⟩
 all_goals first|exact c|rfl|(simp;done)|decide
theorem NS(h:BT s):dH s=0/\s.tables≠[]:=by
 obtain⟨d,n,id,g,j,o,u,f,rfl⟩:=h.ex;refine⟨aHQ (by simp[mV];omega) (λt c=>?_) g (by show d<=1000;omega) (ajZ (WM f) n),λe=>?_⟩
 .have c:=mem_of_mem_take c;simp only[mV,mem_cons,not_mem_nil,or_false]at c;rcases c with rfl|rfl|rfl|rfl<;>exact⟨bg,rfl,rfl⟩
 .have:=congrArg List.length e;simp[mV]at this;omega
theorem agZ(h:BT s){t:Ay}(e:t∈s.tables):1<=t.key/\1<=t.columns.length/\t.columns.length<=4/\∀c∈t.columns,KOk c.kind:=by
 obtain⟨j,n,id,o,u,y,z,f,rfl⟩:=h.ex;have g:KOk id:=by rcases f with rfl|rfl;exact .inr (.inl rfl);exact .inr (.inr rfl)
 have e:=mem_of_mem_take e;simp only[mV,mem_cons,not_mem_nil,or_false]at e;rcases e with rfl|rfl|rfl|rfl
 all_goals
  refine⟨bg,bg,bg,λc d=>?_⟩;simp only[mem_cons,not_mem_nil,or_false]at d
 .rcases d with rfl|rfl<;>exact .inr (.inl rfl)
 .rcases d with rfl|rfl|rfl|rfl
  .exact g
  .exact .inr (.inl rfl)
  .exact .inr (.inr rfl)
  .exact .inl rfl
 .rcases d with rfl|rfl<;>exact .inr (.inl rfl)
 .subst d;exact g
structure YY(s:mI)(st:List bt):Prop where
 len:st.length=s.tables.length
 few:∀l∈st,l.length<=4
 ok:Nu s st
 val:StV st
def a9J:Vc.Spec:=λc m h K=>∃cb v s,c=[cP cb,aS v,cI 3]/\aR m h cb/\gO h s v/\BT s/\∀d e m' h',PH.le h h'->Mp h' e d->YY s d->bI m m' cb->aR m' h' cb->K (aSt e) m' h'
noncomputable def bxJ(cb:Nat)(v:bY):Ctx:=pF [(30,JR),(59,xO),(58,bYQ),(61,beZ),(60,bYX)] [(3,{A:=Nat×Sl×MH×PH,st:=λ⟨i,s,m,h⟩=>bO 51 54 [(0,pv cb),(2,iv 3),(4,.at (.ptr 4 0)),(6,.at (.ptr 6 0)),(7,.at (.ptr 7 0)),(18,iv v.tables.len),(19,iv i)] [(4,.cells 40 (v.enc.map .val)),(6,.cells 63 [.val cD.val]),(7,.cells 63 [.val (.slice s.a s.len s.cap)])] m h}),
 (6,{A:=Nat×Int×Sl×MH×PH,st:=λ⟨i,n,s,m,h⟩=>bO 51 54 [(0,pv cb),(2,iv 3),(4,.at (.ptr 4 0)),(6,.at (.ptr 6 0)),(7,.at (.ptr 7 0)),(8,iv i),(9,iv n),(18,iv v.tables.len),(19,iv i)] [(4,.cells 40 (v.enc.map .val)),(6,.cells 63 [.val cD.val]),(7,.cells 63 [.val (.slice s.a s.len s.cap)])] m h})] [] [] [2061] [] false
abbrev Gl(a b:Sl):Prop:=oQ 63 (rG (qK a))=oQ 63 (rG (qK b))
noncomputable abbrev tE(a:Nat×Int×Sl×MH×PH):MH×PH:=a.2.2.2
attribute [push_cast] Gl tE
def OP(cb:Nat)(v:bY)(m:MH)(h:PH)(K:bo):Prop:=
  aA (cF (iX v)) (iX v<=iX v) (aA (yJ (iX v*24)) (yJ (iX v)) (iF (λs M=>rE m M h s 68 1 (replicate (iX v).toNat gA)->M0 (λI x=>aA (I x) (dD cb) (aA kY (eP 4) (aA (eP 6) (eP 7) (aA (iU v) (bC x.1) (aA (bM v) tC (aA (Gl s (u6 x)) (cT M (fY x)) (j4 (eA h (fY x))))))))) (λI O x=>I x->aZ (↑x.1:Int) (aG v.tables) (iQ cb 5 (fY x).1 (fY x).2 (λk m3=>∃(I1:Nat×Int×Sl×MH×PH->Prop)(P:Nat×Int×Sl×MH×PH->Nat),(∃(d:Nat×Int×Sl×MH×PH),aA (I1 d) (dD cb) (aA kY (eP 4) (aA (eP 6) (eP 7) (aA (cG x.1 d.1) (cQ k d.2.1) (aA (iU v) (cG x.1 d.1) (aA (bM v) tC (aA (Gl (u6 x) d.2.2.1) (cT m3 (tE d)) (cW (fY x) (tE d)/\
 True))))))))/\∀(d:Nat×Int×Sl×MH×PH),I1 d->dZ d.2.1 0 (aK (λb o=>aA (aL (tS v) b o) (0<=(↑d.1:Int)) ((↑d.1:Int)<aG v.tables/\∃(y:Int),aA (aJ (tE d).1 (tE d).2 b (bK o d.1 5+2) (bL y)) (bT (tE d).2 b (bK o d.1 5+2) (bL y)) (Cn (aW (jR (bR v)) (↑d.1:Int)) (tE d).2 (λs1 F=>∃(c:Nat)(Q:Sl)(R:Int)(A:br),aA (uX cb 0::cN s1 (aW (fQ y) 3)=uX c 0::cN Q (aW (fQ R) 3)) (aR (tE d).1 F c) (aA (Ints F Q A) (fF A) ((∀(f:Int),List.Mem f A->f=3\/f=4\/f=5)/\∀(G:Sl)(r:bu),jQ (λB j=>dA F j (bP j G r) (aY (TP R A r) (bI (tE d).1 B c) (kR B j c (nV (λS T=>∃(t:Int),oA (λU H=>aA (cJ (bR v) (gJ (fQ
 (↑d.1:Int)) (rC G))=cJ (bR S) (gJ (fQ t) (rC U))) (gO j T S) (aA (bP j U H) (DH H) (∀(V:Sl)(g:PH),dA j g (bP g V (Jj T t H)) (nV (λW X=>aK (λz n=>Je (λY u=>∃(Z:Sl)(C:Nat)(t3:Ay)(D:bt),oA (λs8 f=>oA (λs9 E=>aA (cJ (bR v) (cJ (aM d.2.2.1) (fQ (↑d.1:Int)::cA V G))=cJ (bR W) (cJ (jD (Value.slice (mC z) n Y)) (fQ (↑C:Int)::cA s8 s9))) (gO g X W) (aA (M3 X C t3) (aDZ B z u) (aA (n=u.length) (u[C]? =Option.some Z) (aA (Rows g Z D) (mT D.length) (aA (IK D (λr4=>DH r4)) (bP g s8 f) (aA (bP g s9 E) (0<E.length) (DH E/\∀(u2:Sl),jQ (λJ L=>dA g L (Rows L u2 (Bz t3 f E false D)) (aY (aDZ J z (List.set u
 C u2)) (bI B J z) (∃(e:Nat×Int×Sl×MH×PH),aA (I1 e) (P e<P d) (aA (dD cb) kY (aA (eP 4) (eP 6) (aA (eP 7) (cG d.1 e.1) (aA (cQ (eT (d.2.1-1)) e.2.1) (iU v) (aA (cG d.1 e.1) (bM v) (aA tC (oQ 63 (rG (AG (mC z) n Y))=oQ 63 (rG (qK e.2.2.1))) (aA (cT J (tE e)) (eA L (tE e)) True))))))))))))))))))))))))))))))))))))) (∃(e:Nat×Sl×MH×PH),aA (I e) (O e<O x) (aA (dD cb) kY (aA (eP 4) (eP 6) (aA (eP 7) (iU v) (aA (bD (fP (bE d.1 1)) e.1) (bM v) (aA tC (Gl d.2.2.1 (u6 e)) (gX (eU (tE d) (fY e)) (cW (tE d) (fY e))))))))))) (K (jR (aM (u6 x))) (fY x).1 (fY x).2)))))
theorem cE.iceB{u:MH}{hx:PH}{r:CV}{c:Nat}{d:Array Value}{E:TypeId}(f:u c=some (.cells d E (0,0)))(le:PH.le h hx)(A:∀y,PH.le hx y->(∀i,y c i=d[i]?)->K r (λb=>if b=c then none else u b) y):cE h K r u hx:=by
 intro n;have z:∀i,hx c i=none:=n c _ f
 have g:PH.le hx (λx i=>if x=c then d[i]? else hx x i):=⟨λx i v e=>by
  have:x≠c:=λj=>by rw[j,z i]at e;cases e
  simp[this,e]⟩
 refine⟨_,_,λb o e=>?_,le.trans g,λx i v e=>?_,A _ g (λi=>bg)⟩
 .by_cases j:b=c
  .simp[j]at e
  .simpa[j]using e
 .by_cases j:x=c
  .subst j;simp at e;exact .inr ⟨d,E,(0,0),f,e,bg⟩
  .simp[j]at e;exact .inl e
structure TSt(h:PH)(s:mI)(m:MH)(tb:Nat)(us:ca)(st:List bt):Prop where
 tbl:aDZ m tb us
 ulen:us.length=s.tables.length
 slen:st.length=s.tables.length
 rows:∀(j:Nat) u l,us[j]? =some u->st[j]? =some l->Rows h u l
 ok:Nu s st
 val:StV st
 few:∀l∈st,l.length<=4
theorem TSt.mono{c:Nat}{us:ca}{st:List bt}(x:TSt h s m c us st)(le:PH.le h h')(e:m' c=m c):TSt h' s m' c us st:=by
 obtain⟨d,f,g,n⟩:=x.tbl;exact⟨⟨d,by rw[e];exact f,g,n⟩,x.ulen,x.slen,λj u l a b=>bN.mono (x.rows j u l a b) le λr t o=>bP.mono o le,x.ok,x.val,x.few⟩
theorem bmJ{t:Ay}{r:bu}(h:TP t.key (t.columns.map nZ.kind) r):FG t r=true:=by
 obtain⟨c,_,d⟩:=h;rw[length_map]at c;refine Jo.2 ⟨c,λi e=>?_⟩;have f:r[i]? =some (r.getD i zeroV):=by rw[getD_eq_getElem?_getD,getElem?_eq_getElem e];rfl
 refine d i _ _ f ?_;rw[getElem?_map,getD_eq_getElem?_getD,getElem?_eq_getElem aC];rfl
theorem aOQ{key k:Int}{v:VV}(h:C8 key k i v=true)(c:Lj v):vP v.kind/\vP v.int:=by
 simp only[C8,Bool.and_eq_true]at h;have:=Ls h.1;exact⟨⟨aC,aC⟩,c.int_⟩
theorem TSt.put{C t:Nat}{us:ca}{st:List bt}{D:Sl}{tab:Ay}{l:bt}{row:bu}(x:TSt h s m C us st)(le:PH.le h h')(I:s.tables[t]? =some tab)(E:st[t]? =some l)(L:aDZ m' C (us.set t D))(f:Rows h' D (Bz tab (lO tab row) row false l))(A:TP tab.key (tab.columns.map nZ.kind) row)(R:l.length<=3):
 TSt h' s m' C (us.set t D) (st.set t (Bz tab (lO tab row) row false l)):=by
 have F:=bmJ A;have g:=(List.getElem?_eq_some_iff.1 E).1;have y:=x.ok t tab l I E;refine⟨L,by rw[length_set];exact x.ulen,by rw[length_set];exact x.slen,λj u n B c=>?_,λj M n o c=>?_,λn c=>?_,λn c=>?_⟩
 .by_cases e:t=j
  .subst e;rw[getElem?_set_self (by rw[x.ulen, <-x.slen];exact g)]at B;rw[getElem?_set_self g]at c;cases B;cases c;exact f
  .rw[getElem?_set_ne e]at B c;exact bN.mono (x.rows j u n B c) le λr t z=>bP.mono z le
 .by_cases e:t=j
  .subst e;rw[getElem?_set_self g]at c;rw[I]at o;cases c;cases o;refine⟨λr f=>?_,λi r O P Q=>(NQ (P5.of y.2)).adj i r O P Q⟩;rcases Mw f with rfl|f
   .exact F
   .exact y.1 r f
  .rw[getElem?_set_ne e]at c;exact x.ok j M n o c
 .rcases mem_or_eq_of_mem_set c with G|rfl
  .exact x.val n G
  .intro r f v z;rcases Mw f with rfl|f
   .obtain⟨i,J,rfl⟩:=mem_iff_getElem.1 z;have H:i<(tab.columns.map nZ.kind).length:=by rw[<-A.1];exact J
    exact aOQ (A.2.2 i _ _ (getElem?_eq_getElem J) (getElem?_eq_getElem H)) (A.2.1 _ z)
   .exact x.val l (mem_of_getElem? E) r f v z
 .rcases mem_or_eq_of_mem_set c with G|rfl
  .exact x.few n G
  .have:=Mx (t:=tab) (key:=lO tab row) (row:=row) (l:=l) (d:=false);simp at this;omega
theorem avZ:bk 19 a9J:=by
 refine Tm func19 ?_;rintro d' m h K ⟨cb,v,s,rfl,hc,hs,hp,hK⟩;refine⟨bxJ cb v,rfl,aD Kv (aD ab (aD bd (aD QT (aD aqQ aF)))),OP cb v m h (cE h K),by kernel_rfl,?_⟩;show OP cb v m h (cE h K);dsimp only[OP,push_cast];have b4:=hs.tables.slen;obtain⟨a7,b5⟩:=NS hp;have h8:=Hp a7;have b6:=Bw a7;have d0:0<s.tables.length:=length_pos_iff.2 b5;refine⟨aC,aC,aC,aC,λX m1 J=>?_⟩;rw[show((v.tables.len:Int)).toNat=s.tables.length by omega]at J
 obtain⟨L,D,C,H,M,_,_,a8,T⟩:∃b D C,X=⟨some ⟨b,0,none⟩,s.tables.length,D⟩/\m1 b=some (.cells C 68 (0,0))/\s.tables.length<=D/\D<=maxLen/\C.size=D*1/\C.toList.take (s.tables.length*1)=(replicate s.tables.length [rV]).flatten:=by
  rcases J.row.ex with⟨_,e⟩|⟨b,D,C,O,U,e3,e4,e5,e6⟩
  .have:=congrArg List.length e;rw[length_replicate,length_nil]at this;omega
  .rw[length_replicate]at O e3 e6;exact⟨b,D,C,O,U,e3,e4,e5,e6⟩
 have a2:s.tables.length<=D:=by assumption
 have Y:bW m h L:=J.fresh L 0 (by rw[H])
 have F:L≠cb:=λe=>by
  obtain⟨cs,U⟩:=hc.blk;rw[<-e,Y.m_]at U;cases U
 have Z:∀b,b≠L->m1 b=m b:=λb hb=>J.other b λi e=>by
  rw[H]at e;injection e with e;injection e with O U;exact hb O.symm
 have a9:aR m1 h cb:=hc.keep (Z cb (Ne.symm F)) (.refl _)
 have b':TSt h s m1 L (replicate s.tables.length ⟨none,0,0⟩) (replicate s.tables.length []):=by
  refine⟨⟨C,M,by rw[length_replicate];omega,?_⟩,by simp,by simp,λj u l P E=>?_,λj t l ht E=>?_,λl E=>?_,λl E=>?_⟩
  .rw[length_replicate, <-Nat.mul_one s.tables.length,T,Nat.mul_one,map_replicate];generalize s.tables.length=k
   induction k with
   |zero=>rfl
   |succ k ih=>rw[replicate_succ,flatten_cons,ih,replicate_succ];rfl
  .have P:=mem_of_getElem? P;have E:=mem_of_getElem? E;rw[eq_of_mem_replicate P,eq_of_mem_replicate E];exact bN.nil _ _ _ _
  .rw[eq_of_mem_replicate (mem_of_getElem? E)];exact⟨λr hr=>by simp at hr,λi r r' e=>by simp at e⟩
  .rw[eq_of_mem_replicate E];intro r hr;simp at hr
  .rw[eq_of_mem_replicate E];simp
 clear T a8 M C;refine⟨λz=>z.1<=s.tables.length/\z.2.1=X/\PH.le h z.2.2.2/\aR z.2.2.1 z.2.2.2 cb/\(∀b,b≠L->b≠cb->z.2.2.1 b=m b)/\∃G I,TSt z.2.2.2 s z.2.2.1 L G I/\∀j l,z.1<=j->I[j]? =some l->l=[],λz=>s.tables.length-z.1,⟨(0,X,m1,h),⟨by simp,rfl,.refl _,a9,λb h1 _=>Z b h1,_,_,b',λj l _ e=>eq_of_mem_replicate (mem_of_getElem? e)⟩,MT⟩,?_⟩;clear b' a9;rintro⟨i,a3,m2,h2⟩ ⟨hi,O,V,c2,o2,G,I,f,g⟩;dsimp only at hi O V c2 o2 f g⊢
 rw[O];clear O a3;refine aE (λb7=>?_) (λd1=>?_)
 .obtain⟨tab,A⟩:=eN b4 b7;have a4:=mem_of_getElem? A;obtain⟨tk,tc,d2,b8⟩:=agZ hp a4;have b0:=(List.getElem?_eq_some_iff.1 A).1
  have Q:I[i]? =some []:=by
   have:=getElem?_eq_getElem (l:=I) (i:=i) (by rw[f.slen];exact b0);rw[this,g i _ (Nat.le_refl _) this]
  refine⟨cb,5,rfl,c2,λk m3 k0 k1 o3 c3=>?_⟩;refine⟨λz=>z.1=i/\z.2.2.1=X/\z.2.1<=4/\PH.le h z.2.2.2.2/\aR z.2.2.2.1 z.2.2.2.2 cb/\(∀b,b≠L->b≠cb->z.2.2.2.1 b=m b)/\∃G I l,TSt z.2.2.2.2 s z.2.2.2.1 L G I/\I[i]? =some l/\((l.length:Int)<=4-z.2.1)/\0<=z.2.1/\∀j l,i+1<=j->I[j]? =some l->l=[],λz=>z.2.1.toNat,⟨(i,k,X,m3,h2),⟨rfl,rfl,by show k<=4;omega,V,c3,λb h1 h2=>by show m3 b=m b;rw[o3.other b h2];exact o2 b h1 h2,G,I,[],f.mono (.refl _) (o3.other L F),Q,by simp;omega,k0,λj l hj=>g j l aC⟩,MT⟩,?_⟩;clear o3 c3 m3 k0 k1 f g Q G I k o2 c2 m2;rintro⟨i',n,a3,m3,h3⟩ ⟨O,U,b9,B,c3,o3,G,I,l,f,E,c',b1,g⟩;dsimp only at O U b9 B c3 o3 f E c' b1 g⊢
  rw[O,U];clear O U i' a3;refine aE (λhn=>?_) (λhn=>?_)
  .obtain⟨b,o,y,ea,rd,hy⟩:=bN.at (hs.mono B).tables A;have c0:jY s (i:Int)=tab.columns.map nZ.kind:=by rw[jY,if_neg aC,Int.toNat_natCast,A]
   refine⟨b,o,ea,aC,aC,tab.key,.imm (by rw[<-hy.key];exact bT.part rd 2 1),by rw[<-hy.key];exact bT.part rd 2 1,v,s,i,rfl,hs.mono B,b6,λks h4 R b2=>?_⟩;rw[c0]at b2;refine⟨cb,ks,tab.key,_,rfl,c3.mono R,b2,by rw[length_map];omega,λk hk=>?_,λsr row m5 h5 W a' a0 o5 c5=>?_⟩
   .obtain⟨c,hc,rfl⟩:=mem_map.1 hk;exact b8 c hc
   have d3:row.length=tab.columns.length:=by rw[a0.1,length_map]
   refine⟨v,s,i,sr,row,rfl,hs.mono ((B.trans R).trans W),a',aC,λsk h6 S a1=>?_⟩;rw[GH A]at a1;have a5:=f.mono ((R.trans W).trans S) (o5.other L F);obtain⟨u,P⟩:∃u,G[i]? =some u:=⟨_,getElem?_eq_getElem (by rw[f.ulen];exact b0)⟩
   have c1:=mem_of_getElem? E;refine⟨v,s,L,s.tables.length,D,G,u,i,tab,l,sk,lO tab row,sr,row,by rw[H],hs.mono (((B.trans R).trans W).trans S),A,a5.tbl,f.ulen.symm,P,a5.rows i u l P E,by have:=f.few l c1;omega,λr hr=>?_,a1,bP.mono a' S,aC,aC,λu' m7 h7 a6 c4 c6 o7=>?_⟩
   .have:=(Tn ((f.ok i tab l A E).1 r hr)).1;omega
   have hw:IntKind.i64.wrap (n-1)=n-1:=eG aC aC;have c7:=Mx (t:=tab) (key:=lO tab row) (row:=row) (l:=l) (d:=false);simp at c7;refine⟨(i,n-1,X,m7,h7),⟨rfl,rfl,by show n-1<=4;omega,(((B.trans R).trans W).trans S).trans a6,(c5.mono (S.trans a6)).keep (o7.other cb (Ne.symm F)) (.refl _),λb h1 h2=>by show m7 b=m b;rw[o7.other b h1,o5.other b h2];exact o3 b h1 h2,G.set i u',I.set i _,_,a5.put a6 A E c6 c4 a0 aC,getElem?_set_self (List.getElem?_eq_some_iff.1 E).1,by show(_:Int)<=4-(n-1);omega,by show 0<=n-1;omega,λj l' hj e=>?_⟩,by show(n-1).toNat<n.toNat;omega,?_⟩
   .rw[getElem?_set_ne aC]at e;exact g j l' hj e
   .rw[hw,H];exact MT
  .refine⟨(i+1,X,m3,h3),⟨by show i+1<=s.tables.length;omega,rfl,B,c3,o3,G,I,f,g⟩,by show s.tables.length-(i+1)<s.tables.length-i;omega,?_⟩;rw[iJ aC];exact MT
 .obtain⟨C,M,a8,T⟩:=f.tbl;refine cE.iceB M V λh3 B b3=>hK I X _ h3 (V.trans B) ⟨⟨⟨G,⟨by rw[H,length_map];exact f.ulen.symm,.inr ⟨L,0,by rw[H],λj e hj=>⟨λn x hx=>?_⟩⟩,by rw[H];exact a2⟩,by rw[f.slen,f.ulen],λj l E=>?_⟩,by rw[f.slen];omega⟩,by rw[f.slen];omega,f.val⟩ ⟨f.slen,f.few,f.ok,f.val⟩ ⟨λb hb=>?_⟩ ?_
  .rw[getElem?_map,Option.map_eq_some_iff]at hj;obtain⟨u,P,rfl⟩:=hj;have hn:n=0:=by have:=(List.getElem?_eq_some_iff.1 hx).1;simp[eS]at this;omega
   subst hn
   have hx:u.val=x:=by
    simp[eS]at hx;exact hx
   subst hx;have e:(C.toList.take G.length)[j]? =some u.val:=by rw[T,getElem?_map,P];rfl
   rw[getElem?_take,if_pos (List.getElem?_eq_some_iff.1 P).1,Array.getElem?_toList]at e;rw[b3,show 0+j*1+0=j by omega];exact e
  .have c8:=(List.getElem?_eq_some_iff.1 E).1;have c9:j<G.length:=by rw[f.ulen, <-f.slen];exact c8
   have P:G[j]? =some G[j]:=getElem?_eq_getElem c9;exact⟨_,P,bN.mono (f.rows j _ l P E) B λr t hv=>bP.mono hv B⟩
  .by_cases e:b=L
   .subst e;simp[Y.m_]
   .simp only[e,if_false];exact o2 b e hb
  .refine aR.keep c2 ?_ B;simp[Ne.symm F]
def TJ(h:PH)(xs:cu)(c:ce):Prop:=c.length=xs.length/\∀(i:Nat) q,c[i]? =some q->∃v,xs[i]? =some v/\dQ h q v
structure a9X(d:Nat)(qs:ce):Prop where
 arg:∀q∈qs,PM d q
 fit:∀q,qs[0]? =some q->Bn d q
def bTQ(s:mI)(ps:br)(c:ce):Prop:=∀q∈c,QW q/\(fE s ps q).2=0
def Wn:Vc.Spec:=λe m h K=>∃cb sc p s ps c deep,e=[cP cb,aS sc,cS p,cI c,cI deep]/\aR m h cb/\gO h s sc/\dH s=0/\s.tables≠[]/\Ints h p ps/\ps.length<=1000/\ps.all dC=true/\0<=c/\c<=30/\0<=deep/\deep<=900/\
 ∀xs d m' h',PH.le h h'->TJ h' xs d->bTQ s ps d->a9X deep.toNat d->(d.length:Int)<=c->bI m m' cb->aR m' h' cb->K (.lst 35 21 (xs.map QV.enc)) m' h'
noncomputable def bxQ(cb:Nat)(sc:bY)(p:Sl)(deep:Int):Ctx:=
 dG [(30,JR),(9,Y1 1000),(36,PK),(16,AB),(18,BS)] [(3,{A:=Int×cu×MH×PH,st:=λ⟨n,xs,m,h⟩=>bO 73 78 [(0,pv cb),(2,sv p),(4,iv deep),(6,.at (.ptr 6 0)),(11,.at (.lst 71)),(12,iv n)] [(6,.cells 40 (sc.enc.map .val)),(71,.lst 35 21 (xs.map QV.enc))] m h})] [(7,{A:=Int×cu×QV×Bool×MH×PH,st:=λ⟨n,xs,q,b,m,h⟩=>bO 73 78 [(0,pv cb),(2,sv p),(4,iv deep),(6,.at (.ptr 6 0)),(11,.at (.lst 71)),(12,iv n),(13,.at (.ptr 13 0)),(37,bv b)] [(6,.cells 40 (sc.enc.map .val)),(13,.cells 35 (q.enc.map .val)),(71,.lst 35 21 (xs.map QV.enc))] m h}),
  (12,{A:=Int×cu×QV×MH×PH,st:=λ⟨n,xs,q,m,h⟩=>bO 73 78 [(0,pv cb),(2,sv p),(4,iv deep),(6,.at (.ptr 6 0)),(11,.at (.lst 71)),(12,iv n),(13,.at (.ptr 13 0))] [(6,.cells 40 (sc.enc.map .val)),(13,.cells 35 (q.enc.map .val)),(71,.lst 35 21 (xs.map QV.enc))] m h})] [] true
noncomputable abbrev C3(a:cu):List bm:=List.map QV.enc a
abbrev Cp(a b:List bm):Prop:=Option.some (Own.lst 35 21 a)=Option.some (Own.lst 35 21 b)
noncomputable abbrev qU(a:Int×cu×QV×Bool×MH×PH):List bm:=C3 a.2.1
noncomputable abbrev uW(a:Int×cu×QV×Bool×MH×PH):MH×PH:=a.2.2.2.2
abbrev Gy(a:(Int×cu×QV×MH×PH)->Prop)(b:Nat)(c:Sl)(d:Int)(e:Int×cu×QV×Bool×MH×PH)(g:(Int×cu×QV×MH×PH)->Int×cu×QV×MH×PH)(i:(Int×cu×QV×MH×PH)->Prop):Prop:=∃(x:Int×cu×QV×MH×PH),aA (a x) (dD b) (aA (aH c) (mQ d) (aA (eP 6) (eL 71) (aA (cQ e.1 (g x).1) rX (i x))))
noncomputable abbrev Bf(a:Int×cu×QV×MH×PH):List bm:=C3 a.2.1
noncomputable abbrev tD(a:Int×cu×QV×MH×PH):MH×PH:=a.2.2.2
attribute [push_cast] C3 Cp qU uW Gy Bf tD
def VB(cb:Nat)(sc:bY)(p:Sl)(D deep:Int)(m:MH)(h:PH)(K:bo):Prop:=
  iQ cb (eT (D+1)) m h (λk Z=>∃(I:Int×cu×MH×PH->Prop)(V:Int×cu×MH×PH->Nat),(∃(x:Int×cu×MH×PH),aA (I x) (dD cb) (aA (aH p) (mQ deep) (aA (eP 6) (eL 71) (aA (cQ k x.1) (bM sc) (aA (rB 35 21 (C3 x.2.1)) (cT Z x.2.2) (eA h x.2.2/\True))))))/\∀(x:Int×cu×MH×PH),I x->dZ x.1 0 (∃(c:Nat),AJ (λs W=>ET (λO P=>∃(d:Int),aA (uX cb 0::cJ (bR sc) (gQ p deep)=uX c 0::cJ (bR s) (gQ W d)) (aR x.2.2.1 x.2.2.2 c) (aA (gO x.2.2.2 O s) (dH O=0) (aA (jU (O.tables=[])) (Ints x.2.2.2 W P) (aA (fF P) (fS (BD P)) (aA (Int.negSucc 0<=d) (d<=1000) ((d+1).toNat<1000/\GD (λw q=>jQ (λE z=>dA x.2.2.2 z (dQ z q w) (aY (QW q) (Bn d.toNat q)
 (aY (wB O P q=0) (bI x.2.2.1 E c) (kR E z c (∃(I1:Int×cu×QV×MH×PH->Prop),(∃(I2:Int×cu×QV×Bool×MH×PH->Prop),dZ (lU (C3 x.2.1)) 0 (lW cb 4 E z (λn r=>∀(j:MH),aY (bI E j n) (aR j z n) (∃(f:Int×cu×QV×Bool×MH×PH),aA (I2 f) (dD cb) (aA (aH p) (mQ deep) (aA (eP 6) (eL 71) (aA (cQ x.1 f.1) rX (aA (iT r f.2.2.2.1) (bM sc) (aA (iS w f.2.2.1) (Cp (C3 x.2.1) (qU f)) (gX (cT j (uW f)) (eA z (uW f))))))))))) (∃(f:Int×cu×QV×Bool×MH×PH),aA (I2 f) (dD cb) (aA (aH p) (mQ deep) (aA (eP 6) (eL 71) (aA (cQ x.1 f.1) rX (aA (BC f.2.2.2.1) (bM sc) (aA (iS w f.2.2.1) (Cp (C3 x.2.1) (qU f)) (gX (cT E (uW f))
 (eA z (uW f)))))))))/\∀(f:Int×cu×QV×Bool×MH×PH),fA (I2 f) f.2.2.2.1 (oO 0 (qU f) (λe=>jC (qU f) 0 e/\∃(y:QV),mZ 21 e y.enc/\Co (cJ (bR sc) (eJ p (dL y))) (uW f).2 (λ_ _ _ X u=>oO 0 (qU f) (λY=>jC (qU f) 0 Y/\∃(F:QV),aA (mZ 21 Y F.enc) ((∃(o:bm),jC (qU f) 0 o/\mZ 21 o F.enc)/\wY (λn G t A B C=>aA (uX cb 0::cN X (gQ p 1)=uX n 0::cN G (gQ t (↑C:Int))) (aR (uW f).1 u n) (aA (Ints u G A) (Ints u t B) (aA (fF A) (fF B) (mT C/\wV u (λv Q j H=>aY (xN A B C Q) (bI (uW f).1 j n) (kR j H n (bZ H 21 (iA F.enc) (λJ R=>Co (cJ (bR sc) (eJ p (jR (DX v J)))) R
 (λS T U _ L=>cO (wB S T U) 0 (oO 0 (qU f) (λo=>jC (qU f) 0 o/\∃(M:QV),mZ 21 o M.enc/\Gy (λg=>I1 g) cb p deep f (λg=>g) (λg=>aA (bM sc) (iS M g.2.2.1) (aA (Cp (qU f) (Bf g)) (cT j (tD g)) (j4 (eA L (tD g))))))) (Gy (λg=>I1 g) cb p deep f (λg=>g) (λg=>aA (bM sc) (IL 2 v J (C5 g.2.2.1)) (aA (Cp (qU f) (Bf g)) (cT j (tD g)) (j4 (eA L (tD g)))))))))))))))) ((∃(o:bm),jC (qU f) 0 o/\mZ 21 o F.enc)/\wY (λn G t A B C=>aA (uX cb 0::cN X (gQ p 1)=uX n 0::cN G (gQ t (↑C:Int))) (aR (uW f).1 u n) (aA (Ints u G A) (Ints u t B) (aA (fF A) (fF B) (mT C/\wV u
 (λv Q j H=>aY (xN A B C Q) (bI (uW f).1 j n) (kR j H n (bZ H 21 (iA F.enc) (λJ R=>Co (cJ (bR sc) (eJ p (jR (DX v J)))) R (λS T U _ L=>cO (wB S T U) 0 (oO 0 (qU f) (λo=>jC (qU f) 0 o/\∃(M:QV),mZ 21 o M.enc/\Gy (λg=>I1 g) cb p deep f (λg=>g) (λg=>aA (bM sc) (iS M g.2.2.1) (aA (Cp (qU f) (Bf g)) (cT j (tD g)) (j4 (eA L (tD g))))))) (Gy (λg=>I1 g) cb p deep f (λg=>g) (λg=>aA (bM sc) (IL 2 v J (C5 g.2.2.1)) (aA (Cp (qU f) (Bf g)) (cT j (tD g)) (j4 (eA L (tD g)))))))))))))))))))) (Gy (λg=>I1 g) cb p deep f (λg=>g) (λg=>aA (bM sc) (iS f.2.2.1 g.2.2.1) (aA
 (Cp (qU f) (Bf g)) (eU (uW f) (tD g)) (j4 (cW (uW f) (tD g)))))))/\∀(f:Int×cu×QV×MH×PH),I1 f->aA (iY (jA (Bf f) 1) 280) (dO (Bf f)) (∃(g:Int×cu×MH×PH),aA (I g) (V g<V x) (aA (dD cb) (aH p) (aA (mQ deep) (eP 6) (aA (eL 71) (cQ (eT (f.1-1)) g.1) (aA (bM sc) (Option.some (Own.lst 35 21 (jW (Bf f) f.2.2.1.enc))=Option.some (Own.lst 35 21 (C3 g.2.1))) (aA (eU (tD f) g.2.2) (cW (tD f) g.2.2) True)))))))))))))))))))) (K (CV.lst 35 21 (C3 x.2.1)) x.2.2.1 x.2.2.2))
theorem TJ.mono{xs:cu}{c:ce}(r:TJ h xs c)(le:PH.le h h'):TJ h' xs c:=⟨r.1,λi q e=>let⟨v,e1,e2⟩:=r.2 i q e;⟨v,e1,e2.mono le⟩⟩
theorem TJ.snoc{xs:cu}{c:ce}(r:TJ h xs c)(f:dQ h q v):TJ h (xs++[v]) (c++[q]):=by
 refine⟨by simp[r.1],λi x e=>?_⟩;have g:=r.1;by_cases j:i<c.length
 .rw[getElem?_append_left j]at e;obtain⟨u,n,o⟩:=r.2 i x e;exact⟨u,by rw[getElem?_append_left aC];exact n,o⟩
 .rw[getElem?_append_right aC]at e;have d:=(List.getElem?_eq_some_iff.1 e).1;simp at d;have:i=c.length:=by omega
  subst this;simp at e;subst e;exact⟨v,by rw[getElem?_append_right aC,g];simp,f⟩
theorem atX:bk 23 Wn:=by
 refine iB func23 ?_;rintro b5 m h K ⟨cb,sc,p,s,ps,c,deep,rfl,hc,hs,he,a7,Y,Q,a8,m0,m1,d0,d1,hK⟩;refine⟨bxQ cb sc p deep,rfl,aD Kv (aD (aOZ 1000) (aD Br (aD Rl (aD GR aF)))),VB cb sc p c deep m h K,bf,?_⟩;have hw:IntKind.i64.wrap (c+1)=c+1:=eG aC aC;dsimp only[VB,push_cast];rw[hw];refine⟨cb,_,rfl,hc,λk Z k0 k1 o1 c1=>?_⟩;refine⟨λ⟨n,xs,W,o⟩=>0<=n/\n<=c/\PH.le h o/\bI m W cb/\aR W o cb/\∃g,TJ o xs g/\bTQ s ps g/\a9X deep.toNat g/\(g.length:Int)<=c-n,λ⟨n,_,_,_⟩=>n.toNat,⟨(k,[],Z,h),⟨k0,by show k<=c;omega,.refl _,o1,c1,[],⟨rfl,λi q e=>by simp at e⟩,λq hq=>by simp at hq,⟨λq hq=>by simp at hq,λq hq=>by simp at hq⟩,by simp;omega⟩,MT⟩,?_⟩;clear o1 c1 k0 k1 Z hw;rintro⟨n,xs,W,o⟩ ⟨n0,n1,f,ox,cx,g,rp,z,u,b6⟩;dsimp only;have a9:xs.length=g.length:=rp.1.symm;refine aE (λhn=>?_) (λhn=>hK xs g W o f rp z u aC ox cx);refine⟨cb,sc,p,s,ps,deep,rfl,cx,hs.mono f,he,a7,Y.mono f,Q,a8,by show-1<=deep;omega,aC,aC,λw q m2 I d rq qw J b' o2 c2=>?_⟩;refine⟨λ⟨n',R,q',F,S⟩=>n'=n/\R=xs/\PH.le I S/\bI W F cb/\aR F S cb/\∃q,dQ S q q'/\QW q/\(PM deep.toNat q/\(g=[]->Bn deep.toNat q))/\(fE s ps q).2=0,?_,?_⟩
 .refine⟨λ⟨n',R,q',b,F,S⟩=>n'=n/\R=xs/\q'=w/\S=I/\(b=true->0<xs.length)/\bI W F cb/\aR F I cb,aE (λhl=>⟨cb,4,rfl,aC,aC,c2,λr m3 o3 c3=>⟨(n,xs,w,r,m3,I),⟨rfl,rfl,rfl,rfl,λ_=>bj hl,o2.trans o3,c3⟩,MT⟩⟩) (λ_=>⟨(n,xs,w,false,m2,I),⟨rfl,rfl,rfl,rfl,(λe=>(by cases e)),o2,c2⟩,MT⟩),?_⟩;rintro⟨n,xs,w,b,F,I⟩ ⟨rfl,rfl,rfl,rfl,hb,oy,cy⟩;dsimp only;refine aB (λe=>?_) (λ_=>⟨(n,xs,w,F,I),⟨rfl,rfl,.refl _,oy,cy,q,rq,qw,⟨J.arg,λ_=>J⟩,b'⟩,MT⟩);have a':=hb e;have T:g[0]? =some (g[0]'(by omega)):=getElem?_eq_getElem _;obtain⟨U,b0,V⟩:=rp.2 0 _ T;obtain⟨a0,a1⟩:=z _ (mem_of_getElem? T);have L:=u.fit _ T;have M:g≠[]:=λe=>absurd (congrArg List.length e) (by rw[<-a9];exact Nat.ne_of_gt a');have j:(xs.map QV.enc)[0]? =some (QV.enc U):=by rw[getElem?_map,b0];rfl
  have A:(0:Int)<((xs.map QV.enc).length:Int):=by simp;omega
  have fin:∀(pv:PV)(B:Pred)(O:Sl)(G:MH)(C:PH),PH.le I C->eW C B pv->CR B->cZ C O 21 [QV.enc U]->dQ C (.mk 2 0 B [] [] [] [] 0 [g[0]'(by omega)]) ⟨2,0,pv,cD,cD,cD,cD,0,O⟩/\QW (.mk 2 0 B [] [] [] [] 0 [g[0]'(by omega)]):=λpv B O G C l1 l2 l3 l4=>⟨EF l2 (yD l4 (V.mono (d.trans l1))),NO l3 a0⟩
  refine⟨aC,A,_,j,U,rfl,sc,p,U,s,ps,_,rfl,hs.mono (f.trans d),Y.mono (f.trans d),V.mono d,λkk h3 D ik=>?_⟩;have b1:=Hs s ps (g[0]'(by omega));generalize (fE s ps (g[0]'(by omega))).fst=ks at ik b1;have b4:∀(pv:PV)(B:Pred)(G:MH)(C:PH),PH.le h3 C->eW C B pv->CR B->bI F G cb->aR G C cb->True:=λ_ _ _ _ _ _ _ _ _=>trivial;refine⟨aC,A,_,j,U,rfl,⟨⟨_,j,rfl⟩,cb,kk,p,ks,ps,1,rfl,cy.mono D,ik,Y.mono ((f.trans d).trans D),aC,Q,aC,λpv B G C a2 a3 a4 o5 c5 O h6 E r6=>?_⟩,⟨_,j,rfl⟩,cb,kk,p,ks,ps,1,rfl,cy.mono D,ik,Y.mono ((f.trans d).trans D),aC,Q,aC,λpv B G C a2 a3 a4 o5 c5 O h6 E r6=>?_⟩
  all_goals
   have X:=(D.trans a2).trans E;obtain⟨f1,f2⟩:=fin pv B O G h6 X (a3.mono E) a4.vals r6;refine⟨sc,p,⟨2,0,pv,cD,cD,cD,cD,0,O⟩,s,ps,_,rfl,hs.mono ((f.trans d).trans X),Y.mono ((f.trans d).trans X),f1,λsl h7 y _=>aB (λe2=>?_) (λe2=>?_)⟩
   .exact⟨aC,A,_,j,U,rfl,(n,xs,U,G,h7),⟨rfl,rfl,X.trans y,oy.trans o5,c5.mono (E.trans y),_,V.mono ((d.trans X).trans y),a0,⟨L.arg,λe=>(M e).elim⟩,a1⟩,MT⟩
   .exact⟨(n,xs,⟨2,0,pv,cD,cD,cD,cD,0,O⟩,G,h7),⟨rfl,rfl,X.trans y,oy.trans o5,c5.mono (E.trans y),_,f1.mono y,f2,⟨L.filter,λe=>(M e).elim⟩,bj e2⟩,MT⟩
 .rintro⟨n,xs,q',F,S⟩ ⟨rfl,rfl,a5,oy,cy,q2,b2,b3,P,a6⟩;dsimp only;have hw:IntKind.i64.wrap (n-1)=n-1:=eG aC aC;rw[hw];refine⟨by simp;omega,by simp;omega,(n-1,xs++[q'],F,S),⟨by show 0<=n-1;omega,by show n-1<=c;omega,(f.trans d).trans a5,ox.trans oy,cy,g++[q2],(rp.mono (d.trans a5)).snoc b2,λx o=>?_,⟨λx o=>?_,λx o=>?_⟩,by simp;omega⟩,by show(n-1).toNat<n.toNat;omega,?_⟩
  .rcases mem_append.1 o with H|H
   .exact z x H
   .simp at H;subst H;exact⟨b3,a6⟩
  .rcases mem_append.1 o with H|H
   .exact u.arg x H
   .simp at H;subst H;exact P.1
  .match g,u,o with
   |[],_,o=>simp at o;subst o;exact P.2 rfl
   |a::l,u,o=>exact u.fit x (bj o)
  .rw[map_append];exact MT
theorem aNQ{st:List bt}(f:BT s)(h:YY s st):l8 s st=0:=by
 obtain⟨c,g⟩:=NS f;have o:=Hp c;have j:=h.len
 have d:∀l:List bt,(∀x∈l,x.length<=4)->(l.map λx=>(x.length:Int)).sum<=4*(l.length:Int):=λl=>by
  induction l with
  |nil=>intro _;simp
  |cons a l n=>
   intro e;have:=n λx h=>e x (mem_cons_of_mem _ h);have:=e a (mem_cons_self ..);simp only[map_cons,sum_cons,length_cons];omega
 have:=d st h.few;unfold l8;rw[if_neg (by simp[c]),if_neg aC,if_neg (by simp[j]),if_pos h.ok]
theorem dU.new(d:dU m)(c:m cb=none)(o:bI m m' cb):dU m':=by
 obtain⟨T,f,e⟩:=d;refine⟨T,f,?_⟩;rw[o.other 1 (λg=>by rw[<-g,e]at c;cases c)];exact e
def biX:Vc.Spec:=λc m h K=>c=[]/\dU m/\K (cB true) m h
def b1Z:Vc.Spec:=λc m h K=>∃s d,c=[cS s]/\cZ h s 1 (aU d)/\s.len<=s.cap/\dU m/\∀m' h',Sub m m'->K (cB true) m' h'
def PI:Vc.Spec:=λd m h K=>∃sc e s c,d=[aS sc,cS e]/\gO h s sc/\xM h e c/\dU m/\(∀q∈c,(fE s [] q).2=0->vI q)/\tJ s c=0/\∀p r ts ks h',PH.le h h'->BW c [] ts ks->TM h' p r ts ks->K (.tup [aPl p r,cI 0]) m h'
def bbJ:Vc.Spec:=λd m h K=>∃sc e p r s c ts rs,d=[aS sc,aSt e,aPl p r]/\gO h s sc/\Mp h e c/\rT h p r ts rs/\dU m/\i7 s ts rs=0/\l8 s c=0/\Nn s c ts/\∀f h',PH.le h h'->Leaves h' f (uA c ts)->K (.tup [cS f,cI 0]) m h'
def Z5:Vc.Spec:=λd m h K=>∃v s e c w q,d=[aS v,aSt e,aQ w]/\gO h s v/\Mp h e c/\dQ h q w/\lP q=true/\dU m/\(fE s [] q).2=0/\l8 s c=0/\bhJ c q/\∀f h',PH.le h h'->Rows h' f (tZ c q)->K (.tup [cS f,cI 0]) m h'
theorem Sound.imp{P:Program}{f:FuncId}{S S':Vc.Spec}(x:Sound P f S)(d:∀c m h K,S' c m h K->S c m h K):Sound P f S':=⟨x.1,λc e m h w K g=>x.2 c e m h w K (d _ _ _ _ g)⟩
theorem bWQ:bk 24 PI:=Sound.imp Q7 λ_ _ _ _⟨sc,c,s,d,e,f,g,j,n,o,u⟩=>⟨sc,c,s,d,e,f,g,j,n,λh=>(h o).elim,λ_=>u⟩
theorem bVJ:bk 25 bbJ:=Sound.imp asJ λ_ _ _ _⟨sc,c,p,r,s,d,ts,rs,e,f,g,j,n,o,u,y,z⟩=>⟨sc,c,p,r,s,d,ts,rs,e,f,g,j,n,λ_ _=>y,λh=>(h o).elim,λ_ h=>(h u).elim,λ_ _=>z⟩
theorem bVZ:bk 26 Z5:=Sound.imp asZ λ_ _ _ _⟨v,s,d,c,w,q,e,f,g,j,n,o,u,y,z,A⟩=>⟨v,s,d,c,w,q,e,f,g,j,n,o,λ_ _=>z,by
 have:aHJ s c q=(tZ c q,0):=by unfold aHJ;rw[if_neg (by simp[u]),if_neg (by simp[y])]
 rw[this];exact A⟩
noncomputable def bQX:Ctx:=
 dG [(7,bYZ),(8,bcZ),(23,Wn),(19,a9J),(24,PI),(25,bbJ),(26,Z5),(27,bFJ),(28,biX)]
  [(10,{A:=Nat×bY×Sl×Sl×Sl×Sl×Sl×MH×PH,st:=λ⟨i,sc,c,p,r,u,q,m,h⟩=>bO 109 110 [(4,.at (.ptr 4 0)),(6,.at (.ptr 6 0)),(7,.at (.ptr 7 0)),(9,sv u),(60,sv q),(61,iv q.len),(62,iv i)] [(4,.cells 40 (sc.enc.map .val)),(6,.cells 63 [.val (.slice c.a c.len c.cap)]),(7,.cells 52 [.val (.slice p.a p.len p.cap),.val (.slice r.a r.len r.cap)])] m h})] [] [] false
def OE(m:MH)(h:PH)(K:bo):Prop:=
  bZ h 2 (iA (gV (sA (CX 105 100)) (fD 4))) (λs E=>bZ E 21 (iA (bA (fD 1) bJ (bA bJ bJ (bA bJ bJ (bA bJ bJ (v8 rV (AF gA))))))) (λg F=>bZ F 21 (bA (fD 2) bJ (bA (fD 1) bJ (bA bJ bJ (bA bJ bJ (v8 rV (AF (aM g))))))::iA (bA (fD 2) bJ (bA (fD 1) bJ (bA bJ bJ (bA bJ bJ (v8 rV (AF (aM g)))))))) (λG H=>bZ H 5 (iA (bA (sA (tR 116)) (dT s) (bA (fD 1) rV gA))) (λI J=>bZ J 21 (iA (bA (fD 6) bJ (bA bJ bJ (bA bJ bJ (bA bJ bJ (v8 rV (AF (aM G)))))))) (λL d=>AJ (λj n=>∃(e:mI)(q:ce),aA (gJ (jR (gV bJ (dT I))) (rC L)=gJ (jR (bR j)) (rC n)) (gO d e j) (aA (xM d n q)
 (dU m) (aA (∀(f:Query),aY (List.Mem f q) (wB e [] f=0) (vI f)) (fA (jU (tJ e q=0)) (tJ e q==0) (K aX m d) (K aX m d)) (tJ e q=0->∀(p r:Sl)(t:cn)(k:ck)(c:PH),dA d c (BW q [] t k) (fA (TM c p r t k) (aG p==3) (eD (aG r) 1 (aK (λb o=>aA (aL r.a b o) ((0:Int)<=0) (0<aG r/\∃(y:Int),aJ m c b (o+0) (bL y)/\eD y 2 (aK (λu z=>aA (aL p.a u z) ((0:Int)<=2) (2<aG p/\∃(A:Int),aJ m c u (z+44+20) (bL A)/\eD A 1 (aK (λB C=>aA (aL p.a B C) ((0:Int)<=2) (2<aG p/\∃(D:Int),aJ m c B (C+44+21) (bL D)/\K (Ah (D==1)) m c))) (K aX m c)))) (K aX m c)))) (K aX m c)) (K aX m c)))))))))))
noncomputable abbrev oS(a:Nat×bY×Sl×Sl×Sl×Sl×Sl×MH×PH):Sl×Sl×MH×PH:=a.2.2.2.2.2
noncomputable abbrev zT(a:Nat×bY×Sl×Sl×Sl×Sl×Sl×MH×PH):Sl:=(oS a).2.1
noncomputable abbrev CB(a:Nat×bY×Sl×Sl×Sl×Sl×Sl×MH×PH):Sl:=a.2.2.2.2.1
noncomputable abbrev M1(a:Nat×bY×Sl×Sl×Sl×Sl×Sl×MH×PH):cr:=lX (qK a.2.2.2.1) (qK (CB a))
noncomputable abbrev uT(a:Nat×bY×Sl×Sl×Sl×Sl×Sl×MH×PH):Nat->Option Obj:=(cX (oS a)).1
attribute [push_cast] oS zT CB M1 uT
def ZF(s:Sl)(m:MH)(h:PH)(K:bo):Prop:=
  ∃(D:Sl)(c:ci)(m1:Nat),aA (gQ s 240=gQ D (↑m1:Int)) (cZ h D 1 (aU c)) (aA (D.len<=D.cap) (mT m1) (fR (λz E=>∀(F:PH),dA h F (Et m z) (aY (bI m E z) (aR E F z) (∃(G:Nat),aA (Bg z=Bg G) (aR E F G) (∀(s2:mI)(v:bY),jQ (λH n=>aY (BT s2) (gO n s2 v) (dA F n (bI E H G) (kR H n G (∃(J:Nat),AJ (λs3 p=>ET (λL M=>GC (λO d=>aA (uX z 0::cJ (bR v) (jG::aW (fQ 3) 2)=uX J 0::cJ (bR s3) (cN p (aW (fQ O) d))) (aR H n J) (aA (gO n L s3) (dH L=0) (aA (jU (L.tables=[])) (Ints n p M) (aA (fF M) (fS (BD M)) (aA (cF O) (O<=30) (aA (cF d) (d<=900) (∀(x:cu)(q:ce),jQ (λP A=>
 dA n A (TJ A x q) (aY (bTQ L M q) (a9X d.toNat q) (aY ((↑q.length:Int)<=O) (bI H P J) (kR P A J (∃(Q:Nat),nV (λv1 s5=>aA (uX z 0::aW (jR (bR v)) 3=uX Q 0::aW (jR (bR v1)) 3) (aR P A Q) (aA (gO A s5 v1) (BT s5) (∀(s6:List bt)(s7:Sl),jQ (λu R=>dA A R (Mp R s7 s6) (aY (YY s5 s6) (bI P u Q) (kR u R Q (bZ R 21 (C3 x) (λS h5=>AJ (λs9 a=>∃(a1:mI)(T:ce),aA (gJ (jR (bR v)) (rC S)=gJ (jR (bR s9)) (rC a)) (gO h5 a1 s9) (aA (xM h5 a T) (dU u) (aA (∀(j:Query),aY (List.Mem j T) (wB a1 [] j=0) (vI j)) (tJ a1 T=0) (∀(U r:Sl)(t:cn)(k:ck)(B:PH),dA h5 B (BW T [] t k) (TM B U r t k->∃(a2:bY),mS
 (λa3 p3=>∃(r1:Sl)(V:mI)(W:List bt)(X:cn)(r2:br),aA (cJ (bR v) (jT (aM s7) (gV (dT U) (dT r)))=cJ (bR a2) (jT (aM a3) (gV (dT p3) (dT r1)))) (gO B V a2) (aA (Mp B a3 W) (rT B p3 r1 X r2) (aA (dU u) (i7 V X r2=0) (aA (l8 V W=0) (Nn V W X) (∀(a6:Sl)(C:PH),dA B C (Leaves C a6 (uA W X)) (dN (aG r !=aG S) (K aX u C) (aG a6 !=aG U) (K aX u C) (∃(I:Nat×bY×Sl×Sl×Sl×Sl×Sl×MH×PH->Prop)(m7:Nat×bY×Sl×Sl×Sl×Sl×Sl×MH×PH->Nat),(∃(e:Nat×bY×Sl×Sl×Sl×Sl×Sl×MH×PH),aA (I e) (eP 4) (aA (eP 6) (eP 7) (aA (bB a6 (oS e).1) (bB S (zT e)) (aA (bQ S (zT e)) (bC e.1) (aA (sS v e.2.1) (Gl s7 e.2.2.1)
 (aA (oQ 52 (lX (qK U) (qK r))=oQ 52 (M1 e)) (cT u (cX (oS e))) (j4 (eA C (cX (oS e))))))))))/\∀(e:Nat×bY×Sl×Sl×Sl×Sl×Sl×MH×PH),I e->aZ (↑e.1:Int) (aG (zT e)) (aK (λb o=>aA (aL (zT e).a b o) (0<=(↑e.1:Int)) ((↑e.1:Int)<aG (zT e)/\∃(y:QV),aJ (uT e) (cX (oS e)).2 b (bK o e.1 21) y.enc/\nV (λv2 a7=>HB (λa8 Y=>oU (λw j=>aA (cJ (bR e.2.1) (gJ (jR (aM e.2.2.1)) (dL y))=cJ (bR v2) (gJ (jR (aM a8)) (dL w))) (gO (cX (oS e)).2 a7 v2) (aA (Mp (cX (oS e)).2 a8 Y) (dQ (cX (oS e)).2 j w) (aA (fS (lP j)) (dU (uT e)) (aA (wB a7 [] j=0) (l8 a7 Y=0) (bhJ Y j/\∀(b1:Sl)(f:PH),dA (cX (oS e)).2
 f (Rows f b1 (tZ Y j)) (aK (λb2 o1=>aA (aL (CB e).a b2 o1) (0<=(↑e.1:Int)) ((↑e.1:Int)<aG (CB e)/\∃(y1:Int),aJ (uT e) f b2 (bK o1 e.1 1) (bL y1)/\aZ y1 0 (K aX (uT e) f) (aK (λb3 o2=>aA (aL (CB e).a b3 o2) (0<=(↑e.1:Int)) ((↑e.1:Int)<aG (CB e)/\∃(y2:Int),aJ (uT e) f b3 (bK o2 e.1 1) (bL y2)/\fO y2 (aG (oS e).1) (K aX (uT e) f) (aK (λb4 o3=>aA (aL (CB e).a b4 o3) (0<=(↑e.1:Int)) ((↑e.1:Int)<aG (CB e)/\∃(Z:Int),aJ (uT e) f b4 (bK o3 e.1 1) (bL Z)/\aK (λb5 o4=>aA (aL (oS e).1.a b5 o4) (0<=Z) (Z<aG (oS e).1/\∃(y4:Sl),aJ (uT e) f b5 (fX o4 Z 1) (aM y4)/\∃(b6:Sl),HC (λt2 b7=>∃(b8:List (List
 VV)),u9 (cA b1 y4) (cA b6 t2) (Rows f b6 b7) (Rows f t2 b8) (λr3=>fA (fS r3↔b7=b8) (!r3) (K aX (uT e) f) (∃(g:Nat×bY×Sl×Sl×Sl×Sl×Sl×MH×PH),aA (I g) (m7 g<m7 e) (aA (eP 4) (eP 6) (aA (eP 7) (bB (oS e).1 (oS g).1) (aA (bB (zT e) (zT g)) (bQ (zT e) (zT g)) (aA (bD (fP (bE e.1 1)) g.1) (sS e.2.1 g.2.1) (aA (Gl e.2.2.1 g.2.2.1) (oQ 52 (M1 e)=oQ 52 (M1 g)) (gX (eU (cX (oS e)) (cX (oS g))) (eA f (cX (oS g))))))))))))))))))))))))))))))))) (aA (([]:cq)=[]) (dU (uT e)) (K gL (uT e) (cX (oS e)).2))))))))))))))))))))))))))))))))))))))))))))))
def bS:mI:=⟨0,[⟨⟨⟨[116]⟩⟩,[⟨⟨⟨[105,100]⟩⟩,4⟩],1,[],[]⟩]⟩
def AR:Query:=.mk 1 0 gS [] [] [] [] 0 []
def We:Pred:=.mk 1 0 dR dR []
def bF:Query:=.mk 2 0 We [] [] [] [] 0 [AR]
def bU:Query:=.mk 6 0 gS [] [] [] [] 0 [bF,bF]
theorem a6J:dH bS=0:=aHQ bh (λt c=>by simp[bS]at c;subst c;exact⟨bg,rfl,rfl⟩) bh bh (by
 refine EC ⟨⟨?_,?_,?_,?_,EC ⟨⟨?_,?_,?_⟩,trivial⟩⟩,trivial⟩
 all_goals first|rfl|(simp;done)|decide)
theorem afZ{op:Int}(d:op=6\/op=7\/op=8)(h:(bH s ps q).2=0):(bH s ps (.mk op 0 gS [] [] [] [] 0 [q,q])).2=0:=by
 have f:=yL s ps q;have e:bH s ps q=((bH s ps q).1,0):=Prod.ext rfl h;have g:eM s ps [q,q]=([(bH s ps q).1,(bH s ps q).1],0):=vF (by simp;exact e);simp only[bH,g,if_true];have c:((2:Nat):Int)=arity op:=by rcases d with rfl|rfl|rfl<;>decide
 simp only[length_cons,length_nil];rw[if_pos c];unfold fH;dsimp only;rw[if_neg (by rw[<-c];simp[dM])];rw[if_neg aC,if_neg aC,if_neg aC,if_neg aC,if_neg aC,if_neg aC,if_neg aC,if_pos bg];simp only[getD_cons_zero];unfold mG;rw[if_pos f]
theorem bWZ:(fE bS [] bU).2=0:=by
 have d:(fE bS [] AR).2=0:=Mu a6J bh bh bh;have f:=(B9 d).2.2.2
 have g:(bH bS [] bF).2=0:=by
  have A:=yL bS [] AR;have e:bH bS [] AR=((bH bS [] AR).1,0):=Prod.ext rfl f;have c:eM bS [] [AR]=([(bH bS [] AR).1],0):=vF (by simp;exact e)
  have j:bH bS [] bF=fH bS [] bF (bH bS [] AR).1 []:=by
   show bH bS [] (.mk 2 0 We [] [] [] [] 0 [AR])=_;simp only[bH,c,if_true];rw[if_pos bh];rfl
  have n:(bH bS [] AR).1=[4]:=by
   have o:bH bS [] AR=fH bS [] AR [] []:=by
    show bH bS [] (.mk 1 0 gS [] [] [] [] 0 [])=_;simp only[bH,eM,if_true];rfl
   rw[o];unfold fH AR;dsimp only;rw[if_neg (by simp[dM,arity]),if_pos rfl,if_pos bh];rfl
  have u:fI [4] [] We=0:=by
   have y:iK [4] [] We=true:=by
    have:Wz dR dR=true:=oH.2 rfl;simp[We,iK,DD,this]
   unfold fI;rw[y,if_neg bh,if_neg bh];rfl
  rw[j,n];unfold fH bF;dsimp only;rw[if_neg (by simp[dM,arity]),if_neg bh,if_pos rfl,if_pos u];rfl
 have z:=afZ (.inl rfl) g;have c:lP bU=true:=by rfl
 unfold fE;rw[if_pos a6J,if_pos bh,if_pos c];exact z
theorem bCZ{ks:ck}(h:BW [bU] [] ts ks):ks=[2]/\ts.length=3/\∃t,ts[2]? =some t/\t.left=1/\t.right=1:=by
 obtain⟨E,n,_,g,⟨rfl,rfl⟩,rfl⟩:=h;unfold bU at g;rw[Ax]at g;obtain⟨o,l,F,r,d,u,y⟩:=g;have j:(([]:cn).map keyOf).Nodup:=bg
 have d:Db bF [] o l:=d;have z:=(vH bF j d).1;obtain⟨rfl,rfl⟩:=again bF j d (prefix_refl _) z u;unfold bF at d;rw[Ax]at d;obtain⟨G,A,B,H,f,⟨rfl,rfl⟩,C⟩:=d;have f:Db AR [] B A:=f;unfold AR at f;rw[Ax]at f;obtain⟨I,J,L,M,⟨rfl,rfl⟩,⟨rfl,rfl⟩,D⟩:=f;rcases D with⟨x,c,_⟩|⟨_,rfl,rfl⟩
 .simp at c
 rcases C with⟨x,c,e,_⟩|⟨_,rfl,rfl⟩
 .exfalso;have:=(Qv e).1;cases r with
  |zero=>simp at c;subst c;simp at this
  |succ i=>simp at c
 rcases y with⟨x,c,e,_⟩|⟨_,rfl,rfl⟩
 .exfalso;have:=(Qv e).1
  match n,c with
  |0,c=>simp at c;subst c;simp at this
  |1,c=>simp at c;subst c;simp at this
  |i+2,c=>simp at c
 exact⟨rfl,rfl,_,rfl,rfl,rfl⟩
theorem ZV{c:ce}(e:c.length<=32)(d:dH s=0):tJ s c=kD (c.map λq=>(fE s [] q).2):=by
 unfold tJ;rw[if_neg aC,if_neg (by simp[d])]
theorem agQ{h:PH}{s:Sl}{v:QV}{q:Query}(r:cZ h s 21 [QV.enc v,QV.enc v])(c:dQ h q v):xM h s [q,q]:=⟨⟨[v,v],r,rfl,λi x e=>by
 match i,e with
 |0,e=>simp at e;subst e;exact⟨v,rfl,c⟩
 |1,e=>simp at e;subst e;exact⟨v,rfl,c⟩
 |i+2,e=>simp at e⟩,bg⟩
theorem Steps.at{p:Sl}{vs:List l7}(r:cZ h p 22 (vs.map l7.enc))(s:Steps h vs ts)(c:ts[i]? =some t):∃b o v,p.a=some ⟨b,o,none⟩/\bT h b (o+i*22) (l7.enc v)/\rR h t v:=by
 obtain⟨v,d,f⟩:=s.2 i t c;obtain⟨b,o,e,k⟩:=r.get (i:=i) (e:=l7.enc v) (by simp[d]);exact⟨b,o,v,e,k,f⟩
theorem Steps.slen{p:Sl}{vs:List l7}(r:cZ h p 22 (vs.map l7.enc))(s:Steps h vs ts):p.len=ts.length:=by
 have:=r.len;simp at this;rw[this,s.1]
theorem asQ:bk 28 biX:=by
 refine ED func28 ?_;rintro S m h K ⟨rfl,T,U⟩;refine⟨dG [(24,Wv)] [] [] [] false,rfl,aD Q7 aF,OE m h (kA h K),bf,?_⟩;show OE m h (kA h K);dsimp only[OE,push_cast];intro H h1 z V I h2 o W J h3 j X L h4 f Y Z c d r5;have rs:dQ c AR ⟨1,0,jM,cD,cD,cD,cD,0,cD⟩:=De c 0;have rf:dQ c bF ⟨2,0,⟨1,0,dR,dR,cD⟩,cD,cD,cD,cD,0,I⟩:=EF (Ji rfl) (yD (v:=⟨1,0,jM,cD,cD,cD,cD,0,cD⟩) (W.mono ((j.trans f).trans d)) rs);have ru:dQ c bU ⟨6,0,jM,cD,cD,cD,cD,0,J⟩:=tV.rep ⟨rfl,rfl,FX c,nF c,vL c,nF c,yA c,rfl,agQ (v:=⟨2,0,⟨1,0,dR,dR,cD⟩,cD,cD,cD,cD,0,I⟩) (X.mono (f.trans d)) rf⟩;have rt:Ll c ⟨⟨⟨[116]⟩⟩,[⟨⟨⟨[105,100]⟩⟩,4⟩],1,[],[]⟩ ⟨⟨⟨[116]⟩⟩,H,1,cD,cD⟩:=⟨rfl,JE (l:=[⟨_,_⟩]) (V.mono (((o.trans j).trans f).trans d)) bg,rfl,bN.nil _ _ _ _,bN.nil _ _ _ _⟩
 have rS:gO c bS ⟨0,L⟩:=⟨rfl,⟨⟨[⟨⟨⟨[116]⟩⟩,H,1,cD,cD⟩],Y.mono d,rfl,λi x e=>by
  match i,e with
  |0,e=>simp[bS]at e;subst e;exact⟨_,rfl,rt⟩
  |i+1,e=>simp[bS]at e⟩,by simp[bS]⟩⟩
 have A:tJ bS [bU]=0:=by
  rw[ZV bh a6J];simp[kD,bWZ]
 refine⟨⟨0,L⟩,Z,bS,[bU],rfl,rS,yD (v:=⟨6,0,jM,cD,cD,cD,cD,0,J⟩) r5 ru,T,λq _ hq=>Qk hq,λhn=>(hn A).elim,λ_ p r ts ks h6 B u C=>?_⟩;obtain⟨rfl,D,t,E,tl,tr⟩:=bCZ u;obtain⟨vs,g,y⟩:=C.steps;have F:=Steps.slen g y;have n:=C.roots.slen;obtain⟨b1,o1,e1,q1⟩:=C.roots.at (i:=0) (x:=2) rfl;obtain⟨M,O,v,P,Q,R⟩:=Steps.at g y E;have G:=((((z.trans o).trans j).trans f).trans d).trans B;have n:r.len=1:=bj n
 rw[F,D,n];refine aB (λ_=>aB (λ_=>⟨b1,o1,e1,aC,aC,2,.imm q1,aB (λ_=>⟨M,O,P,aC,aC,v.left,.imm (bT.part Q 20 1),aB (λ_=>⟨M,O,P,aC,aC,v.right,.imm (bT.part Q 21 1),?_⟩) (λe=>?_)⟩) (λe=>?_)⟩) (λe=>?_)) (λe=>?_)
 .rw[R.right_,tr];exact .out (Sub.refl m) G U
 .rw[R.left_,tl]at e;cases e
 .cases e
 .cases e
 .cases e
theorem aPZ:bk 6 b1Z:=by
 refine iB func6 ?_;rintro c6 m h K ⟨s,cs,rfl,hr,R,ht,hK⟩;refine⟨bQX,rfl,aD aPQ (aD aOJ (aD atX (aD avZ (aD bWQ (aD bVJ (aD bVZ (aD asX (aD asQ aF)))))))),ZF s m h K,bf,?_⟩;dsimp only[ZF,push_cast];refine⟨s,cs,240,rfl,hr,R,aC,λcb m1 h1 c7 S o1 c1=>⟨cb,rfl,c1,λsc v m2 h2 I rS c8 o2 c2=>?_⟩⟩;obtain⟨J,a3⟩:=NS I;refine⟨cb,v,cD,sc,[],3,2,rfl,c2,rS,J,a3,nF _,bg,bg,aC,aC,aC,bh,λxs E m3 h3 L rp f a4 c9 o3 c3=>?_⟩;refine⟨cb,v,sc,rfl,c3,rS.mono L,I,λT sl m4 h4 M a5 d o4 c4 s1 h5 y r5=>?_⟩;have ho:=((o1.trans o2).trans o3).trans o4;have z:dU m4:=ht.new S ho;have U:Sub m m4:=λb o e=>by rw[ho.other b (λe2=>by rw[e2,S]at e;cases e)];exact e
 have rl:xM h5 s1 E:=⟨⟨xs,r5,rp.1,λi x e=>(rp.mono (M.trans y)).2 i x e⟩,aC⟩
 have V:=bN.slen rl
 have a6:tJ sc E=0:=by
  rw[ZV aC J]
  exact uF _ λe he=>by
   obtain⟨q,c,rfl⟩:=mem_map.1 he;exact(f q c).2
 have gq:∀q∈E,JS sc q:=λq c=>WK (f q c).2 (f q c).1 (Nat.le_trans (a4.arg q c).b bh);refine⟨v,s1,sc,E,rfl,rS.mono ((L.trans M).trans y),rl,z,λq _ c=>Qk c,a6,λp r ts ks h6 O F hp=>?_⟩;obtain⟨g,_,a7,A⟩:=Zv gq (bmX sc) F;have W:=Pl F λq c=>(J2.1 (gq q c).small).1
 have hk:∀(i:Nat) q,E[i]? =some q->∃k:Nat,ks[i]? =some k/\k<ts.length/\eH ts k=q:=λi q c=>by
  have B:=(List.getElem?_eq_some_iff.1 c).1;exact⟨ks[i],getElem?_eq_getElem _,A i q _ c (getElem?_eq_getElem _)⟩
 have W:ts.length<=1000:=by simp at W;omega
 have a8:i7 sc ts (ks.map fun(k:Nat)=>(k:Int))=0:=WL g J aC aC λk a9=>by
  obtain⟨i,B⟩:=getElem?_of_mem a9;have b':=(List.getElem?_eq_some_iff.1 B).1;exact(A i (E[i]'(by omega)) k (getElem?_eq_getElem _) B).1
 have G:l8 sc T=0:=aNQ I d;have X:=rS.mono (((L.trans M).trans y).trans O);have H:=a5.mono (y.trans O);have Y:rT h6 p r ts (ks.map fun(k:Nat)=>(k:Int)):=⟨hp.steps,hp.roots,aC⟩
 refine⟨v,sl,p,r,sc,T,ts,_,rfl,X,H,Y,z,a8,G,⟨g.ar,g.fit,λi B=>(g.good i B).kinds,4,aC,d.few,λi B=>(g.good i B).bnd⟩,λs2 h7 C Z=>?_⟩;have b0:r.len=ks.length:=by have:=hp.roots.slen;simpa using this
 have b3:s2.len=ts.length:=by have:=bN.slen Z;simpa[uA]using this
 have a':=Y.slen.1;refine aB (λe=>by rw[b0,a7,V]at e;simp at e) (λ_=>aB (λe=>by rw[b3,a']at e;simp at e) (λ_=>?_));refine⟨λx=>x.1<=E.length/\x.2.1=v/\x.2.2.1=sl/\x.2.2.2.1=p/\x.2.2.2.2.1=r/\x.2.2.2.2.2.1=s2/\x.2.2.2.2.2.2.1=s1/\x.2.2.2.2.2.2.2.1=m4/\PH.le h7 x.2.2.2.2.2.2.2.2,λx=>E.length-x.1,⟨(0,v,sl,p,r,s2,s1,m4,h7),⟨Nat.zero_le _,rfl,rfl,rfl,rfl,rfl,rfl,rfl,.refl _⟩,MT⟩,?_⟩;rintro⟨i,v',a0,p',r',b4,b5,mx,hx⟩ ⟨B,e1,e2,e3,e4,e5,e6,e7,le⟩;dsimp only at B e1 e2 e3 e4 e5 e6 e7 le⊢
 subst e1 e2 e3 e4 e5 e6 e7;refine aE (λb6=>?_) (λd'=>⟨rfl,z,hK _ _ U⟩);obtain⟨q,c⟩:=eN V b6;have P:=mem_of_getElem? c;obtain⟨b,o,w,ea,rd,rq⟩:=bN.at rl c;obtain⟨k,b7,b8,A⟩:=hk i q c;have lex:=(O.trans C).trans le;rw[iJ aC];refine⟨b,o,ea,aC,aC,w,.imm (rd.mono lex),v',sc,a0,T,w,q,rfl,X.mono (C.trans le),H.mono (C.trans le),rq.mono lex,(gq q P).small,z,(f q P).2,G,⟨4,aC,d.few,(gq q P).bnd⟩,λs3 h8 j a1=>?_⟩;obtain⟨b1,D,Q,b9⟩:=(hp.roots.mono ((C.trans le).trans j)).at (i:=i) (x:=(k:Int)) (by rw[getElem?_map,b7];rfl);have a2:(uA T ts)[k]? =some (tZ T (eH ts k)):=by rw[uA,getElem?_map,getElem?_range b8];rfl
 obtain⟨b2,c',u,c0,c5,hu⟩:=bN.at Z a2;have n:∀m,aJ m h8 b1 (D+(i:Int).toNat*1) [fD (k:Int)]:=λm=>.imm (bj b9);have b':i<r'.len:=by omega
 refine⟨b1,D,Q,aC,aC,_,n _,aE (λe=>by omega) (λ_=>⟨b1,D,Q,aC,aC,_,n _,aE (λe=>by omega) (λ_=>⟨b1,D,Q,aC,aC,_,n _,b2,c',c0,aC,aC,u,.imm ?_,s3,u,_,_,rfl,a1,bN.mono hu (le.trans j) (λ_ _ h=>bP.mono h (le.trans j)),λt ht=>aB (λe=>?_) (λ_=>⟨(i+1,v',a0,p',r',b4,b5,mx,h8),⟨by dsimp only;omega,rfl,rfl,rfl,rfl,rfl,rfl,rfl,le.trans j⟩,by dsimp only;omega,MT⟩)⟩)⟩)⟩
 .have:=c5.mono (le.trans j);rw[Int.toNat_natCast];exact this
 .have:t=true:=ht.2 (by rw[A]);rw[this]at e;cases e
end Go.Ps
