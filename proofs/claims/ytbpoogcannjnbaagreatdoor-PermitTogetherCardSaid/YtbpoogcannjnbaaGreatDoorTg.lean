/- Own work. -/
import Derived.Test.YtbpoogcannjnbaaGreatDoorTf
set_option linter.unusedVariables false
set_option linter.unusedSimpArgs false
namespace Go.Ps
open Go Go.Vc Go.Proofs
variable{K:CV->MH->PH->Prop}{m:MH}{h:PH}{s:jR}{ps:List Int}{cb:Nat}{sc:bN}{v:QV}{q:Query}{p:Pred}{l:List Int}{i:Nat}{N:Nat}{m':MH}{h':PH}{co:List Int}{gr:List Int}{on:List (Int×Int)}{od:List (Int×Bool)}{w:Pred}{ta:Int}{li:Int}{xs:List (List Value)}{sz:Nat}{k:Nat}{ks:List (List Int)}{rs:List Int}{r:Sl}{a:List Int}{b:Nat}
def Xq(s:Sl):CV:=.val (.agg ⟨[.slice s.a s.len s.cap]⟩)
def Y2:Vc.Spec:=λcvs m h K=>∃v s,cvs=[aS v,cI 3]/\dV h s v/\K (cI (cZ s)) m h
def cT(st:List (List (List VV))):Int:=(st.map λl=>(l.length:Int)).sum
def NK:Vc.Spec:=λcvs m h K=>∃s st,cvs=[Xq s]/\Leaves h s st/\st.length<=1000/\K (cI (cT st)) m h
def TT(s:jR)(t:Int)(r:List VV):Bool:=gY s t&&(match s.tables[t.toNat]? with|some tb=>Dj tb r|none=>false)
def dK(s:jR)(t:Int)(r:List VV):List VV:=match(if gY s t then s.tables[t.toNat]? else none)with|some tb=>wU tb r|none=>[]
def Y6:Vc.Spec:=λcvs m h K=>∃v s t sl r,cvs=[aS v,cI t,cS sl,cI 3]/\dV h s v/\bB h sl r/\K (cB (TT s t r)) m h
def Dh:Vc.Spec:=λcvs m h K=>∃v s t sl r,cvs=[aS v,cI t,cS sl]/\dV h s v/\bB h sl r/\∀s',bB h s' (dK s t r)->K (cS s') m h
def Hm:Vc.Spec:=λcvs m h K=>∃v s sl st,cvs=[aS v,cI 3,Xq sl]/\dV h s v/\Leaves h sl st/\st.length<=1000/\K (cI (sF s st)) m h
noncomputable def Ww:Ctx:=dL [(113,UY),(114,NA)] [(7,{A:=Nat×bS×Sl×MH×PH,st:=λ⟨i,t,s,m,h⟩=>cM 95 99 [(3,iv 3),(9,.at (.ptr 9 0)),(41,sv s),(42,iv s.len),(43,iv i)] [(9,.cells 74 (t.enc.map .val))] m h})] [(12,{A:=Nat×bS×VV×Sl×Bool×MH×PH,st:=λ⟨i,t,v,s,b,m,h⟩=>cM 95 99 [(3,iv 3),(9,.at (.ptr 9 0)),(10,iv i),(11,.at (.ptr 11 0)),(12,bv b),(41,sv s),(42,iv s.len),(43,iv i)] [(9,.cells 74 (t.enc.map .val)),(11,.cells 58 (v.enc.map .val))] m h}),
 (13,{A:=Nat×bS×VV×Sl×Bool×Bool×MH×PH,st:=λ⟨i,t,v,s,b,c,m,h⟩=>cM 95 99 [(3,iv 3),(9,.at (.ptr 9 0)),(10,iv i),(11,.at (.ptr 11 0)),(12,bv b),(13,bv c),(41,sv s),(42,iv s.len),(43,iv i)] [(9,.cells 74 (t.enc.map .val)),(11,.cells 58 (v.enc.map .val))] m h})] [] false
noncomputable def SR(s:Sl)(m:MH)(h:PH):Ctx:=dL [] [(3,{A:=Nat×Int,st:=λ⟨i,n⟩=>cM 19 20 [(3,iv n),(7,sv s),(8,iv s.len),(9,iv i)] [] m h})] [] [] false
noncomputable def XY(v:bN)(s:Sl)(m:MH)(h:PH):Ctx:=dL [(115,Y2),(74,NK),(116,Y6),(118,Dh),(117,Hs)] [(9,{A:=Nat,st:=λi=>cM 69 72 [(1,iv 3),(3,.at (.ptr 3 0)),(29,sv s),(30,iv s.len),(31,iv i)] [(3,.cells 29 (v.enc.map .val))] m h}),
 (12,{A:=Nat×Sl×Nat,st:=λ⟨i,u,j⟩=>cM 69 72 [(1,iv 3),(3,.at (.ptr 3 0)),(8,iv i),(9,sv u),(29,sv s),(30,iv s.len),(31,iv i),(36,sv u),(37,iv u.len),(38,iv j)] [(3,.cells 29 (v.enc.map .val))] m h})] [] [] false
abbrev CP(a:jR)(b:CV->MH->PH->Prop)(c:MH)(d:PH)(e:Prop):Prop:=branch (cZ a !=0) (b (dY (cZ a)) c d) e
attribute [push_cast] CP
def LV(v:bN)(m:MH)(h:PH)(K:CV->MH->PH->Prop):Prop:=
  kB (λv1 s=>aA (eV (bJ v) (bJ v1)) (dV h s v1) (CP s K m h (K (dY 0) m h)))
abbrev nI(a b:Int):Prop:=gI a=gI b
attribute [push_cast] nI
def Fm(s:Sl)(m:MH)(h:PH)(K:CV->MH->PH->Prop):Prop:=
  ∃(I:Nat×Int->Prop)(m1:Nat×Int->Nat),(∃(x:Nat×Int),aA (I x) (nI 0 x.2) (aA (aL s) (aX s) (bT (bI x.1) m m h h)))/\∀(x:Nat×Int),I x->bE (↑x.1:Int) (aH s) (dA s (↑x.1:Int) (λb o y=>aI m h b (o+aZ x.1 1) (aM y)/\∃(x1:Nat×Int),aA (I x1) (m1 x1<m1 x) (aA (nI (qO (x.2+aH y)) x1.2) (aL s) (aA (aX s) (bD (gI (bC x.1 1)) x1.1) (aA (m=m) (h=h) True))))) (K (dY x.2) m h)
noncomputable abbrev qC(a:Nat×bS×Sl×MH×PH):Sl:=a.2.2.1
noncomputable abbrev DN(a:Nat×bS×Sl×MH×PH):bS:=a.2.1
noncomputable abbrev oL(a:Nat×bS×Sl×MH×PH):Nat->Option Obj:=mU a.2.2
noncomputable abbrev oM(a:Nat×bS×Sl×MH×PH):Nat->Nat->Option Value:=mD a.2.2
abbrev Cx(a:Nat×bS×VV×Sl×Bool×MH×PH->Prop)(b:Int)(c:Nat×bS×Sl×MH×PH)(d e:(Nat×bS×VV×Sl×Bool×MH×PH)->Prop):Prop:=∃(x:Nat×bS×VV×Sl×Bool×MH×PH),aA (a x) (aW b) (aA (eP 9) (cF c.1 x.1) (aA (eP 11) (d x) (aA (bA (qC c) x.2.2.2.1) (cO (qC c) x.2.2.2.1) (e x))))
abbrev wE(a b:Bool):Prop:=MJ a=MJ b
abbrev ES(a:Nat)(b:bS)(c:Bool):Prop:=wE (decide ((↑a:Int)>=b.key)) c
noncomputable abbrev AO(a:Nat×bS×VV×Sl×Bool×MH×PH):Bool:=a.2.2.2.2.1
abbrev CH(a:Nat×bS×Sl×MH×PH)(b:Nat×bS×VV×Sl×Bool×MH×PH)(c:Prop)(d:VV):Prop:=aA (cF a.1 b.1) c (aA (gO 58 (G2 d.enc) (G2 b.2.2.1.enc)) (oL a=b.2.2.2.2.2.1) (bP (oM a) b.2.2.2.2.2.2))
abbrev CG(a:Nat×bS×Sl×MH×PH)(b:Nat×bS×VV×Sl×Bool×MH×PH):Prop:=gO 74 (gM (DN a)) (gM b.2.1)
abbrev BB(a:Bool):Prop:=wE false a
abbrev Cy(a:Nat×bS×VV×Sl×Bool×Bool×MH×PH->Prop)(b:Nat×bS×VV×Sl×Bool×Bool×MH×PH)(c:Int)(d:Nat×bS×VV×Sl×Bool×MH×PH)(e g:Prop):Prop:=aA (a b) (aW c) (aA (eP 9) (cF d.1 b.1) (aA (eP 11) (wE (AO d) b.2.2.2.2.1) (aA e (bA d.2.2.2.1 b.2.2.2.1) g)))
noncomputable abbrev xL(a:Nat×bS×VV×Sl×Bool×Bool×MH×PH):Bool:=a.2.2.2.2.2.1
noncomputable abbrev uS(a:Nat×bS×VV×Sl×Bool×Bool×MH×PH):Nat->Option Obj:=a.2.2.2.2.2.2.1
noncomputable abbrev uT(a:Nat×bS×VV×Sl×Bool×Bool×MH×PH):Nat->Nat->Option Value:=a.2.2.2.2.2.2.2
abbrev CJ(a:Nat×bS×VV×Sl×Bool×MH×PH)(b:Nat×bS×VV×Sl×Bool×Bool×MH×PH)(c:Prop):Prop:=aA (cO a.2.2.2.1 b.2.2.2.1) (cF a.1 b.1) (aA c (gO 58 (G2 a.2.2.1.enc) (G2 b.2.2.1.enc)) (bZ a.2.2.2.2.2.1 (uS b) a.2.2.2.2.2.2 (uT b)))
noncomputable abbrev DM(a:Nat×bS×VV×Sl×Bool×Bool×MH×PH):bS:=a.2.1
abbrev CI(a:Nat×bS×VV×Sl×Bool×MH×PH)(b:Nat×bS×VV×Sl×Bool×Bool×MH×PH):Prop:=gO 74 (gM a.2.1) (gM (DM b))
abbrev IX(a:Bool)(b:Prop)(c:(Nat×bS×Sl×MH×PH)->Prop):Prop:=branch a b (∃(x:Nat×bS×Sl×MH×PH),c x)
abbrev Ao(a:Nat×bS×Sl×MH×PH->Prop)(b:Nat×bS×Sl×MH×PH)(c:Nat×bS×Sl×MH×PH->Nat)(d:Nat)(e:Int)(g:Nat×bS×VV×Sl×Bool×Bool×MH×PH)(i j:Prop):Prop:=aA (a b) (c b<d) (aA (aW e) (eP 9) (aA (bA g.2.2.2.1 (qC b)) (cO g.2.2.2.1 (qC b)) (aA (bD (gI (bC g.1 1)) b.1) i j)))
abbrev AE(a:Nat×bS×VV×Sl×Bool×Bool×MH×PH)(b:Nat×bS×Sl×MH×PH):Prop:=gO 74 (gM (DM a)) (gM (DN b))
attribute [push_cast] qC DN oL oM Cx wE ES AO CH CG BB Cy xL uS uT CJ DM CI IX Ao AE
def LU(v:bN)(t:Int)(s:Sl)(m:MH)(h:PH)(K:CV->MH->PH->Prop):Prop:=
  xF v t h (λs1 t1=>branch (!(gY s1 t1)) (K aT m h) (bK (λb o=>aA (bL v.tables.a b o) (0<=t) (t<aH v.tables/\∃(y:bS),aI m h b (o+eM t 5) (vN y)/\branch (aH s !=aH y.columns) (K aT m h) (∃(I:Nat×bS×Sl×MH×PH->Prop)(m1:Nat×bS×Sl×MH×PH->Nat),(∃(x:Nat×bS×Sl×MH×PH),aA (I x) (aW 3) (aA (eP 9) (bA s (qC x)) (aA (cO s (qC x)) (bI x.1) (aA (gO 74 (gM y) (gM (DN x))) (m=oL x) (bP h (oM x))))))/\∀(x:Nat×bS×Sl×MH×PH),I x->bE (↑x.1:Int) (aH (qC x)) (bK (λb1 o1=>aA (bL (qC x).a b1 o1) (0<=(↑x.1:Int)) ((↑x.1:Int)<aH (qC x)/\∃(y1:VV),aI (oL x) (oM x) b1 (o1+aZ x.1 3) y1.enc/\vF y1 (λv1=>branch (!(kK v1)) (K aT (oL x) (oM x)) (∃
 (I1:Nat×bS×VV×Sl×Bool×MH×PH->Prop),bQ y1.kind 2 (Cx I1 3 x (λx1=>ES x.1 (DN x) (AO x1)) (λx1=>CH x x1 (CG x x1) y1)) (Cx I1 3 x (λx1=>BB (AO x1)) (λx1=>CH x x1 (CG x x1) y1))/\∀(x1:Nat×bS×VV×Sl×Bool×MH×PH),I1 x1->∃(I2:Nat×bS×VV×Sl×Bool×Bool×MH×PH->Prop),bQ x1.2.2.1.kind 1 (∃(x2:Nat×bS×VV×Sl×Bool×Bool×MH×PH),Cy I2 x2 3 x1 (ES x1.1 x1.2.1 (xL x2)) (CJ x1 x2 (CI x1 x2))) (∃(x2:Nat×bS×VV×Sl×Bool×Bool×MH×PH),Cy I2 x2 3 x1 (BB (xL x2)) (CJ x1 x2 (CI x1 x2)))/\∀(x2:Nat×bS×VV×Sl×Bool×Bool×MH×PH),I2 x2->bK (λb2 o2=>aA (bL (DM x2).columns.a b2 o2) (0<=(↑x2.1:Int)) ((↑x2.1:Int)<aH (DM x2).columns/\∃(y2:Int),
 aI (uS x2) (uT x2) b2 (o2+aZ x2.1 2+1) (bR y2)/\IX (x2.2.2.1.kind !=y2) (IX (!x2.2.2.2.2.1) (branch (!(xL x2)) (K aT (uS x2) (uT x2)) (∃(x3:Nat×bS×Sl×MH×PH),Ao I x3 m1 (m1 x) 3 x2 (AE x2 x3) (bZ (uS x2) (oL x3) (uT x2) (oM x3)))) (λx3=>Ao I x3 m1 (m1 x) 3 x2 (AE x2 x3) (bZ (uS x2) (oL x3) (uT x2) (oM x3)))) (λx3=>Ao I x3 m1 (m1 x) 3 x2 (AE x2 x3) (bZ (uS x2) (oL x3) (uT x2) (oM x3)))))))))) (K gF (oL x) (oM x)))))))
abbrev Ak(a:bN)(b:Int)(c:Nat->Nat->Int->Prop):Prop:=bK (λx x1=>aA (bL a.tables.a x x1) (0<=b) (b<aH a.tables/\∃(x2:Int),c x x1 x2))
attribute [push_cast] Ak
def LS(v:bN)(t:Int)(s:Sl)(m:MH)(h:PH)(K:CV->MH->PH->Prop):Prop:=
  bE t 0 (K uO m h) (iH t (yL v) K uO m h (Ak v t (λb o y=>aA (aI m h b (o+eM t 5+2) (bR y)) (0<=ite (j9 s y>0) (j9 s y) 0) (rS (ite (j9 s y>0) (j9 s y) 0) s/\K (CV.val (Value.slice s.a (ite (j9 s y>0) (j9 s y) 0).toNat s.cap)) m h))))
noncomputable abbrev eU(a:Sl):CV:=fB (aM a)
abbrev AL(a:List (List (List VV))):Prop:=a.length<=1000
noncomputable abbrev fX(a:Nat×Sl×Nat):Sl:=a.2.1
noncomputable abbrev lF(a:Nat×Sl×Nat):Nat:=a.2.2
noncomputable abbrev vD(a:Nat×Sl×Nat):Int:=qD (lF a) 1
abbrev tK(a:bN)(b:Int)(c:Sl)(d:PH)(e:Sl->Prop):Prop:=kB (λx x1=>∃(x2:Int),pA (λx3 x4=>aA (bJ a::aK (dY b) (dG c)=bJ x::aK (dY x2) (dG x3)) (dV d x1 x) (bB d x3 x4/\∀(x5:Sl),bB d x5 (dK x1 x2 x4)->e x5)))
abbrev EG(a:Nat×Sl×Nat->Prop)(b:Nat×Sl×Nat->Nat)(c:Nat×Sl×Nat)(d:Int)(e:Sl)(g:(Nat×Sl×Nat)->Prop):Prop:=∃(x:Nat×Sl×Nat),aA (a x) (b x<b c) (aA (aW d) dT (aA (cF c.1 x.1) (bA (fX c) (fX x)) (aA (aL e) (aX e) (g x))))
attribute [push_cast] eU AL fX lF vD tK EG
def Pb(v:bN)(s:Sl)(m:MH)(h:PH)(K:CV->MH->PH->Prop):Prop:=
  kB (λv1 s1=>aA (aK (bJ v) (dY 3)=aK (bJ v1) (dY 3)) (dV h s1 v1) (CP s1 K m h (Aj (λs2 s3=>aA (eV (eU s) (eU s2)) (Leaves h s2 s3) (AL s3/\branch (decide (cT s3>512)) (K (dY 2) m h) (branch (aH s !=yL v) (K (dY 80) m h) (rB (λI x=>aA (I x) (aW 3) (aA dT (aL s) (aA (aX s) (bI x) (aA (bO v) (m=m) (bP h h))))) (λI m1 x=>I x->bE (↑x:Int) (aH s) (dA s (↑x:Int) (λb o y=>aI m h b (o+aZ x 1) (aM y)/\∃(I1:Nat×Sl×Nat->Prop)(m2:Nat×Sl×Nat->Nat),(∃(x1:Nat×Sl×Nat),aA (I1 x1) (aW 3) (aA dT (cF x x1.1) (aA (bA y (fX x1)) (aL s) (aA (aX s) (cF x x1.1) (aA (bA y (fX x1)) (cO y (fX x1)) (aA (bI (lF x1)) (bO v) (bZ m m h h)))))))/\∀(x1:Nat×
 Sl×Nat),I1 x1->bE (↑(lF x1):Int) (aH (fX x1)) (dA (fX x1) (↑(lF x1):Int) (λb1 o1 y1=>aI m h b1 (o1+aZ (lF x1) 1) (aM y1)/\kB (λv2 s4=>∃(t:Int),pA (λs5 r=>aA (bJ v::dY (↑x1.1:Int)::aK (dG y1) (dY 3)=bJ v2::dY t::aK (dG s5) (dY 3)) (dV h s4 v2) (bB h s5 r/\branch (!(TT s4 t r)) (K (dY 80) m h) (sT (↑(lF x1):Int) 0 (dA (fX x1) (vD x1) (λb2 o2 y2=>aI m h b2 (o2+eM (vD x1) 1) (aM y2)/\tK v (↑x1.1:Int) y2 h (λs6=>bF h b2 (o2+eM (vD x1) 1) (aM y2)/\tK v (↑x1.1:Int) y1 h (λs7=>bF h b2 (o2+eM (vD x1) 1) (aM y2)/\xE s6 s7 h (λa b3=>iH (cL a b3) 0 K (dY 80) m h (EG I1 m2 x1 3 s (λx2=>aA (cF x1.1 x2.1) (bA (fX x1) (fX x2)) (aA
 (cO (fX x1) (fX x2)) (bD (gI (bC (lF x1) 1)) (lF x2)) (bT (bO v) m m h h))))))))) (EG I1 m2 x1 3 s (λx2=>aA (cF x1.1 x2.1) (bA (fX x1) (fX x2)) (aA (cO (fX x1) (fX x2)) (bD (gI (bC (lF x1) 1)) (lF x2)) (bT (bO v) m m h h)))))))))) (∃(x2:Nat),aA (I x2) (m1 x2<m1 x) (aA (aW 3) dT (aA (aL s) (aX s) (aA (bD (gI (bC x1.1 1)) x2) (bO v) (bZ m m h h))))))) (K (dY 0) m h)))))))))
theorem bB.cut{h:PH}{a:Option Addr}{len cap:Nat}{r:List VV}(x:bB h ⟨a,len,cap⟩ r){n:Nat}(hn:n<=r.length):bB h ⟨a,n,cap⟩ (r.take n):=by
 obtain⟨⟨vs,h1,h2,h3⟩,h4⟩:=x;refine⟨⟨vs.take n,by rw[List.map_take];exact bH.cut h1 n (by rw[List.length_map];omega),by rw[List.length_take,List.length_take,h2],λi x hx=>?_⟩,by rw[List.length_take];omega⟩;rw[List.getElem?_take]at hx;split at hx
 .rename_i hi;obtain⟨v,e1,e2⟩:=h3 i x hx;exact⟨v,by rw[List.getElem?_take,if_pos hi];exact e1,e2⟩
 .cases hx
theorem Yx{v:bN}(hs:dV h s v)(hK:K (cI (cZ s)) m h):LV v m h K:=
 ⟨v,s,rfl,hs,aB (λ_=>hK) (λe=>by rw[show cZ s=0 by simpa using e]at hK;exact hK)⟩
theorem RN:Sound Tryz.prog 115 Y2:=by
 refine jK Tryz.func115 ?_;rintro cvs m h K ⟨v,s,rfl,hs,hK⟩;refine⟨dL [(66,zO)] [] [] [] false,rfl,aD C0 aF,LV v m h K,by kernel_rfl,?_⟩;exact Yx hs hK
theorem Leaves.lens{s:Sl}{st:List (List (List VV))}(hl:Leaves h s st){l:List (List VV)}(hm:l∈st):l.length<=502633886983:=by
 obtain⟨i,hi,rfl⟩:=List.mem_iff_getElem.1 hm;obtain⟨_,_,_,_,_,hr⟩:=aR.at hl (List.getElem?_eq_getElem hi);exact hr.len
theorem uL:∀{l:List (List (List VV))},(∀x∈l,x.length<=502633886983)->0<=cT l/\cT l<=(l.length:Int)*502633886983
 |[],_=>by simp[cT]
 |a::l,h=>by
  have h1:=h a (List.mem_cons_self ..);have h2:=uL (l:=l) λx hx=>h x (List.mem_cons_of_mem _ hx);simp only[cT,List.map_cons,List.sum_cons,List.length_cons]at h2⊢
  omega
theorem JO{st:List (List (List VV))}{l:List (List VV)}(h:st[i]? =some l):cT (st.take (i+1))=cT (st.take i)+(l.length:Int):=by
 rw[List.take_add_one,h];simp[cT]
theorem K4:Sound Tryz.prog 74 NK:=by
 refine jK Tryz.func74 ?_;rintro cvs m h K ⟨s,st,rfl,hl,hn,hK⟩;refine⟨SR s m h,rfl,aF,Fm s m h K,by kernel_rfl,?_⟩;dsimp only[Fm,push_cast];have hsl:=aR.slen hl;refine⟨λz=>z.1<=st.length/\z.2=cT (st.take z.1),λz=>st.length-z.1,⟨(0,0),⟨by simp,by simp[cT]⟩,MT⟩,?_⟩;rintro⟨i,n⟩ ⟨hi,hn2⟩;dsimp only at hi hn2⊢
 subst hn2;refine aE (λhlt=>?_) (λhge=>?_)
 .obtain⟨l,hx⟩:=fS hsl hlt;obtain⟨b,o,u,ea,rd,hr⟩:=aR.at hl hx;have hul:=aR.slen hr;have hb:=uL (l:=st.take (i+1)) λx hx=>hl.lens (List.mem_of_mem_take hx);have hb2:=(uL (l:=st.take i) λx hx=>hl.lens (List.mem_of_mem_take hx)).1;have hs:=JO hx;rw[List.length_take]at hb;refine⟨b,o,ea,aC,aC,u,.imm rd,(i+1,cT (st.take (i+1))),⟨by show i+1<=st.length;omega,rfl⟩,by show st.length-(i+1)<st.length-i;omega,?_⟩;rw[gD aC aC,hul, <-hs];exact MT
 .rw[List.take_of_length_le aC];exact hK
theorem BS{t:zN}{r:List VV}:Dj t r=true↔r.length=t.columns.length/\∀i,i<r.length->Fi t.key (t.columns.getD i ⟨⟨#[]⟩,0⟩).kind i (r.getD i zeroV)=true:=by
 simp only[Dj,Bool.and_eq_true,decide_eq_true_eq,List.all_eq_true,List.mem_range]
theorem O1{t:Int}{r:List VV}{tb:zN}(ht:s.tables[t.toNat]? =some tb)(h:gY s t=true):TT s t r=Dj tb r:=by
 simp only[TT,h,ht,Bool.true_and]
theorem RM:Sound Tryz.prog 116 Y6:=by
 refine jK Tryz.func116 ?_;rintro cvs m h K ⟨v,s,t,sl,r,rfl,hs,hv,hK⟩;refine⟨Ww,rfl,aD wN (aD DT aF),LU v t sl m h K,by kernel_rfl,?_⟩;dsimp only[LU,push_cast];have htl:=hs.tables.slen;have hrl:=aR.slen hv;refine⟨v,s,t,rfl,hs,aB (λe=>?_) (λe=>?_)⟩
 .have e:gY s t=false:=by simpa using e
  simp only[TT,e,Bool.false_and]at hK;exact hK
 have e:gY s t=true:=by simpa using e
 have he:=e;simp only[gY,Bool.and_eq_true,decide_eq_true_eq]at he;obtain⟨tb,htb⟩:∃tb,s.tables[t.toNat]? =some tb:=⟨_,List.getElem?_eq_getElem aC⟩
 obtain⟨b,o,y,ea,rd,hy⟩:=aR.at hs.tables htb;rw[O1 htb e]at hK;have hcl:=aR.slen hy.columns;have hk:=hy.key;refine⟨b,o,ea,he.1,aC,y,.imm rd,aB (λe1=>?_) (λe1=>?_)⟩
 .have:Dj tb r=false:=by
   cases e2:Dj tb r with
   |false=>rfl
   |true=>
    have:=(BS.1 e2).1;simp at e1;omega
  rw[this]at hK;exact hK
 have hwl:r.length=tb.columns.length:=by simp at e1;omega
 have bad:∀i,i<r.length->Fi tb.key (tb.columns.getD i ⟨⟨#[]⟩,0⟩).kind i (r.getD i zeroV)=false->K (cB false) m h:=λi hi hf=>by
  have:Dj tb r=false:=by
   cases e2:Dj tb r with
   |false=>rfl
   |true=>rw[(BS.1 e2).2 i hi]at hf;cases hf
  rw[this]at hK;exact hK
 refine⟨λz=>z.2.1=y/\z.2.2.1=sl/\z.2.2.2.1=m/\z.2.2.2.2=h/\z.1<=r.length/\∀j,j<z.1->Fi tb.key (tb.columns.getD j ⟨⟨#[]⟩,0⟩).kind j (r.getD j zeroV)=true,λz=>r.length-z.1,⟨(0,y,sl,m,h),⟨rfl,rfl,rfl,rfl,by simp,λj hj=>by simp at hj⟩,MT⟩,?_⟩;rintro⟨i,y',sl',m',h'⟩ ⟨e1,e2,e3,e4,hi,hall⟩;dsimp only at e1 e2 e3 e4 hi hall⊢
 subst e1 e2 e3 e4;refine aE (λhlt=>?_) (λhge=>?_)
 .have hil:i<r.length:=by omega
  have hx:r[i]? =some (r.getD i zeroV):=by rw[List.getD_eq_getElem?_getD,List.getElem?_eq_getElem hil];rfl
  obtain⟨b2,o2,x,ea2,rd2,hxx⟩:=aR.at hv hx;subst hxx;have hc:tb.columns[i]? =some (tb.columns.getD i ⟨⟨#[]⟩,0⟩):=by rw[List.getD_eq_getElem?_getD,List.getElem?_eq_getElem aC];rfl
  obtain⟨b3,o3,c,ea3,rd3,hcc⟩:=aR.at hy.columns hc;have badi:=bad i hil
  have alli:Fi tb.key (tb.columns.getD i ⟨⟨#[]⟩,0⟩).kind i (r.getD i zeroV)=true->∀j,j<i+1->Fi tb.key (tb.columns.getD j ⟨⟨#[]⟩,0⟩).kind j (r.getD j zeroV)=true:=λhf j hj=>by
   by_cases e5:j=i
   .rw[e5];exact hf
   .exact hall j aC
  generalize r.getD i zeroV=x at badi alli rd2 hx;rw[hcc]at badi alli;have go:Fi tb.key c.kind i x=true->∃z:Nat×bS×Sl×MH×PH,(z.2.1=y'/\z.2.2.1=sl'/\z.2.2.2.1=m'/\z.2.2.2.2=h'/\z.1<=r.length/\∀j,j<z.1->Fi tb.key (tb.columns.getD j ⟨⟨#[]⟩,0⟩).kind j (r.getD j zeroV)=true)/\r.length-z.1<r.length-i/\z=(i+1,y',sl',m',h'):=λhf=>⟨_,⟨rfl,rfl,rfl,rfl,by show i+1<=r.length;omega,alli hf⟩,by show r.length-(i+1)<r.length-i;omega,rfl⟩
  refine⟨b2,o2,ea2,aC,aC,x,.imm rd2,x,rfl,aB (λev=>badi ?_) (λev=>?_)⟩
  .have ev:kK x=false:=by simpa using ev
   simp[Fi,ev]
  have ev:kK x=true:=by simpa using ev
  refine⟨λz=>z=(i,y',x,sl',(x.kind==2&&decide ((i:Int)>=y'.key)),m',h'),aB (λe2=>⟨_,rfl,by rw[e2];exact MT⟩) (λe2=>⟨_,rfl,by rw[e2];exact MT⟩),?_⟩;rintro _ rfl;dsimp only;refine⟨λz=>z=(i,y',x,sl',(x.kind==2&&decide ((i:Int)>=y'.key)),(x.kind==1&&decide ((i:Int)>=y'.key)),m',h'),aB (λe2=>⟨_,rfl,by rw[e2];exact MT⟩) (λe2=>⟨_,rfl,by rw[e2];exact MT⟩),?_⟩;rintro _ rfl;dsimp only
  have hfv:Fi tb.key c.kind i x=(x.kind==c.kind||((x.kind==2&&decide ((i:Int)>=y'.key))||(x.kind==1&&decide ((i:Int)>=y'.key)))):=by
   rw[hk];simp only[Fi,ev,Bool.true_and,ge_iff_le,Bool.and_or_distrib_right]
  generalize hb1:(x.kind==2&&decide ((i:Int)>=y'.key))=B1 at hfv⊢
  generalize hb2:(x.kind==1&&decide ((i:Int)>=y'.key))=B2 at hfv⊢
  refine⟨b3,o3,ea3,aC,aC,c.kind,.imm (bF.part rd3 1 1),aB (λe3=>aB (λe4=>aB (λe5=>badi ?_) (λe5=>?_)) (λe4=>?_)) (λe3=>?_)⟩
  .have e3:(x.kind==c.kind)=false:=by simpa using e3
   have e4:B1=false:=by simpa using e4
   have e5:B2=false:=by simpa using e5
   rw[hfv,e3,e4,e5];rfl
  all_goals
   obtain⟨_,g1,g2,rfl⟩:=go (by rw[hfv];simp_all);refine⟨_,g1,g2,?_⟩;dsimp only;rw[j5 (by have:=aR.len hv;omega)];exact MT
 .have:Dj tb r=true:=BS.2 ⟨hwl,λj hj=>hall j aC⟩;rw[this]at hK;exact hK
theorem wM:Sound Tryz.prog 118 Dh:=by
 refine jK Tryz.func118 ?_;rintro cvs m h K ⟨v,s,t,sl,r,rfl,hs,hv,hK⟩;refine⟨dL [] [] [] [] false,rfl,aF,LS v t sl m h K,by kernel_rfl,?_⟩;dsimp only[LS,push_cast];have htl:=hs.tables.slen;have hrl:=aR.slen hv;have none_:gY s t=false->K uO m h:=λe=>hK ⟨none,0,0⟩ (by simp only[dK,e];exact aR.nil _ _ _ _);refine aE (λh1=>none_ (by simp[gY];omega)) (λh1=>aE (λh2=>none_ (by simp[gY];omega)) (λh2=>?_));have e:gY s t=true:=by simp[gY];omega
 obtain⟨tb,htb⟩:∃tb,s.tables[t.toNat]? =some tb:=⟨_,List.getElem?_eq_getElem aC⟩
 obtain⟨b,o,y,ea,rd,hy⟩:=aR.at hs.tables htb;have hk:=hy.key;obtain⟨a,len,cap⟩:=sl;have hcap:len<=cap:=by obtain⟨vs,h5,_⟩:=hv.ex;exact h5.cap
 have hrl:len=r.length:=hrl
 have hmm:(if(if(len:Int)<y.key then(len:Int)else y.key)>0 then(if(len:Int)<y.key then(len:Int)else y.key)else 0)=max 0 (min tb.key r.length):=by
  rw[<-hk];split<;>split<;>omega
 refine⟨b,o,ea,aC,aC,y.key,.imm (bF.part rd 2 1),?_⟩;dsimp only;rw[hmm];refine⟨aC,aC,hK ⟨a,(max 0 (min tb.key r.length)).toNat,cap⟩ ?_⟩;have e2:dK s t r=r.take (max 0 (min tb.key r.length)).toNat:=by simp only[dK,e,if_true,htb];rfl
 rw[e2];exact hv.cut aC
theorem oF{t:Nat}{tb:zN}(h:s.tables[t]? =some tb)(r:List VV):dK s t r=wU tb r:=by
 have:t<s.tables.length:=(List.getElem?_eq_some_iff.1 h).1;have e:gY s (t:Int)=true:=by simp[gY];omega
 simp only[dK,e,if_true,Int.toNat_natCast,h]
theorem SP{t:Nat}{tb:zN}(h:s.tables[t]? =some tb)(r:List VV):TT s t r=Dj tb r:=by
 have:t<s.tables.length:=(List.getElem?_eq_some_iff.1 h).1;have e:gY s (t:Int)=true:=by simp[gY];omega
 exact O1 (by simpa using h) e
theorem Uc:Sound Tryz.prog 72 Hm:=by
 refine jK Tryz.func72 ?_;rintro cvs m h K ⟨v,s,sl,st,rfl,hs,hl,hn,hK⟩;refine⟨XY v sl m h,rfl,aD RN (aD K4 (aD RM (aD wM (aD nL aF)))),Pb v sl m h K,by kernel_rfl,?_⟩;dsimp only[Pb,push_cast];have htl:=hs.tables.slen;have hsl:=aR.slen hl;unfold sF at hK;refine⟨v,s,rfl,hs,aB (λe=>?_) (λe=>⟨sl,st,rfl,hl,hn,aE (λe2=>?_) (λe2=>aB (λe3=>?_) (λe3=>?_))⟩)⟩
 .rw[if_pos (by simpa using e)]at hK;exact hK
 all_goals rw[if_neg (by simpa using e)]at hK
 .rw[if_pos (by unfold cT at e2;omega)]at hK;exact hK
 all_goals rw[if_neg (by unfold cT at e2;omega)]at hK
 .rw[if_pos (by simp at e3;omega)]at hK;exact hK
 have hlen:st.length=s.tables.length:=by simp at e3;omega
 rw[if_neg (by simp[hlen])]at hK;have bad:¬Qa s st->K (cI 80) m h:=λhb=>by rw[if_neg hb]at hK;exact hK
 refine⟨λi=>i<=st.length/\∀(j:Nat) t l,j<i->s.tables[j]? =some t->st[j]? =some l->Sn t l,λi=>st.length-i,⟨0,⟨by simp,λj t l hj=>by omega⟩,MT⟩,?_⟩;rintro i ⟨hi,hall⟩;refine aE (λhlt=>?_) (λhge=>?_)
 .obtain⟨l,hx⟩:=fS hsl hlt;obtain⟨b,o,u,ea,rd,hr⟩:=aR.at hl hx;have hul:=aR.slen hr;have hll:=aR.len hr;obtain⟨tb,htb⟩:∃tb,s.tables[i]? =some tb:=⟨_,List.getElem?_eq_getElem aC⟩
  have badi:¬Sn tb l->K (cI 80) m h:=λhb=>bad λhok=>hb (hok i tb l htb hx);refine⟨b,o,ea,aC,aC,u,.imm rd,λz=>z.1=i/\z.2.1=u/\z.2.2<=l.length/\(∀k r,k<z.2.2->l[k]? =some r->Dj tb r=true)/\∀k r r',k+1<z.2.2->l[k]? =some r->l[k+1]? =some r'->cL (wU tb r) (wU tb r')<0,λz=>l.length-z.2.2,⟨(i,u,0),⟨rfl,rfl,by simp,λk r hk=>by simp at hk,λk r r' hk=>by simp at hk⟩,MT⟩,?_⟩;rintro⟨i',u',j⟩ ⟨e1,e2,hj,hfit,hkey⟩;dsimp only at e1 e2 hj hfit hkey⊢
  subst e1 e2;refine aE (λhlt2=>?_) (λhge2=>?_)
  .obtain⟨r,hxr⟩:=fS hul hlt2;obtain⟨b2,o2,w,ea2,rd2,hv⟩:=aR.at hr hxr;refine⟨b2,o2,ea2,aC,aC,w,.imm rd2,v,s,i',w,r,rfl,hs,hv,aB (λef=>badi λhok=>?_) (λef=>?_)⟩
   .rw[SP htb,hok.1 r (List.mem_of_getElem? hxr)]at ef;cases ef
   have hf:Dj tb r=true:=by rw[SP htb]at ef;simpa using ef
   have hfit':∀k r,k<j+1->l[k]? =some r->Dj tb r=true:=λk r' hk hr'=>by
    by_cases e5:k=j
    .subst e5;rw[hxr]at hr';cases hr';exact hf
    .exact hfit k r' aC hr'
   refine aE (λhj0=>?_) (λhj0=>?_)
   .have hw:IntKind.i64.wrap ((j:Int)-1)=((j-1:Nat):Int):=by rw[gD aC aC];omega
    obtain⟨r0,hx0⟩:∃r0,l[j-1]? =some r0:=⟨_,List.getElem?_eq_getElem aC⟩
    obtain⟨b3,o3,w3,ea3,rd3,hv3⟩:=aR.at hr hx0;rw[hw];refine⟨b3,o3,ea3,aC,aC,w3,.imm rd3,v,s,i',w3,r0,rfl,hs,hv3,λs1 hs1=>⟨rd3,v,s,i',w,r,rfl,hs,hv,λs2 hs2=>⟨rd3,s1,s2,_,_,rfl,hs1,hs2,aE (λhc=>badi λhok=>?_) (λhc=>?_)⟩⟩⟩
    .rw[oF htb,oF htb]at hc;have:=hok.2 (j-1) r0 r hx0 (by rw[show j-1+1=j by omega];exact hxr);omega
    .rw[oF htb,oF htb]at hc;refine⟨(i',u',j+1),⟨rfl,rfl,by show j+1<=l.length;omega,hfit',λk r1 r2 hk h1 h2=>?_⟩,by show l.length-(j+1)<l.length-j;omega,?_⟩
     .by_cases e5:k+1=j
      .have:k=j-1:=by omega
       subst this;rw[hx0]at h1;rw[e5,hxr]at h2;cases h1;cases h2;omega
      .exact hkey k r1 r2 (by have:k+1<j+1:=hk;omega) h1 h2
     .dsimp only;rw[j5 aC];exact MT
   .refine⟨(i',u',j+1),⟨rfl,rfl,by show j+1<=l.length;omega,hfit',λk r1 r2 hk h1 h2=>by have:k+1<j+1:=hk;omega⟩,by show l.length-(j+1)<l.length-j;omega,?_⟩;dsimp only;rw[j5 aC];exact MT
  .refine⟨i'+1,⟨aC,λk t l' hk ht hl'=>?_⟩,aC,?_⟩
   .by_cases e5:k=i'
    .subst e5;rw[htb]at ht;cases ht;rw[hx]at hl';cases hl';refine⟨λr hr=>?_,λk r r' h1 h2=>hkey k r r' ?_ h1 h2⟩
     .obtain⟨n,hn,rfl⟩:=List.mem_iff_getElem.1 hr;exact hfit n _ aC (List.getElem?_eq_getElem hn)
     .have:=(List.getElem?_eq_some_iff.1 h2).1;omega
    .exact hall k t l' aC ht hl'
   .rw[j5 aC];exact MT
 .rw[if_pos]at hK
  .exact hK
  .exactλj t l h1 h2=>hall j t l (by have:=(List.getElem?_eq_some_iff.1 h2).1;omega) h1 h2
def zH(mo key:Int)(k:Int)(i:Nat)(v:VV):Bool:=kK v&&(v.kind==k||(((v.kind==2&&mo !=1)||(v.kind==1&&mo==3))&&decide (key<=(i:Int))))
def yB(mo:Int)(t:zN)(r:List VV):Bool:=decide (r.length=t.columns.length)&&(List.range r.length).all λi=>zH mo t.key (t.columns.getD i ⟨⟨#[]⟩,0⟩).kind i (r.getD i zeroV)
def Qb(mo:Int)(t:zN)(l:List (List VV)):Prop:=(∀r∈l,yB mo t r=true)/\∀(i:Nat) r r',l[i]? =some r->l[i+1]? =some r'->cL (wU t r) (wU t r')<0
def Sm(mo:Int)(s:jR)(st:List (List (List VV))):Prop:=∀(i:Nat) t l,s.tables[i]? =some t->st[i]? =some l->Qb mo t l
open Classical in
noncomputable def p8(mo:Int)(s:jR)(st:List (List (List VV))):Int:=
 if cZ s≠0 then cZ s else if 512<(st.map λl=>(l.length:Int)).sum then 2 else if st.length≠s.tables.length then 80 else if Sm mo s st then 0 else 80
def mW(mo:Int)(s:jR)(t:Int)(r:List VV):Bool:=gY s t&&(match s.tables[t.toNat]? with|some tb=>yB mo tb r|none=>false)
def Y3:Vc.Spec:=λcvs m h K=>∃v s mo,cvs=[aS v,cI mo]/\dV h s v/\1<=mo/\mo<=3/\K (cI (cZ s)) m h
def Xd:Vc.Spec:=λcvs m h K=>∃v s t sl r mo,cvs=[aS v,cI t,cS sl,cI mo]/\dV h s v/\bB h sl r/\1<=mo/\mo<=3/\K (cB (mW mo s t r)) m h
def Hn:Vc.Spec:=λcvs m h K=>∃v s sl st mo,cvs=[aS v,cI mo,Xq sl]/\dV h s v/\Leaves h sl st/\st.length<=1000/\1<=mo/\mo<=3/\K (cI (p8 mo s st)) m h
noncomputable def UI(mo:Int)(v:bN)(t:Int)(s:Sl)(m:MH)(h:PH):Ctx:=dL [(113,UY),(114,NA)] [(7,{A:=Nat×bS×Sl×MH×PH,st:=λ⟨i,t,s,m,h⟩=>cM 95 99 [(3,iv mo),(9,.at (.ptr 9 0)),(41,sv s),(42,iv s.len),(43,iv i)] [(9,.cells 74 (t.enc.map .val))] m h})] [(3,{A:=Unit,st:=λ_=>cM 95 99 [(1,iv t),(2,sv s),(3,iv mo),(4,.at (.ptr 4 0))] [(4,.cells 29 (v.enc.map .val))] m h}),
 (12,{A:=Nat×bS×VV×Sl×Bool×MH×PH,st:=λ⟨i,t,v,s,b,m,h⟩=>cM 95 99 [(3,iv mo),(9,.at (.ptr 9 0)),(10,iv i),(11,.at (.ptr 11 0)),(12,bv b),(41,sv s),(42,iv s.len),(43,iv i)] [(9,.cells 74 (t.enc.map .val)),(11,.cells 58 (v.enc.map .val))] m h}),
 (13,{A:=Nat×bS×VV×Sl×Bool×Bool×MH×PH,st:=λ⟨i,t,v,s,b,c,m,h⟩=>cM 95 99 [(3,iv mo),(9,.at (.ptr 9 0)),(10,iv i),(11,.at (.ptr 11 0)),(12,bv b),(13,bv c),(41,sv s),(42,iv s.len),(43,iv i)] [(9,.cells 74 (t.enc.map .val)),(11,.cells 58 (v.enc.map .val))] m h})] [] false
noncomputable def VQ(mo:Int)(v:bN)(s:Sl)(m:MH)(h:PH):Ctx:=dL [(115,Y3),(74,NK),(116,Xd),(118,Dh),(117,Hs)] [(9,{A:=Nat,st:=λi=>cM 69 72 [(1,iv mo),(3,.at (.ptr 3 0)),(29,sv s),(30,iv s.len),(31,iv i)] [(3,.cells 29 (v.enc.map .val))] m h}),
 (12,{A:=Nat×Sl×Nat,st:=λ⟨i,u,j⟩=>cM 69 72 [(1,iv mo),(3,.at (.ptr 3 0)),(8,iv i),(9,sv u),(29,sv s),(30,iv s.len),(31,iv i),(36,sv u),(37,iv u.len),(38,iv j)] [(3,.cells 29 (v.enc.map .val))] m h})] [] [] false
def JI(mo:Int)(v:bN)(m:MH)(h:PH)(K:CV->MH->PH->Prop):Prop:=
  kB (λv1 s=>aA (eV (bJ v) (bJ v1)) (dV h s v1) (CP s K m h (nG mo 1 (nG mo 2 (branch (mo !=3) (K (dY 1) m h) (K (dY 0) m h)) (K (dY 0) m h)) (K (dY 0) m h))))
abbrev EI(a:(Unit->Prop)->Prop)(b:Prop):Prop:=∃(x:Unit->Prop),a x/\∀(x1:Unit),x x1->b
attribute [push_cast] EI
def JH(mo:Int)(v:bN)(t:Int)(s:Sl)(m:MH)(h:PH)(K:CV->MH->PH->Prop):Prop:=
  EI (λI=>nG mo 1 (nG mo 2 (branch (mo !=3) (K aT m h) (xF v t h (λs1 t1=>branch (!(gY s1 t1)) (K aT m h) (∃(x:Unit),aA (I x) (aW t) (aA (aL s) (aW mo) (aA (eP 4) (bO v) (aA (m=m) (h=h) True))))))) (xF v t h (λs1 t1=>branch (!(gY s1 t1)) (K aT m h) (∃(x:Unit),aA (I x) (aW t) (aA (aL s) (aW mo) (aA (eP 4) (bO v) (aA (m=m) (h=h) True))))))) (xF v t h (λs1 t1=>branch (!(gY s1 t1)) (K aT m h) (∃(x:Unit),aA (I x) (aW t) (aA (aL s) (aW mo) (aA (eP 4) (bO v) (aA (m=m) (h=h) True))))))) (bK (λb o=>aA (bL v.tables.a b o) (0<=t) (t<aH v.tables/\∃(y:bS),aI m h b (o+eM t 5) (vN y)/\branch (aH s !=aH y.columns) (K aT m h) (∃(I:Nat×bS×Sl×MH×PH->Prop)(m1:Nat×bS×Sl×MH×
 PH->Nat),(∃(x:Nat×bS×Sl×MH×PH),aA (I x) (aW mo) (aA (eP 9) (bA s (qC x)) (aA (cO s (qC x)) (bI x.1) (aA (gO 74 (gM y) (gM (DN x))) (m=oL x) (bP h (oM x))))))/\∀(x:Nat×bS×Sl×MH×PH),I x->bE (↑x.1:Int) (aH (qC x)) (bK (λb1 o1=>aA (bL (qC x).a b1 o1) (0<=(↑x.1:Int)) ((↑x.1:Int)<aH (qC x)/\∃(y1:VV),aI (oL x) (oM x) b1 (o1+aZ x.1 3) y1.enc/\vF y1 (λv1=>branch (!(kK v1)) (K aT (oL x) (oM x)) (∃(I1:Nat×bS×VV×Sl×Bool×MH×PH->Prop),bQ y1.kind 2 (nG mo 1 (Cx I1 mo x (λx1=>ES x.1 (DN x) (AO x1)) (λx1=>CH x x1 (CG x x1) y1)) (Cx I1 mo x (λx1=>BB (AO x1)) (λx1=>CH x x1 (CG x x1) y1))) (Cx I1 mo x (λx1=>BB
 (AO x1)) (λx1=>CH x x1 (CG x x1) y1))/\∀(x1:Nat×bS×VV×Sl×Bool×MH×PH),I1 x1->∃(I2:Nat×bS×VV×Sl×Bool×Bool×MH×PH->Prop),bQ x1.2.2.1.kind 1 (bQ mo 3 (∃(x2:Nat×bS×VV×Sl×Bool×Bool×MH×PH),Cy I2 x2 mo x1 (ES x1.1 x1.2.1 (xL x2)) (CJ x1 x2 (CI x1 x2))) (∃(x2:Nat×bS×VV×Sl×Bool×Bool×MH×PH),Cy I2 x2 mo x1 (BB (xL x2)) (CJ x1 x2 (CI x1 x2)))) (∃(x2:Nat×bS×VV×Sl×Bool×Bool×MH×PH),Cy I2 x2 mo x1 (BB (xL x2)) (CJ x1 x2 (CI x1 x2)))/\∀(x2:Nat×bS×VV×Sl×Bool×Bool×MH×PH),I2 x2->bK (λb2 o2=>aA (bL (DM x2).columns.a b2 o2) (0<=(↑x2.1:Int)) ((↑x2.1:Int)<aH (DM x2).columns/\∃(y2:Int),aI (uS x2) (uT x2) b2 (o2+aZ x2.1 2+1) (bR y2)
 /\IX (x2.2.2.1.kind !=y2) (IX (!x2.2.2.2.2.1) (branch (!(xL x2)) (K aT (uS x2) (uT x2)) (∃(x3:Nat×bS×Sl×MH×PH),Ao I x3 m1 (m1 x) mo x2 (AE x2 x3) (bZ (uS x2) (oL x3) (uT x2) (oM x3)))) (λx3=>Ao I x3 m1 (m1 x) mo x2 (AE x2 x3) (bZ (uS x2) (oL x3) (uT x2) (oM x3)))) (λx3=>Ao I x3 m1 (m1 x) mo x2 (AE x2 x3) (bZ (uS x2) (oL x3) (uT x2) (oM x3)))))))))) (K gF (oL x) (oM x))))))
def K6(mo:Int)(v:bN)(s:Sl)(m:MH)(h:PH)(K:CV->MH->PH->Prop):Prop:=
  kB (λv1 s1=>∃(m1:Int),aA (aK (bJ v) (dY mo)=aK (bJ v1) (dY m1)) (dV h s1 v1) (aA (1<=m1) (m1<=3) (CP s1 K m h (Aj (λs2 s3=>aA (eV (eU s) (eU s2)) (Leaves h s2 s3) (AL s3/\branch (decide (cT s3>512)) (K (dY 2) m h) (branch (aH s !=yL v) (K (dY 80) m h) (rB (λI x=>aA (I x) (aW mo) (aA dT (aL s) (aA (aX s) (bI x) (aA (bO v) (m=m) (bP h h))))) (λI m2 x=>I x->bE (↑x:Int) (aH s) (dA s (↑x:Int) (λb o y=>aI m h b (o+aZ x 1) (aM y)/\∃(I1:Nat×Sl×Nat->Prop)(m3:Nat×Sl×Nat->Nat),(∃(x1:Nat×Sl×Nat),aA (I1 x1) (aW mo) (aA dT (cF x x1.1) (aA (bA y (fX x1)) (aL s) (aA (aX s) (cF x x1.1) (aA (bA y (fX x1)) (cO y (fX x1)) (aA (bI (lF x1)) (bO
 v) (bZ m m h h)))))))/\∀(x1:Nat×Sl×Nat),I1 x1->bE (↑(lF x1):Int) (aH (fX x1)) (dA (fX x1) (↑(lF x1):Int) (λb1 o1 y1=>aI m h b1 (o1+aZ (lF x1) 1) (aM y1)/\kB (λv2 s4=>∃(t:Int),pA (λs5 r=>∃(m4:Int),aA (bJ v::dY (↑x1.1:Int)::aK (dG y1) (dY mo)=bJ v2::dY t::aK (dG s5) (dY m4)) (dV h s4 v2) (aA (bB h s5 r) (1<=m4) (m4<=3/\branch (!(mW m4 s4 t r)) (K (dY 80) m h) (sT (↑(lF x1):Int) 0 (dA (fX x1) (vD x1) (λb2 o2 y2=>aI m h b2 (o2+eM (vD x1) 1) (aM y2)/\tK v (↑x1.1:Int) y2 h (λs6=>bF h b2 (o2+eM (vD x1) 1) (aM y2)/\tK v (↑x1.1:Int) y1 h (λs7=>bF h b2 (o2+eM (vD x1) 1) (aM y2)/\xE s6 s7 h (λa b3=>iH (cL a b3) 0 K (dY 80) m h
 (EG I1 m3 x1 mo s (λx2=>aA (cF x1.1 x2.1) (bA (fX x1) (fX x2)) (aA (cO (fX x1) (fX x2)) (bD (gI (bC (lF x1) 1)) (lF x2)) (bT (bO v) m m h h))))))))) (EG I1 m3 x1 mo s (λx2=>aA (cF x1.1 x2.1) (bA (fX x1) (fX x2)) (aA (cO (fX x1) (fX x2)) (bD (gI (bC (lF x1) 1)) (lF x2)) (bT (bO v) m m h h))))))))))) (∃(x2:Nat),aA (I x2) (m2 x2<m2 x) (aA (aW mo) dT (aA (aL s) (aX s) (aA (bD (gI (bC x1.1 1)) x2) (bO v) (bZ m m h h))))))) (K (dY 0) m h))))))))))
theorem Sz{mo:Int}(h1:1<=mo)(h3:mo<=3){A B:Prop}(hB:B):branch (mo !=1) (branch (mo !=2) (branch (mo !=3) A B) B) B:=
 aB (λe1=>aB (λe2=>aB (λe3=>by simp at e1 e2 e3;omega) λ_=>hB) λ_=>hB) λ_=>hB
theorem Wx{mo:Int}{v:bN}(hs:dV h s v)(h1:1<=mo)(h3:mo<=3)(hK:K (cI (cZ s)) m h):JI mo v m h K:=
 ⟨v,s,rfl,hs,aB (λ_=>hK) (λe=>by rw[show cZ s=0 by simpa using e]at hK;exact Sz h1 h3 hK)⟩
theorem PB:Sound Tryz.prog 115 Y3:=by
 refine jK Tryz.func115 ?_;rintro cvs m h K ⟨v,s,mo,rfl,hs,h1,h3,hK⟩;refine⟨dL [(66,zO)] [] [] [] false,rfl,aD C0 aF,JI mo v m h K,by kernel_rfl,?_⟩;exact Wx hs h1 h3 hK
theorem qP{mo:Int}{t:zN}{r:List VV}:yB mo t r=true↔r.length=t.columns.length/\∀i,i<r.length->zH mo t.key (t.columns.getD i ⟨⟨#[]⟩,0⟩).kind i (r.getD i zeroV)=true:=by
 simp only[yB,Bool.and_eq_true,decide_eq_true_eq,List.all_eq_true,List.mem_range]
theorem vY{mo:Int}{s:jR}{t:Int}{r:List VV}{tb:zN}(ht:s.tables[t.toNat]? =some tb)(h:gY s t=true):mW mo s t r=yB mo tb r:=by
 simp only[mW,h,ht,Bool.true_and]
theorem Hg:Sound Tryz.prog 116 Xd:=by
 refine jK Tryz.func116 ?_;rintro cvs m h K ⟨v,s,t,sl,r,mo,rfl,hs,hv,h1,h3,hK⟩;refine⟨UI mo v t sl m h,rfl,aD wN (aD DT aF),JH mo v t sl m h K,by kernel_rfl,?_⟩;dsimp only[JH,push_cast];have htl:=hs.tables.slen;have hrl:=aR.slen hv;refine⟨λ_=>gY s t=true,Sz h1 h3 ⟨v,s,t,rfl,hs,aB (λe=>?_) (λe=>⟨(),by simpa using e,MT⟩)⟩,?_⟩
 .have e:gY s t=false:=by simpa using e
  simp only[mW,e,Bool.false_and]at hK;exact hK
 rintro _ e;have he:=e;simp only[gY,Bool.and_eq_true,decide_eq_true_eq]at he;obtain⟨tb,htb⟩:∃tb,s.tables[t.toNat]? =some tb:=⟨_,List.getElem?_eq_getElem aC⟩
 obtain⟨b,o,y,ea,rd,hy⟩:=aR.at hs.tables htb;rw[vY htb e]at hK;have hcl:=aR.slen hy.columns;have hk:=hy.key;refine⟨b,o,ea,he.1,aC,y,.imm rd,aB (λe1=>?_) (λe1=>?_)⟩
 .have:yB mo tb r=false:=by
   cases e2:yB mo tb r with
   |false=>rfl
   |true=>
    have:=(qP.1 e2).1;simp at e1;omega
  rw[this]at hK;exact hK
 have hwl:r.length=tb.columns.length:=by simp at e1;omega
 have bad:∀i,i<r.length->zH mo tb.key (tb.columns.getD i ⟨⟨#[]⟩,0⟩).kind i (r.getD i zeroV)=false->K (cB false) m h:=λi hi hf=>by
  have:yB mo tb r=false:=by
   cases e2:yB mo tb r with
   |false=>rfl
   |true=>rw[(qP.1 e2).2 i hi]at hf;cases hf
  rw[this]at hK;exact hK
 refine⟨λz=>z.2.1=y/\z.2.2.1=sl/\z.2.2.2.1=m/\z.2.2.2.2=h/\z.1<=r.length/\∀j,j<z.1->zH mo tb.key (tb.columns.getD j ⟨⟨#[]⟩,0⟩).kind j (r.getD j zeroV)=true,λz=>r.length-z.1,⟨(0,y,sl,m,h),⟨rfl,rfl,rfl,rfl,by simp,λj hj=>by simp at hj⟩,MT⟩,?_⟩;rintro⟨i,y',sl',m',h'⟩ ⟨e1,e2,e3,e4,hi,hall⟩;dsimp only at e1 e2 e3 e4 hi hall⊢
 subst e1 e2 e3 e4;refine aE (λhlt=>?_) (λhge=>?_)
 .have hil:i<r.length:=by omega
  have hx:r[i]? =some (r.getD i zeroV):=by rw[List.getD_eq_getElem?_getD,List.getElem?_eq_getElem hil];rfl
  obtain⟨b2,o2,x,ea2,rd2,hxx⟩:=aR.at hv hx;subst hxx;have hc:tb.columns[i]? =some (tb.columns.getD i ⟨⟨#[]⟩,0⟩):=by rw[List.getD_eq_getElem?_getD,List.getElem?_eq_getElem aC];rfl
  obtain⟨b3,o3,c,ea3,rd3,hcc⟩:=aR.at hy.columns hc;have badi:=bad i hil
  have alli:zH mo tb.key (tb.columns.getD i ⟨⟨#[]⟩,0⟩).kind i (r.getD i zeroV)=true->∀j,j<i+1->zH mo tb.key (tb.columns.getD j ⟨⟨#[]⟩,0⟩).kind j (r.getD j zeroV)=true:=λhf j hj=>by
   by_cases e5:j=i
   .rw[e5];exact hf
   .exact hall j aC
  generalize r.getD i zeroV=x at badi alli rd2 hx;rw[hcc]at badi alli;have go:zH mo tb.key c.kind i x=true->∃z:Nat×bS×Sl×MH×PH,(z.2.1=y'/\z.2.2.1=sl'/\z.2.2.2.1=m'/\z.2.2.2.2=h'/\z.1<=r.length/\∀j,j<z.1->zH mo tb.key (tb.columns.getD j ⟨⟨#[]⟩,0⟩).kind j (r.getD j zeroV)=true)/\r.length-z.1<r.length-i/\z=(i+1,y',sl',m',h'):=λhf=>⟨_,⟨rfl,rfl,rfl,rfl,by show i+1<=r.length;omega,alli hf⟩,by show r.length-(i+1)<r.length-i;omega,rfl⟩
  refine⟨b2,o2,ea2,aC,aC,x,.imm rd2,x,rfl,aB (λev=>badi ?_) (λev=>?_)⟩
  .have ev:kK x=false:=by simpa using ev
   simp[zH,ev]
  have ev:kK x=true:=by simpa using ev
  refine⟨λz=>z=(i,y',x,sl',(x.kind==2&&(mo !=1&&decide ((i:Int)>=y'.key))),m',h'),aB (λe2=>aB (λe9=>⟨_,rfl,by rw[e2,e9];exact MT⟩) (λe9=>⟨_,rfl,by rw[e2,e9];exact MT⟩)) (λe2=>⟨_,rfl,by rw[e2];exact MT⟩),?_⟩;rintro _ rfl;dsimp only;refine⟨λz=>z=(i,y',x,sl',(x.kind==2&&(mo !=1&&decide ((i:Int)>=y'.key))),(x.kind==1&&(mo==3&&decide ((i:Int)>=y'.key))),m',h'),aB (λe2=>aB (λe9=>⟨_,rfl,by rw[e2,e9];exact MT⟩) (λe9=>⟨_,rfl,by rw[e2,e9];exact MT⟩)) (λe2=>⟨_,rfl,by rw[e2];exact MT⟩),?_⟩;rintro _ rfl;dsimp only
  have hfv:zH mo tb.key c.kind i x=(x.kind==c.kind||((x.kind==2&&(mo !=1&&decide ((i:Int)>=y'.key)))||(x.kind==1&&(mo==3&&decide ((i:Int)>=y'.key))))):=by
   rw[hk];simp only[zH,ev,Bool.true_and,ge_iff_le,Bool.and_or_distrib_right,Bool.and_assoc]
  generalize hb1:(x.kind==2&&(mo !=1&&decide ((i:Int)>=y'.key)))=B1 at hfv⊢
  generalize hb2:(x.kind==1&&(mo==3&&decide ((i:Int)>=y'.key)))=B2 at hfv⊢
  refine⟨b3,o3,ea3,aC,aC,c.kind,.imm (bF.part rd3 1 1),aB (λe3=>aB (λe4=>aB (λe5=>badi ?_) (λe5=>?_)) (λe4=>?_)) (λe3=>?_)⟩
  .have e3:(x.kind==c.kind)=false:=by simpa using e3
   have e4:B1=false:=by simpa using e4
   have e5:B2=false:=by simpa using e5
   rw[hfv,e3,e4,e5];rfl
  all_goals
   obtain⟨_,g1,g2,rfl⟩:=go (by rw[hfv];simp_all);refine⟨_,g1,g2,?_⟩;dsimp only;rw[j5 (by have:=aR.len hv;omega)];exact MT
 .have:yB mo tb r=true:=qP.2 ⟨hwl,λj hj=>hall j aC⟩;rw[this]at hK;exact hK
theorem O0{mo:Int}{t:Nat}{tb:zN}(h:s.tables[t]? =some tb)(r:List VV):mW mo s t r=yB mo tb r:=by
 have:t<s.tables.length:=(List.getElem?_eq_some_iff.1 h).1;have e:gY s (t:Int)=true:=by simp[gY];omega
 exact vY (by simpa using h) e
theorem Qz:Sound Tryz.prog 72 Hn:=by
 refine jK Tryz.func72 ?_;rintro cvs m h K ⟨v,s,sl,st,mo,rfl,hs,hl,hn,m1,m3,hK⟩;refine⟨VQ mo v sl m h,rfl,aD PB (aD K4 (aD Hg (aD wM (aD nL aF)))),K6 mo v sl m h K,by kernel_rfl,?_⟩;dsimp only[K6,push_cast];have htl:=hs.tables.slen;have hsl:=aR.slen hl;unfold p8 at hK;refine⟨v,s,mo,rfl,hs,m1,m3,aB (λe=>?_) (λe=>⟨sl,st,rfl,hl,hn,aE (λe2=>?_) (λe2=>aB (λe3=>?_) (λe3=>?_))⟩)⟩
 .rw[if_pos (by simpa using e)]at hK;exact hK
 all_goals rw[if_neg (by simpa using e)]at hK
 .rw[if_pos (by unfold cT at e2;omega)]at hK;exact hK
 all_goals rw[if_neg (by unfold cT at e2;omega)]at hK
 .rw[if_pos (by simp at e3;omega)]at hK;exact hK
 have hlen:st.length=s.tables.length:=by simp at e3;omega
 rw[if_neg (by simp[hlen])]at hK;have bad:¬Sm mo s st->K (cI 80) m h:=λhb=>by rw[if_neg hb]at hK;exact hK
 refine⟨λi=>i<=st.length/\∀(j:Nat) t l,j<i->s.tables[j]? =some t->st[j]? =some l->Qb mo t l,λi=>st.length-i,⟨0,⟨by simp,λj t l hj=>by omega⟩,MT⟩,?_⟩;rintro i ⟨hi,hall⟩;refine aE (λhlt=>?_) (λhge=>?_)
 .obtain⟨l,hx⟩:=fS hsl hlt;obtain⟨b,o,u,ea,rd,hr⟩:=aR.at hl hx;have hul:=aR.slen hr;have hll:=aR.len hr;obtain⟨tb,htb⟩:∃tb,s.tables[i]? =some tb:=⟨_,List.getElem?_eq_getElem aC⟩
  have badi:¬Qb mo tb l->K (cI 80) m h:=λhb=>bad λhok=>hb (hok i tb l htb hx);refine⟨b,o,ea,aC,aC,u,.imm rd,λz=>z.1=i/\z.2.1=u/\z.2.2<=l.length/\(∀k r,k<z.2.2->l[k]? =some r->yB mo tb r=true)/\∀k r r',k+1<z.2.2->l[k]? =some r->l[k+1]? =some r'->cL (wU tb r) (wU tb r')<0,λz=>l.length-z.2.2,⟨(i,u,0),⟨rfl,rfl,by simp,λk r hk=>by simp at hk,λk r r' hk=>by simp at hk⟩,MT⟩,?_⟩;rintro⟨i',u',j⟩ ⟨e1,e2,hj,hfit,hkey⟩;dsimp only at e1 e2 hj hfit hkey⊢
  subst e1 e2;refine aE (λhlt2=>?_) (λhge2=>?_)
  .obtain⟨r,hxr⟩:=fS hul hlt2;obtain⟨b2,o2,w,ea2,rd2,hv⟩:=aR.at hr hxr;refine⟨b2,o2,ea2,aC,aC,w,.imm rd2,v,s,i',w,r,mo,rfl,hs,hv,m1,m3,aB (λef=>badi λhok=>?_) (λef=>?_)⟩
   .rw[O0 htb,hok.1 r (List.mem_of_getElem? hxr)]at ef;cases ef
   have hf:yB mo tb r=true:=by rw[O0 htb]at ef;simpa using ef
   have hfit':∀k r,k<j+1->l[k]? =some r->yB mo tb r=true:=λk r' hk hr'=>by
    by_cases e5:k=j
    .subst e5;rw[hxr]at hr';cases hr';exact hf
    .exact hfit k r' aC hr'
   refine aE (λhj0=>?_) (λhj0=>?_)
   .have hw:IntKind.i64.wrap ((j:Int)-1)=((j-1:Nat):Int):=by rw[gD aC aC];omega
    obtain⟨r0,hx0⟩:∃r0,l[j-1]? =some r0:=⟨_,List.getElem?_eq_getElem aC⟩
    obtain⟨b3,o3,w3,ea3,rd3,hv3⟩:=aR.at hr hx0;rw[hw];refine⟨b3,o3,ea3,aC,aC,w3,.imm rd3,v,s,i',w3,r0,rfl,hs,hv3,λs1 hs1=>⟨rd3,v,s,i',w,r,rfl,hs,hv,λs2 hs2=>⟨rd3,s1,s2,_,_,rfl,hs1,hs2,aE (λhc=>badi λhok=>?_) (λhc=>?_)⟩⟩⟩
    .rw[oF htb,oF htb]at hc;have:=hok.2 (j-1) r0 r hx0 (by rw[show j-1+1=j by omega];exact hxr);omega
    .rw[oF htb,oF htb]at hc;refine⟨(i',u',j+1),⟨rfl,rfl,by show j+1<=l.length;omega,hfit',λk r1 r2 hk h1 h2=>?_⟩,by show l.length-(j+1)<l.length-j;omega,?_⟩
     .by_cases e5:k+1=j
      .have:k=j-1:=by omega
       subst this;rw[hx0]at h1;rw[e5,hxr]at h2;cases h1;cases h2;omega
      .exact hkey k r1 r2 (by have:k+1<j+1:=hk;omega) h1 h2
     .dsimp only;rw[j5 aC];exact MT
   .refine⟨(i',u',j+1),⟨rfl,rfl,by show j+1<=l.length;omega,hfit',λk r1 r2 hk h1 h2=>by have:k+1<j+1:=hk;omega⟩,by show l.length-(j+1)<l.length-j;omega,?_⟩;dsimp only;rw[j5 aC];exact MT
  .refine⟨i'+1,⟨aC,λk t l' hk ht hl'=>?_⟩,aC,?_⟩
   .by_cases e5:k=i'
    .subst e5;rw[htb]at ht;cases ht;rw[hx]at hl';cases hl';refine⟨λr hr=>?_,λk r r' h1 h2=>hkey k r r' ?_ h1 h2⟩
     .obtain⟨n,hn,rfl⟩:=List.mem_iff_getElem.1 hr;exact hfit n _ aC (List.getElem?_eq_getElem hn)
     .have:=(List.getElem?_eq_some_iff.1 h2).1;omega
    .exact hall k t l' aC ht hl'
   .rw[j5 aC];exact MT
 .rw[if_pos]at hK
  .exact hK
  .exactλj t l h1 h2=>hall j t l (by have:=(List.getElem?_eq_some_iff.1 h2).1;omega) h1 h2
structure sC where
 tab:Int
 old:List VV
 new:List VV
def kT(s:jR)(c:sC):List VV:=if 0<c.old.length then dK s c.tab c.old else dK s c.tab c.new
def yW(mo:Int)(s:jR)(c:sC):Bool:=
 gY s c.tab&& !(c.old.length==0&&c.new.length==0)&&(c.old.length==0||mW mo s c.tab c.old)&&(c.new.length==0||mW mo s c.tab c.new)&&(c.old.length==0||c.new.length==0||cL (dK s c.tab c.old) (dK s c.tab c.new)==0)
def jT(k:List VV->List VV)(l:List (List VV))(key:List VV):Nat:=l.countP λr=>decide (cL (k r) key<0)
def kV(k:List VV->List VV)(l:List (List VV))(key:List VV):Bool:=decide (jT k l key<l.length)&&cL (k (l.getD (jT k l key) [])) key==0
def lJ(s:jR)(l:List (List VV))(c:sC):Option (List (List VV)):=
 let i:=jT (dK s c.tab) l (kT s c)
 let f:=kV (dK s c.tab) l (kT s c)
 if(f !=decide (0<c.old.length))||(f&&cL (l.getD i []) c.old !=0)then none
 else some (l.take i++(if 0<c.new.length then[c.new]else[])++l.drop (if f then i+1 else i))
def wR(mo:Int)(s:jR):List (List (List VV))->Int->List sC->List (List (List VV))×Int
 |st,_,[]=>(st,0)
 |st,n,c::cs=>
  if yW mo s c=false then([],71)
  else match lJ s (st.getD c.tab.toNat []) c with
   |none=>([],81)
   |some l=>if 512<n+((l.length:Int)-((st.getD c.tab.toNat []).length:Int))then([],2)else wR mo s (st.set c.tab.toNat l) (n+((l.length:Int)-((st.getD c.tab.toNat []).length:Int))) cs
theorem BW{a b c:List VV}(h1:cL a b<0)(h2:cL b c<0):cL a c<0:=by
 have h3:=sZ a b c aC aC;rcases Int.lt_or_eq_of_le h3 with h|h
 .exact h
 .have e:=gR.1 h;subst e;have:=jP a b;omega
abbrev P7(k:List VV->List VV)(l:List (List VV)):Prop:=l.Pairwise λx y=>cL (k x) (k y)<0
theorem Cg{k:List VV->List VV}{key:List VV}:∀{l:List (List VV)},P7 k l->(∀r∈l.take (jT k l key),cL (k r) key<0)/\(∀r∈l.drop (jT k l key),0<=cL (k r) key)
 |[],_=>by simp
 |a::l,h=>by
  have h:List.Pairwise (λx y=>cL (k x) (k y)<0) (a::l):=h;rw[List.pairwise_cons]at h;obtain⟨h1,h2⟩:=h;have ih:=Cg (key:=key) h2;by_cases ha:cL (k a) key<0
  .have e:jT k (a::l) key=jT k l key+1:=by unfold jT;rw[List.countP_cons_of_pos (by simpa using ha)]
   rw[e,List.take_succ_cons,List.drop_succ_cons];refine⟨λr hr=>?_,ih.2⟩;rcases List.mem_cons.1 hr with rfl|hr
   .exact ha
   .exact ih.1 r hr
  .have e0:jT k l key=0:=by
    unfold jT;rw[List.countP_eq_zero];intro r hr;simp only[decide_eq_true_eq];intro h3;have:=h1 r hr;exact ha (BW this h3)
   have e:jT k (a::l) key=0:=by
    have:jT k (a::l) key=jT k l key:=by unfold jT;rw[List.countP_cons_of_neg (by simpa using ha)]
    rw[this,e0]
   rw[e];refine⟨λr hr=>by simp at hr,λr hr=>?_⟩;rw[List.drop_zero]at hr;rcases List.mem_cons.1 hr with rfl|hr
   .omega
   .have:=h1 r hr;have h5:=jP (k r) key;refine Int.not_lt.1 λh3=>ha (BW this h3)
theorem Qf(k:List VV->List VV)(l:List (List VV))(key:List VV):jT k l key<=l.length:=List.countP_le_length
theorem CU{k:List VV->List VV}{key:List VV}{l:List (List VV)}(h:P7 k l):kV k l key=true↔∃r∈l,k r=key:=by
 have hs:=Cg (key:=key) h;unfold kV;rw[Bool.and_eq_true,decide_eq_true_eq,beq_iff_eq];constructor
 .rintro⟨h1,h2⟩;rw[List.getD_eq_getElem?_getD,List.getElem?_eq_getElem h1]at h2;exact⟨_,List.getElem_mem h1,gR.1 h2⟩
 .rintro⟨r,hr,rfl⟩;have hz:cL (k r) (k r)=0:=gR.2 rfl
  have hrd:r∈l.drop (jT k l (k r)):=by
   rw[<-List.take_append_drop (jT k l (k r)) l,List.mem_append]at hr;rcases hr with hr|hr
   .have:=hs.1 r hr;omega
   .exact hr
  have hlt:jT k l (k r)<l.length:=by
   refine Nat.lt_of_not_le λh3=>?_;rw[List.drop_of_length_le h3]at hrd;simp at hrd
  refine⟨hlt,?_⟩;rw[List.getD_eq_getElem?_getD,List.getElem?_eq_getElem hlt];show cL (k l[jT k l (k r)]) (k r)=0;have hd:l.drop (jT k l (k r))=l[jT k l (k r)]::l.drop (jT k l (k r)+1):=List.drop_eq_getElem_cons hlt;have h0:=hs.2 l[jT k l (k r)] (by rw[hd];exact List.mem_cons_self ..);rw[hd]at hrd;rcases List.mem_cons.1 hrd with e|hm
  .rw[<-e];exact hz
  .have hp:=List.Pairwise.sublist (List.drop_sublist (jT k l (k r)) l) h;rw[hd,List.pairwise_cons]at hp;have:=hp.1 r hm;omega
theorem TO{s:jR}{l:List (List VV)}{c:sC}(ho:c.old=[])(hn:0<c.new.length)(h:P7 (dK s c.tab) l)(hf:∀r∈l,dK s c.tab r≠dK s c.tab c.new):
 ∃l',lJ s l c=some l'/\P7 (dK s c.tab) l'/\(∀r,r∈l'↔r=c.new\/r∈l)/\l'.length=l.length+1:=by
 have hk:kT s c=dK s c.tab c.new:=by unfold kT;rw[ho];rfl
 have hff:kV (dK s c.tab) l (kT s c)=false:=by
  rw[Bool.eq_false_iff];intro h1;obtain⟨r,hr,e⟩:=(CU h).1 h1;rw[hk]at e;exact hf r hr e
 have hs:=Cg (key:=kT s c) h;refine⟨l.take (jT (dK s c.tab) l (kT s c))++[c.new]++l.drop (jT (dK s c.tab) l (kT s c)),?_,?_,λr=>?_,?_⟩
 .unfold lJ;dsimp only;rw[hff,ho,if_pos hn];simp
 .rw[hk]at hs⊢
  have hp:List.Pairwise (λx y=>cL (dK s c.tab x) (dK s c.tab y)<0) l:=h;rw[<-List.take_append_drop (jT (dK s c.tab) l (dK s c.tab c.new)) l,List.pairwise_append]at hp;obtain⟨p1,p2,p3⟩:=hp;show List.Pairwise (λx y=>cL (dK s c.tab x) (dK s c.tab y)<0) _;rw[List.append_assoc,List.pairwise_append];refine⟨p1,?_,λx hx y hy=>?_⟩
  .rw[List.singleton_append,List.pairwise_cons];refine⟨λy hy=>?_,p2⟩;have h1:=hs.2 y hy;have h2:=jP (dK s c.tab y) (dK s c.tab c.new);rcases Int.lt_or_eq_of_le h1 with h3|h3
   .omega
   .exact(hf y (List.mem_of_mem_drop hy) (gR.1 h3.symm)).elim
  .rw[List.singleton_append]at hy;rcases List.mem_cons.1 hy with rfl|hy
   .exact hs.1 x hx
   .exact p3 x hx y hy
 .rw[List.mem_append,List.mem_append,List.mem_singleton]
  conv=>rhs;rw[<-List.take_append_drop (jT (dK s c.tab) l (kT s c)) l,List.mem_append]
  constructor
  .rintro((h1|h1)|h1)
   .exact .inr (.inl h1)
   .exact .inl h1
   .exact .inr (.inr h1)
  .rintro(h1|h1|h1)
   .exact .inl (.inr h1)
   .exact .inl (.inl h1)
   .exact .inr h1
 .have:=Qf (dK s c.tab) l (kT s c);simp only[List.length_append,List.length_take,List.length_drop,List.length_singleton];omega
structure Wr where
 cols:List Int
 bef:List (List VV)
 aft:List (List VV)
structure Den where
 chg:Int
 aft:Bool
 tab:Int
 key:List VV
 col:Int
def qR(s:jR)(c:sC):List VV:=dK s c.tab (if c.new.length=0 then c.old else c.new)
def gW(ws:List Wr)(key:List VV)(aft:Bool)(col:Int):Bool:=ws.any λw=>(decide (col<0)||w.cols.contains col)&&Qu (if aft then w.aft else w.bef) key
def Km(s:jR)(ws:List Wr)(i:Int)(c:sC):List Den:=
 if c.old.length=0 then(if gW ws (qR s c) true (-1)then[]else[⟨i,true,c.tab,qR s c, -1⟩])
 else if c.new.length=0 then(if gW ws (qR s c) false (-1)then[]else[⟨i,false,c.tab,qR s c, -1⟩])
 else(List.range c.old.length).flatMap λj=>if P6 (c.old.getD j zeroV) (c.new.getD j zeroV)=true then[]else([false,true].filter λa=> !gW ws (qR s c) a j).map λa=>⟨i,a,c.tab,qR s c,j⟩
structure sD(h:PH)(c:sC)(v:dH):Prop where
 tab_:v.table=c.tab
 old_:bB h v.old c.old
 new_:bB h v.new c.new
theorem sD.mono{c:sC}{v:dH}(x:sD h c v)(le:PH.le h h'):sD h' c v:=⟨x.tab_,x.old_.mono le,x.new_.mono le⟩
def R6(v:dH):CV:=.val (.agg ⟨v.enc⟩)
def NL:Vc.Spec:=λcvs m h K=>∃s r,cvs=[cS s]/\bB h s r/\r.length<=1000/\∀s' h',PH.le h h'->bB h' s' r->K (cS s') m h'
def ZP:Vc.Spec:=λcvs m h K=>∃s t a b,cvs=[cS s,cS t]/\bB h s a/\bB h t b/\K (cB (cL a b==0)) m h
def Xg:Vc.Spec:=λcvs m h K=>∃sc v s c,cvs=[aS sc,R6 v]/\dV h s sc/\sD h c v/\∀s',bB h s' (kT s c)->K (cS s') m h
def S9:Vc.Spec:=λcvs m h K=>∃sc v s c mo,cvs=[aS sc,cI mo,R6 v]/\dV h s sc/\sD h c v/\1<=mo/\mo<=3/\K (cB (yW mo s c)) m h
def YL:Vc.Spec:=λcvs m h K=>∃x u bs bc sc v s c a b,cvs=[cS x,cS u,cP bs,cP bc]/\m bs=some (.cells ⟨bN.enc sc⟩ 29 (0,0))/\m bc=some (.cells ⟨dH.enc v⟩ 84 (0,0))/\dV h s sc/\v.table=c/\bB h x a/\bB h u b/\K (cI (cL (dK s c a) b)) m h
def Xe:Vc.Spec:=λcvs m h K=>∃(s u:Sl)(g:Nat)(caps:List Value)(l:List (List VV))(key:List VV)(k:List VV->List VV),cvs=[cS s,cS u,.val (.func (.func g) #[] ⟨caps⟩)]/\Rows h s l/\l.length<=8000000/\P7 k l/\
 (∀(x:Sl) r,r∈l->bB h x r->ZO Tryz.prog g 3 (cS x::cS u::caps.map .val) m h (λz m' h'=>z=[.int .i64 (cL (k r) key)]/\m'=m/\h'=h))/\K (.tup [cI (jT k l key:Nat),cB (kV k l key)]) m h
noncomputable def XX(sc:bN)(v:dH)(mo:Int)(m:MH)(h:PH):Ctx:=dL [(116,Xd),(118,Dh),(119,ZP)] [(4,{A:=Nat,st:=λi=>cM 78 81 [(1,iv mo),(3,.at (.ptr 3 0)),(5,.at (.ptr 5 0)),(36,.agg [.val (.slice v.old.a v.old.len v.old.cap),.val (.slice v.new.a v.new.len v.new.cap)]),(37,iv i)] [(3,.cells 29 (sc.enc.map .val)),(5,.cells 84 (v.enc.map .val))] m h})] [(3,{A:=Unit,st:=λ_=>cM 78 81 [(1,iv mo),(3,.at (.ptr 3 0)),(5,.at (.ptr 5 0))] [(3,.cells 29 (sc.enc.map .val)),(5,.cells 84 (v.enc.map .val))] m h}),(9,{A:=Unit,st:=λ_=>cM 78 81 [(3,.at (.ptr 3 0)),(5,.at (.ptr 5 0))] [(3,.cells 29 (sc.enc.map .val)),(5,.cells 84 (v.enc.map .val))] m h})] [] false
noncomputable def Wv(s u:Sl)(g:Nat)(caps:List Value)(m:MH)(h:PH):Ctx:=
 sY [] [(3,{A:=Nat×Nat,st:=λ⟨i,j⟩=>cM 49 52 [(0,sv s),(1,sv u),(2,vv (.func (.func g) #[] ⟨caps⟩)),(8,iv s.len),(9,iv i),(10,iv j)] [] m h})] [] [] [510003] [] false
def Pa(s:Sl)(m:MH)(h:PH)(K:CV->MH->PH->Prop):Prop:=
  ∃(y:List (List Value)),aA (dU 3 y) (bH h (cV s) 3 y) (aA (dD y.length 32) (w7 y.length) (aY h 3 y (λs1 h1=>K (dG s1) m h1)))
def UG(s t:Sl)(m:MH)(h:PH)(K:CV->MH->PH->Prop):Prop:=
  xE s t h (λa b=>K (yX (cL a b==0)) m h)
def LP(sc:bN)(v:dH)(m:MH)(h:PH)(K:CV->MH->PH->Prop):Prop:=
  sT (aH v.old) 0 (tK sc v.table v.old h (λs=>K (dG s) m h)) (tK sc v.table v.new h (λs=>K (dG s) m h))
abbrev lS(a:dH):Prop:=eQ (oQ 84 (dP (iQ a.table) (yY a.old) (jX a.new)))
noncomputable abbrev rR(a:dH):SV:=SV.agg (yY a.old::jX a.new)
attribute [push_cast] lS rR
def O9(sc:bN)(v:dH)(mo:Int)(m:MH)(h:PH)(K:CV->MH->PH->Prop):Prop:=
  EI (λI=>bE v.table 0 (K aT m h) (iH v.table (yL sc) K aT m h (bQ (aH v.old) 0 (branch (aH v.new==0) (K aT m h) (∃(x:Unit),aA (I x) (aW mo) (aA dT dJ (aA (bO sc) (lS v) (aA (m=m) (h=h) True))))) (∃(x:Unit),aA (I x) (aW mo) (aA dT dJ (aA (bO sc) (lS v) (aA (m=m) (h=h) True))))))) (EI (λI=>rB (λI1 x=>aA (I1 x) (aW mo) (aA dT dJ (aA (rR v=rR v) (bI x) (aA (bO sc) (lS v) (bZ m m h h))))) (λI1 m1 x=>I1 x->bE (↑x:Int) 2 (aA (cQ (↑x:Int)) ((↑x:Int)<2) (bQ (↑x:Int) 0 (sT (aH v.old) 0 (kB (λv1 s=>∃(t:Int),pA (λs1 r=>∃(m2:Int),aA (bJ sc::dY v.table::aK (dG v.old) (dY mo)=bJ v1::dY t::aK (dG s1) (dY m2)) (dV h s v1) (aA
 (bB h s1 r) (1<=m2) (m2<=3/\branch (!(mW m2 s t r)) (K aT m h) (∃(x1:Nat),aA (I1 x1) (m1 x1<m1 x) (aA (aW mo) dT (aA dJ (rR v=rR v) (aA (bD (gI (bC x 1)) x1) (bO sc) (bT (lS v) m m h h)))))))))) (∃(x1:Nat),aA (I1 x1) (m1 x1<m1 x) (aA (aW mo) dT (aA dJ (rR v=rR v) (aA (bD (gI (bC x 1)) x1) (bO sc) (bT (lS v) m m h h)))))) (bQ (↑x:Int) 1 (sT (aH v.new) 0 (kB (λv1 s=>∃(t:Int),pA (λs1 r=>∃(m2:Int),aA (bJ sc::dY v.table::aK (dG v.new) (dY mo)=bJ v1::dY t::aK (dG s1) (dY m2)) (dV h s v1) (aA (bB h s1 r) (1<=m2) (m2<=3/\branch (!(mW m2 s t r)) (K aT m h) (∃(x1:Nat),aA (I1 x1) (m1 x1<m1 x) (aA (aW mo) dT (aA dJ (rR v=rR v) (aA (bD (gI (bC
 x 1)) x1) (bO sc) (bT (lS v) m m h h)))))))))) (∃(x1:Nat),aA (I1 x1) (m1 x1<m1 x) (aA (aW mo) dT (aA dJ (rR v=rR v) (aA (bD (gI (bC x 1)) x1) (bO sc) (bT (lS v) m m h h)))))) True))) (∃(x1:Unit),aA (I x1) dT (aA dJ (bO sc) (bT (lS v) m m h h))))) (branch (aH v.old==0) (K gF m h) (branch (aH v.new==0) (K gF m h) (tK sc v.table v.old h (λs=>tK sc v.table v.new h (λs1=>xE s s1 h (λa b=>K (yX (cL a b==0)) m h)))))))
def LO(x u:Sl)(bs bc:Nat)(m:MH)(h:PH)(K:CV->MH->PH->Prop):Prop:=
  ∃(y:bN),aI m h bs 0 (lP (eE y) (eD y))/\tL m h bc 0 (λy1=>tK y y1 x h (λs=>xE s u h (λa b=>K (dY (cL a b)) m h)))
noncomputable abbrev EA(a:Nat×Nat):Int:=qO (Int.fdiv (IV (bC a.1 (↑a.2:Int))) 2)
abbrev EV(a b:Nat)(c d:Sl)(e:List Value)(g:MH)(i:Nat->Nat->Option Value)(j:(List Value)->MH->PH->Prop):Prop:=ZO Proofs.Tryz.prog a b (dG c::dG d::List.map CV.val e) g i (fun(x:List Value)=>fun(x1:MH)=>fun(x2:PH)=>j x x1 x2)
attribute [push_cast] EA EV
def LQ(s u:Sl)(g:Nat)(caps:List Value)(m:MH)(h:PH)(K:CV->MH->PH->Prop):Prop:=
  HR (λI x=>aA (I x) (aL s) (aA (aL u) (eQ (BA (Fn.func g) (Array.mk caps))) (aA (aX s) (bI x.1) (aA (bD (gI (↑s.len:Int)) x.2) (m=m) (bP h h))))) (λI m1 x=>I x->bE (↑x.1:Int) (↑x.2:Int) (dA s (EA x) (λb o y=>aI m h b (o+eM (EA x) 1) (aM y)/\∃(R:Int->MH->PH->Prop),EV g 3 y u caps m h (λl m2 h1=>∃(x1:Int),l=bR x1/\R x1 m2 h1)/\∀(x1:Int),oS (λm2 h1=>R x1 m2 h1->bE x1 0 (∃(x2:Nat×Nat),aA (I x2) (m1 x2<m1 x) (aA (aL s) (aL u) (aA (eQ (BA (Fn.func g) (Array.mk caps))) (aX s) (aA (bD (SV.at (At.val (cJ (qO (EA x+1))))) x2.1) (cF x.2 x2.2) (bZ m2 m h1 h))))) (∃(x2:Nat×Nat),aA (I x2) (m1 x2<m1 x) (aA (aL s) (aL u) (aA (eQ (BA (Fn.func g) (Array.mk caps))) (aX s) (aA (cF x.1
 x2.1) (bD (SV.at (At.val (cJ (EA x)))) x2.2) (bZ m2 m h1 h)))))))) (bE (↑x.1:Int) (aH s) (dA s (↑x.1:Int) (λb o y=>aI m h b (o+aZ x.1 1) (aM y)/\∃(R:Int->MH->PH->Prop),EV g 3 y u caps m h (λl m2 h1=>∃(x1:Int),l=bR x1/\R x1 m2 h1)/\∀(x1:Int),oS (λm2 h1=>R x1 m2 h1->K (CV.tup (aK (dY (↑x.1:Int)) (yX (x1==0)))) m2 h1))) (K (CV.tup (aK (dY (↑x.1:Int)) aT)) m h)))
theorem O4{P:Program}{f:FuncId}{T:TypeId}{cvs:List CV}{R R':List Value->MH->PH->Prop}(x:ZO P f T cvs m h R)(hr:∀l m' h',R l m' h'->R' l m' h'):ZO P f T cvs m h R':=
 ⟨x.fn,λvs w e hH=>(x.go vs w e hH).mono λ_ _⟨l,m',h',e1,e2,e3⟩=>⟨l,m',h',e1,hr _ _ _ e2,e3⟩⟩
theorem VI{j:Nat}(h:i+j<=32000000):IntKind.i64.wrap ((IntKind.u64.wrap (IntKind.i64.wrap ((i:Int)+(j:Int)))).fdiv 2)=(((i+j)/2:Nat):Int):=by
 rw[gD (n:=(i:Int)+j) aC aC,Ks aC aC,Int.fdiv_eq_ediv_of_nonneg _ aC];have:((i:Int)+j)/2=(((i+j)/2:Nat):Int):=by omega
 rw[this,gD aC aC]
theorem Mv{k:List VV->List VV}{l:List (List VV)}(hs:P7 k l){j:Nat}{x y:List VV}(hij:i<j)(hx:l[i]? =some x)(hy:l[j]? =some y):cL (k x) (k y)<0:=by
 obtain⟨h1,rfl⟩:=List.getElem?_eq_some_iff.1 hx;obtain⟨h2,rfl⟩:=List.getElem?_eq_some_iff.1 hy;exact List.pairwise_iff_getElem.1 hs i j h1 h2 hij
theorem Xz{k:List VV->List VV}{l:List (List VV)}{key:List VV}(hi:i<=l.length)(h1:∀j y,j<i->l[j]? =some y->cL (k y) key<0)(h2:∀j y,i<=j->l[j]? =some y->¬cL (k y) key<0):jT k l key=i:=by
 have e:jT k l key=(l.take i).countP (λy=>decide (cL (k y) key<0))+(l.drop i).countP (λy=>decide (cL (k y) key<0)):=by
  rw[<-List.countP_append,List.take_append_drop];rfl
 have e1:(l.take i).countP (λy=>decide (cL (k y) key<0))=(l.take i).length:=List.countP_eq_length.2 λy hy=>by
  obtain⟨j,hj⟩:=List.getElem?_of_mem hy;rw[List.getElem?_take]at hj;split at hj
  .simpa using h1 j y (by assumption) hj
  .cases hj
 have e2:(l.drop i).countP (λy=>decide (cL (k y) key<0))=0:=List.countP_eq_zero.2 λy hy=>by
  obtain⟨j,hj⟩:=List.getElem?_of_mem hy;rw[List.getElem?_drop]at hj;simpa using h2 (i+j) y aC hj
 rw[e,e1,e2,List.length_take];omega
theorem Yw{x u:Sl}{bs bc:Nat}{v:dH}{c:Int}{a b:List VV}(e1:m bs=some (.cells ⟨bN.enc sc⟩ 29 (0,0)))(e2:m bc=some (.cells ⟨dH.enc v⟩ 84 (0,0)))(hs:dV h s sc)(ht:v.table=c)(hx:bB h x a)(hu:bB h u b)(hK:K (cI (cL (dK s c a) b)) m h):LO x u bs bc m h K:=
 ⟨sc,.lent _ _ _ e1 rfl,v.table,.lent _ _ _ e2 rfl,sc,s,v.table,x,a,rfl,hs,hx,λs' h'=>⟨s',u,_,_,rfl,h',hu,by rw[ht];exact hK⟩⟩
theorem K5:Sound Tryz.prog 73 NL:=by
 refine jK Tryz.func73 ?_;rintro cvs m h K ⟨s,r,rfl,hs,hr,hK⟩;refine⟨dL [] [] [] [] false,rfl,aF,Pa s m h K,by kernel_rfl,?_⟩;dsimp only[Pa,push_cast];obtain⟨⟨vs,h1,h2,h3⟩,hn⟩:=hs;exact⟨vs.map VV.enc,Bo vs,h1,by rw[List.length_map];omega,by rw[List.length_map];omega,λs h' le hr=>hK s h' le ⟨⟨vs,hr,h2,h3⟩,hn⟩⟩
theorem JG:Sound Tryz.prog 119 ZP:=by
 refine jK Tryz.func119 ?_;rintro cvs m h K ⟨s,t,a,b,rfl,ha,hb,hK⟩;refine⟨dL [(117,Hs)] [] [] [] false,rfl,aD nL aF,UG s t m h K,by kernel_rfl,?_⟩;exact⟨s,t,a,b,rfl,ha,hb,hK⟩
theorem RL:Sound Tryz.prog 121 Xg:=by
 refine jK Tryz.func121 ?_;rintro cvs m h K ⟨sc,v,s,c,rfl,hs,hc,hK⟩;refine⟨dL [(118,Dh)] [] [] [] false,rfl,aD wM aF,LP sc v m h K,by kernel_rfl,?_⟩;dsimp only[LP,push_cast];have ho:=aR.slen hc.old_;refine aE (λa=>⟨sc,s,v.table,v.old,c.old,rfl,hs,hc.old_,λs' h'=>hK s' ?_⟩) (λa=>⟨sc,s,v.table,v.new,c.new,rfl,hs,hc.new_,λs' h'=>hK s' ?_⟩)
 .rw[kT,if_pos aC, <-hc.tab_];exact h'
 .rw[kT,if_neg aC, <-hc.tab_];exact h'
theorem Ub:Sound Tryz.prog 75 S9:=by
 refine jK Tryz.func75 ?_;rintro cvs m h K ⟨sc,v,s,c,mo,rfl,hs,hc,h1,h3,hK⟩;refine⟨XX sc v mo m h,rfl,aD Hg (aD wM (aD JG aF)),O9 sc v mo m h K,by kernel_rfl,?_⟩;dsimp only[O9,push_cast];have hl:=hs.tables.slen;obtain⟨et,ho,hn⟩:=hc;have hol:=aR.slen ho;have hnl:=aR.slen hn;have no:yW mo s c=false->K (cB false) m h:=λe=>by rw[e]at hK;exact hK
 have low:c.tab<0\/(s.tables.length:Int)<=c.tab->gY s c.tab=false:=λe=>by
  simp only[gY,Bool.and_eq_false_iff,decide_eq_false_iff_not];omega
 refine⟨λ_=>gY s c.tab=true/\(c.old.length≠0\/c.new.length≠0),aE (λa1=>no ?_) (λa1=>aE (λa2=>no ?_) (λa2=>aB (λa3=>aB (λa4=>no ?_) (λa4=>⟨(),⟨?_,Or.inr ?_⟩,MT⟩)) (λa3=>⟨(),⟨?_,Or.inl ?_⟩,MT⟩))),?_⟩
 .simp[yW,low aC]
 .simp[yW,low aC]
 .simp only[beq_iff_eq]at a3 a4;simp[yW,show c.old.length=0 by omega,show c.new.length=0 by omega]
 .simp only[gY,Bool.and_eq_true,decide_eq_true_eq];omega
 .simp only[beq_eq_false_iff_ne]at a4;omega
 .simp only[gY,Bool.and_eq_true,decide_eq_true_eq];omega
 .simp only[beq_eq_false_iff_ne]at a3;omega
 rintro _ ⟨b1,b2⟩
 have e1:yW mo s c=((c.old.length==0||mW mo s c.tab c.old)&&(c.new.length==0||mW mo s c.tab c.new)&&(c.old.length==0||c.new.length==0||cL (dK s c.tab c.old) (dK s c.tab c.new)==0)):=by
  have:(!(c.old.length==0&&c.new.length==0))=true:=by
   rcases b2 with b2|b2<;>simp[b2]
  simp only[yW,b1,this,Bool.true_and]
 rw[e1]at hK no;have hv:v.table=c.tab:=et;refine⟨λ_=>(c.old.length==0||mW mo s c.tab c.old)=true/\(c.new.length==0||mW mo s c.tab c.new)=true,⟨λi=>i<=2/\(0<i->(c.old.length==0||mW mo s c.tab c.old)=true)/\(1<i->(c.new.length==0||mW mo s c.tab c.new)=true),λi=>2-i,⟨0,⟨aC,λe=>by omega,λe=>by omega⟩,MT⟩,λi⟨hi,g1,g2⟩=>aE (λa1=>⟨aC,a1,aB (λa2=>?_) (λa2=>aB (λa3=>?_) (λa3=>trivial))⟩) (λa1=>⟨(),⟨g1 aC,g2 aC⟩,MT⟩)⟩,?_⟩
 .have:i=0:=by simp only[beq_iff_eq]at a2;omega
  subst this;have nx:(c.old.length==0||mW mo s c.tab c.old)=true->(0+1<=2/\(0<0+1->(c.old.length==0||mW mo s c.tab c.old)=true)/\(1<0+1->(c.new.length==0||mW mo s c.tab c.new)=true)):=λe=>⟨aC,λ_=>e,λe=>by omega⟩
  refine aE (λa4=>⟨sc,s,v.table,v.old,c.old,mo,rfl,hs,ho,h1,h3,aB (λa5=>no ?_) (λa5=>⟨1,nx ?_,by show(2-1:Nat)<2-0;omega,MT⟩)⟩) (λa4=>⟨1,nx ?_,by show(2-1:Nat)<2-0;omega,MT⟩)
  .rw[hv]at a5;simp only[Bool.not_eq_true']at a5;simp[a5,show c.old.length≠0 by omega]
  .rw[hv]at a5;simp only[Bool.not_eq_false']at a5;simp[a5]
  .simp[show c.old.length=0 by omega]
 .have:i=1:=by simp only[beq_iff_eq]at a3;omega
  subst this;have nx:(c.new.length==0||mW mo s c.tab c.new)=true->(1+1<=2/\(0<1+1->(c.old.length==0||mW mo s c.tab c.old)=true)/\(1<1+1->(c.new.length==0||mW mo s c.tab c.new)=true)):=λe=>⟨aC,λ_=>g1 aC,λ_=>e⟩
  refine aE (λa4=>⟨sc,s,v.table,v.new,c.new,mo,rfl,hs,hn,h1,h3,aB (λa5=>no ?_) (λa5=>⟨2,nx ?_,by show(2-2:Nat)<2-1;omega,MT⟩)⟩) (λa4=>⟨2,nx ?_,by show(2-2:Nat)<2-1;omega,MT⟩)
  .rw[hv]at a5;simp only[Bool.not_eq_true']at a5;simp[a5,show c.new.length≠0 by omega]
  .rw[hv]at a5;simp only[Bool.not_eq_false']at a5;simp[a5]
  .simp[show c.new.length=0 by omega]
 .rintro _ ⟨g1,g2⟩;rw[g1,g2,Bool.true_and,Bool.true_and]at hK;refine aB (λa1=>?_) (λa1=>aB (λa2=>?_) (λa2=>⟨sc,s,v.table,v.old,c.old,rfl,hs,ho,λs1 k1=>⟨sc,s,v.table,v.new,c.new,rfl,hs,hn,λs2 k2=>⟨s1,s2,_,_,rfl,k1,k2,?_⟩⟩⟩))
  .simp only[beq_iff_eq]at a1;rw[show c.old.length=0 by omega]at hK;exact hK
  .simp only[beq_iff_eq]at a2;rw[show(c.new.length==0)=true by rw[beq_iff_eq];omega,Bool.or_true,Bool.true_or]at hK;exact hK
  .simp only[beq_eq_false_iff_ne]at a1 a2;rw[show(c.old.length==0)=false by rw[beq_eq_false_iff_ne];omega,show(c.new.length==0)=false by rw[beq_eq_false_iff_ne];omega]at hK;rw[hv];exact hK
theorem RJ:Sound Tryz.prog 122 YL:=by
 refine jK Tryz.func122 ?_;rintro cvs m h K ⟨x,u,bs,bc,sc,v,s,c,a,b,rfl,e1,e2,hs,ht,hx,hu,hK⟩;refine⟨dL [(118,Dh),(117,Hs)] [] [] [] false,rfl,aD wM (aD nL aF),LO x u bs bc m h K,by kernel_rfl,?_⟩;exact Yw e1 e2 hs ht hx hu hK
theorem JF:Sound Tryz.prog 120 Xe:=by
 refine jK Tryz.func120 ?_;rintro cvs m h K ⟨s,u,g,caps,l,key,k,rfl,hs,hl,hk,hF,hK⟩;refine⟨Wv s u g caps m h,rfl,aF,LQ s u g caps m h K,by kernel_rfl,?_⟩;dsimp only[LQ,push_cast];have hsl:=aR.slen hs;refine⟨λx=>x.1<=x.2/\x.2<=l.length/\(∀j y,j<x.1->l[j]? =some y->cL (k y) key<0)/\∀j y,x.2<=j->l[j]? =some y->¬cL (k y) key<0,λx=>x.2-x.1,⟨(0,l.length),⟨by simp,by simp,λj y hj=>by omega,λj y hj hy=>by have:=(List.getElem?_eq_some_iff.1 hy).1;omega⟩,?_⟩,?_⟩
 .rw[hsl];exact MT
 rintro⟨i,j⟩ ⟨hij,hj,hlo,hhi⟩;dsimp only at hij hj hlo hhi;refine aE (λhlt=>?_) (λhge=>?_)
 .dsimp only at hlt⊢
  have hlt:i<j:=by omega
  rw[VI aC];have hk1:i<=(i+j)/2:=by omega
  have hk2:(i+j)/2<j:=by omega
  generalize (i+j)/2=n at hk1 hk2;have hx:l[n]? =some (l[n]'(by omega)):=List.getElem?_eq_getElem _;generalize l[n]'(by omega)=x at hx;obtain⟨b,o,e,ea,rd,he⟩:=aR.at hs hx;refine⟨b,o,ea,aC,aC,e,.imm rd,λz m' h'=>z=cL (k x) key/\m'=m/\h'=h,O4 (hF e x (List.mem_of_getElem? hx) he) λz m' h'⟨e1,e2,e3⟩=>⟨_,e1,rfl,e2,e3⟩,?_⟩;rintro _ _ _ ⟨rfl,rfl,rfl⟩;refine aE (λhc=>⟨(n+1,j),⟨by dsimp only;omega,hj,λj' y hj' hy=>?_,hhi⟩,by dsimp only;omega,?_⟩) (λhc=>⟨(i,n),⟨by dsimp only;omega,by dsimp only;omega,hlo,λj' y hj' hy hn=>?_⟩,by dsimp only;omega,?_⟩)
  .by_cases hjk:j'=n
   .subst hjk;rw[hx]at hy;cases hy;exact hc
   .exact BW (Mv hk (by dsimp only at hj';omega) hy hx) hc
  .rw[j5 aC];exact MT
  .by_cases hjk:j'=n
   .subst hjk;rw[hx]at hy;cases hy;exact hc hn
   .exact hc (BW (Mv hk (by dsimp only at hj';omega) hx hy) hn)
  .exact MT
 .dsimp only at hge⊢
  have:i=j:=by omega
  subst this;have ep:=Xz hj hlo hhi;rw[kV,ep]at hK;refine aE (λhlt=>?_) (λhge2=>?_)
  .have hil:i<l.length:=by omega
   have hx:l[i]? =some l[i]:=List.getElem?_eq_getElem hil;generalize l[i]=x at hx;obtain⟨b,o,e,ea,rd,he⟩:=aR.at hs hx;refine⟨b,o,ea,aC,aC,e,.imm rd,λz m' h'=>z=cL (k x) key/\m'=m/\h'=h,O4 (hF e x (List.mem_of_getElem? hx) he) λz m' h'⟨e1,e2,e3⟩=>⟨_,e1,rfl,e2,e3⟩,?_⟩;rintro _ _ _ ⟨rfl,rfl,rfl⟩;rw[List.getD_eq_getElem?_getD,hx,decide_eq_true hil,Bool.true_and]at hK;exact hK
  .rw[decide_eq_false (show¬i<l.length by omega),Bool.false_and]at hK;exact hK
def P4:Vc.Spec:=λcvs m h K=>∃sc u v s l c,cvs=[aS sc,cS u,R6 v]/\dV h s sc/\sD h c v/\Rows h u l/\P7 (dK s c.tab) l/\l.length<=100000/\c.new.length<=1000/\
 (lJ s l c=none->∀x,K (.tup [cS x,cB false]) m h)/\(∀l',lJ s l c=some l'->∀x h',PH.le h h'->Rows h' x l'->K (.tup [cS x,cB true]) m h')
noncomputable def XW(u:Sl)(h:PH):Ctx:=sY [(121,Xg),(120,Xe),(119,ZP),(73,NL)] []
 [(4,{A:=Nat×Nat×Bool×MH,st:=λ⟨b,i,f,m⟩=>cM 70 73 [(1,sv u),(5,pv b),(8,iv i),(9,bv f)] [] m h}),
  (5,{A:=Nat×Nat×Bool×Sl×Sl×MH,st:=λ⟨b,i,f,x,y,m⟩=>cM 70 73 [(1,sv u),(5,pv b),(8,iv i),(9,bv f),(10,sv x),(11,sv y)] [] m h}),
  (7,{A:=Nat×Sl×Sl×MH,st:=λ⟨b,x,y,m⟩=>cM 70 73 [(5,pv b),(10,sv x),(11,sv y)] [] m h}),
  (9,{A:=Sl×Sl×MH×PH,st:=λ⟨x,y,m,h⟩=>cM 70 73 [(10,sv x),(11,sv y)] [] m h})] [] [200003,200005,3095,4095,100061,100069,0] [] false
noncomputable abbrev iA(a:dH):List Value:=aJ (cJ a.table) (bV a.old) (aM a.new)
noncomputable abbrev jV(a:Nat×Nat×Bool×MH):Nat:=a.2.1
noncomputable abbrev ET(a:Nat×Nat×Bool×Sl×Sl×MH):Nat->Option Obj:=a.2.2.2.2.2
noncomputable abbrev xM(a:Nat×Sl×Sl×MH):Nat->Option Obj:=a.2.2.2
attribute [push_cast] iA jV ET xM
def Jk(sc:bN)(u:Sl)(v:dH)(m:MH)(h:PH)(K:CV->MH->PH->Prop):Prop:=
  gA (λb m1=>bY m h b->bG m m1 b (lP (eE sc) (eD sc)) 29->gA (λb1 m2=>bY m1 h b1->bG m1 m2 b1 (iA v) 84->∃(y:bN),aI m2 h b 0 (lP (eE y) (eD y))/\∃(y1:dH),aI m2 h b1 0 (iA y1)/\∃(s:bN)(v1:dH)(s1:jR)(c:sC),aA (aK (bJ y) (fB (iA y1))=aK (bJ s) (fB (iA v1))) (dV h s1 s) (sD h c v1/\∀(s2:Sl),bB h s2 (kT s1 c)->fR (λs3 u1=>IS (λg c1=>HW (λl k=>∃(k1:List VV->List VV),aA (dG u::aK (dG s2) (gL 122 (Array.mk (lP (U8 b 0) (U8 b1 0))))=dG s3::aK (dG u1) (gL g (Array.mk c1))) (Rows h s3 l) (aA (l.length<=8000000) (P7 k1 l) ((∀(x:Sl)(r:List VV),List.Mem r l->bB h x r->EV g 3 x u1 c1 m2 h (λz m3 h1=>aA (z=bR (cL (k1 r) k)) (m3=m2) (h1=h)))/\∃(I:Nat
 ×Nat×Bool×MH->Prop),gX m2 h b1 1 (λy2=>branch (!(kV k1 l k==decide (aH y2>0))) (aA (aI m2 h b1 1 (aM y2)) (aI m2 h b1 1 (aM y2)) (K (xP aT) m2 h)) (branch (kV k1 l k) (dA u (↑(jT k1 l k):Int) (λb2 o y3=>aI m2 h b2 (o+aZ (jT k1 l k) 1) (aM y3)/\∃(y4:Sl),aA (aI m2 h b1 1 (aM y4)) (aI m2 h b1 1 (aM y2)) (fR (λs4 t=>∃(a b3:List VV),aA (iG y3 y4=iG s4 t) (bB h s4 a) (aA (bB h t b3) (aI m2 h b1 1 (aM y2)) (branch (!(cL a b3==0)) (K (xP aT) m2 h) (∃(x:Nat×Nat×Bool×MH),aA (I x) (aL u) (aA (cN b1 x.1) (cF (jT k1 l k) (jV x)) (bT (wE (kV k1 l k) x.2.2.1) m2 x.2.2.2 h h))))))))) (aA (aI m2 h b1 1 (aM y2)) (aI m2 h b1 1 (aM y2)) (∃(x:Nat×Nat×Bool×MH),aA (I x) (aL u) (aA (cN b1 x.1)
 (cF (jT k1 l k) (jV x)) (bT (wE (kV k1 l k) x.2.2.1) m2 x.2.2.2 h h))))))/\∀(x:Nat×Nat×Bool×MH),I x->∃(I1:Nat×Nat×Bool×Sl×Sl×MH->Prop),aA (aA (cQ (↑(jV x):Int)) ((↑(jV x):Int)<=(↑(jV x):Int)) (aA (rS (↑(jV x):Int) u) (cQ (↑(jV x):Int)) (aA ((↑(jV x):Int)<=aH u) (u.len<=u.cap) (∀(s4:Sl),Hp 1 (cV u) (lE (jV x)) s4->∃(x1:Nat×Nat×Bool×Sl×Sl×MH),aA (I1 x1) (aL u) (aA (cN x.1 x1.1) (cF (jV x) x1.2.1) (aA (wE x.2.2.1 x1.2.2.1) (SV.at (At.val (Value.slice u.a (lE (jV x)) (lE (jV x))))=Ss x1.2.2.2.1) (aA (bA s4 x1.2.2.2.2.1) (x.2.2.2=ET x1) (bP h h)))))))) (cQ (↑(jV x):Int)) (aA ((↑(jV x):Int)<=aH u) (u.len<=u.cap) (∀(s4:Sl),Hp 1 (cV u) (lE (jV
 x)) s4->aA (cQ (↑(jV x):Int)) ((↑(jV x):Int)<=(↑(jV x):Int)) (rS (↑(jV x):Int) u/\∃(x1:Nat×Nat×Bool×Sl×Sl×MH),aA (I1 x1) (aL u) (aA (cN x.1 x1.1) (cF (jV x) x1.2.1) (aA (wE x.2.2.1 x1.2.2.1) (SV.at (At.val (Value.slice u.a (lE (jV x)) (lE (jV x))))=Ss x1.2.2.2.1) (aA (bA s4 x1.2.2.2.2.1) (x.2.2.2=ET x1) (bP h h)))))))/\∀(x1:Nat×Nat×Bool×Sl×Sl×MH),I1 x1->∃(I2:Nat×Sl×Sl×MH->Prop),branch x1.2.2.1 (aA (cQ (bC x1.2.1 1)) (bC x1.2.1 1<=aH u) (u.len<=u.cap/\∀(s4:Sl),Hp 1 (cV u) (bC x1.2.1 1).toNat s4->∃(x2:Nat×Sl×Sl×MH),aA (I2 x2) (cN x1.1 x2.1) (aA (bA x1.2.2.2.1 x2.2.1) (bA s4 x2.2.2.1) (bZ (ET x1) (xM x2) h h)))) (∃(x2:Nat×Sl×Sl×MH),aA (I2 x2) (cN x1.1 x2.1)
 (aA (bA x1.2.2.2.1 x2.2.1) (bA x1.2.2.2.2.1 x2.2.2.1) (bZ (ET x1) (xM x2) h h)))/\∀(x2:Nat×Sl×Sl×MH),I2 x2->∃(I3:Sl×Sl×MH×PH->Prop),gX (xM x2) h x2.1 2 (λy2=>sT (aH y2) 0 (gX (xM x2) h x2.1 2 (λy3=>EH y3 h (λs4 h1=>x2.2.1.cap=x2.2.1.len/\∃(x3:List (List Value)),aA (dU 1 x3) (bH h1 (cV x2.2.1) 1 x3) ((jJ (x2.2.1.a=Option.none)->hX (aM s4)=[]->∃(x4:Sl×Sl×MH×PH),aA (I3 x4) (bA x2.2.1 x4.1) (aA (bA x2.2.2.1 x4.2.1) (xM x2=mU x4.2) (bP h1 (mD x4.2))))/\(x2.2.1.a=Option.none\/(0:Nat)<1->aA (dD (x3.length+1) 24) (eF x3) (aY h1 1 (eR x3 (aM s4)) (λs5 h2=>∃(x4:Sl×Sl×MH×PH),aA (I3 x4) (bA s5 x4.1) (aA (bA x2.2.2.1 x4.2.1) (xM x2=mU x4.2) (bP h2 (mD
 x4.2)))))))))) (∃(x3:Sl×Sl×MH×PH),aA (I3 x3) (bA x2.2.1 x3.1) (aA (bA x2.2.2.1 x3.2.1) (xM x2=mU x3.2) (bP h (mD x3.2)))))/\∀(x3:Sl×Sl×MH×PH),I3 x3->BF (cQ (aH x3.1)) (aH x3.1<=aH x3.1) (rS (aH x3.1) x3.1) (pT x3.1=pT x3.1) (λx4=>rK (dU 1 x4) (bH (mD x3.2) (Sl.mk x3.1.a (pT x3.1) (pT x3.1)) 1 x4) (λy2=>aA (dU 1 y2) (sH (mU x3.2) (mD x3.2) (cV x3.2.1) 1 y2) ((jJ (x3.1.a=Option.none)->y2=[]->K (CV.tup (aK (CV.val (Value.slice x3.1.a (pT x3.1) (pT x3.1))) gF)) (mU x3.2) (mD x3.2))/\(x3.1.a=Option.none\/0<y2.length->aA (Ad x4 y2 24) (nC x4 y2.length) (aY (mD x3.2) 1 (x4++y2) (λs4 h1=>K (CV.tup (aK (dG s4) gF)) (mU x3.2) h1))))))))))))))
theorem acZ(x:Value):Vc.valOf Tryz.prog 3 [x]=x:=by kernel_rfl
theorem S6{g:Nat}{S:Vc.Spec}{x u:Sl}{caps:List Value}{z:Int}(hg:Sound Tryz.prog g S)(hS:∀K:CV->MH->PH->Prop,K (cI z) m h->S (cS x::cS u::caps.map .val) m h K):ZO Tryz.prog g 3 (cS x::cS u::caps.map .val) m h λy m' h'=>y=[.int .i64 z]/\m'=m/\h'=h:=
 Sound.fat (vs:=Sl.val x::Sl.val u::caps) hg (hS _ ⟨[.int .i64 z],(congrArg CV.val (acZ _)).symm,rfl,rfl,rfl⟩)
theorem bH.low{s s':Sl}(r:bH h s sz xs)(lo:Hp sz ⟨s.a,s.len,s.cap⟩ i s')(hi:i<=xs.length):bH h s' sz (xs.drop i):=by
 have h1:=r.len;have h2:=r.cap;refine⟨by rw[lo.len,List.length_drop, <-h1],?_,by rw[lo.len,lo.cap];show s.len-i<=s.cap-i;omega⟩;rcases r.row with e|⟨b,o,ha,k⟩
 .left;rw[e];simp
 .by_cases hc:s.cap=i
  .left;exact List.drop_eq_nil_of_le aC
  .right;refine⟨b,o+i*sz,by rw[lo.a_,if_neg hc,ha];by_cases hz:i*sz=0<;>simp[Addr.add,hz],λj e hj=>?_⟩;rw[List.getElem?_drop]at hj;have:=k (i+j) e hj;rw[show o+i*sz+j*sz=o+(i+j)*sz by rw[Nat.add_mul];omega];exact this
theorem Ol{s:Sl}{l:List (List VV)}(x:Rows h s l):s.len<=s.cap:=by
 obtain⟨⟨us,hr,_⟩,_⟩:=x;exact hr.cap
theorem Oj{s:Sl}{l:List (List VV)}(x:Rows h s l){n:Nat}(hn:n<=l.length):Rows h ⟨s.a,n,n⟩ (l.take n):=by
 obtain⟨⟨us,hr,h1,h2⟩,h3⟩:=x;have hr':=bH.cut hr n (by rw[List.length_map];omega);refine⟨⟨us.take n,by rw[List.map_take];exact⟨hr'.len,hr'.row,Nat.le_refl _⟩,by simp[h1],λi y e=>?_⟩,by simp;omega⟩;rw[List.getElem?_take]at e⊢
 split at e
 .rename_i hi;rw[if_pos hi];exact h2 i y e
 .cases e
theorem KH{s s':Sl}{l:List (List VV)}(x:Rows h s l){n:Nat}(lo:Hp 1 ⟨s.a,s.len,s.cap⟩ n s')(hn:n<=l.length):Rows h s' (l.drop n):=by
 obtain⟨⟨us,hr,h1,h2⟩,h3⟩:=x;refine⟨⟨us.drop n,by rw[List.map_drop];exact bH.low hr lo (by rw[List.length_map];omega),by simp[h1],λi y e=>?_⟩,by simp;omega⟩;rw[List.getElem?_drop]at e⊢
 exact h2 _ y e
theorem KG{h:PH}{s:Sl}{us vs:List Sl}{a b:List (List VV)}(hr:bH h s 1 (us.map eS++vs.map eS))(ea:a.length=us.length)(fa:∀(i:Nat) x,a[i]? =some x->∃v,us[i]? =some v/\bB h v x)(eb:b.length=vs.length)(fb:∀(i:Nat) x,b[i]? =some x->∃v,vs[i]? =some v/\bB h v x)(hl:a.length+b.length<=500000):Rows h s (a++b):=by
 refine⟨⟨us++vs,by rw[List.map_append];exact hr,by simp[ea,eb],λi x e=>?_⟩,by simp;omega⟩;rw[List.getElem?_append]at e⊢
 rw[ea]at e;split at e
 .rename_i hi;rw[if_pos hi];exact fa i x e
 .rename_i hi;rw[if_neg hi];exact fb _ x e
theorem Ua:Sound Tryz.prog 76 P4:=by
 refine VP Tryz.func76 ?_;rintro cvs m h K ⟨sc,u,v,s,l,c,rfl,hs,hc,hu,hk,hl,hn,hN,hY⟩;refine⟨XW u h,rfl,aD RL (aD JF (aD JG (aD K5 aF))),Jk sc u v m h (cH h K),by kernel_rfl,?_⟩;show Jk sc u v m h (cH h K);dsimp only[Jk,push_cast];intro b m1 hb1 hu1 b2 m2 hb2 hu2
 obtain⟨sub,hbm,hb2m⟩:Sub m m2/\m2 b=some (.cells ⟨bN.enc sc⟩ 29 (0,0))/\m2 b2=some (.cells ⟨dH.enc v⟩ 84 (0,0)):=by
  obtain⟨s1,n1⟩:=gJ (Sub.refl m) hb1 hu1;obtain⟨st,n2⟩:=gJ s1 hb2 hu2;have hbb:b≠b2:=λe=>by have:=hb2.m_;rw[<-e,hu1.at_]at this;cases this
  exact⟨st,by rw[hu2.other b hbb];exact hu1.at_,hu2.at_⟩
 clear hb1 hu1 hb2 hu2;have hsl:=aR.slen hu;have hcap:=Ol hu;have hol:=aR.slen hc.old_;have hnl:=aR.slen hc.new_;refine⟨sc,.of_m hbm rfl,v,.of_m hb2m rfl,sc,v,s,c,rfl,hs,hc,λs1 hs1=>⟨u,s1,122,[.pointer (some ⟨b,0,none⟩),.pointer (some ⟨b2,0,none⟩)],l,kT s c,dK s c.tab,rfl,hu,aC,hk,λx r _ hx=>S6 RJ λK hK=>⟨x,s1,b,b2,sc,v,s,c.tab,r,kT s c,rfl,hbm,hb2m,hs,hc.tab_,hx,hs1,hK⟩,?_⟩⟩
 have hA:lJ s l c=(if((kV (dK s c.tab) l (kT s c) !=decide (0<c.old.length))||(kV (dK s c.tab) l (kT s c)&&cL (l.getD (jT (dK s c.tab) l (kT s c)) []) c.old !=0))=true then none
  else some (l.take (jT (dK s c.tab) l (kT s c))++(if 0<c.new.length then[c.new]else[])++l.drop (if kV (dK s c.tab) l (kT s c)=true then jT (dK s c.tab) l (kT s c)+1 else jT (dK s c.tab) l (kT s c)))):=rfl
 have hil:=Qf (dK s c.tab) l (kT s c)
 have hfl:kV (dK s c.tab) l (kT s c)=true->jT (dK s c.tab) l (kT s c)<l.length:=λe=>by
  simp only[kV,Bool.and_eq_true,decide_eq_true_eq]at e;exact e.1
 generalize jT (dK s c.tab) l (kT s c)=i at hA hil hfl⊢
 generalize kV (dK s c.tab) l (kT s c)=f at hA hfl⊢
 generalize lJ s l c=A at hA hN hY;have ed:decide ((v.old.len:Int)>0)=decide (0<c.old.length):=decide_eq_decide.2 aC;have none_:A=none->∀x,cH h K (.tup [cS x,cB false]) m2 h:=λe x=>cH.sub sub (.refl _) (hN e x);refine⟨λz=>z.1=b2/\z.2.1=i/\z.2.2.1=f/\z.2.2.2=m2/\A=some (l.take i++(if 0<c.new.length then[c.new]else[])++l.drop (if f=true then i+1 else i)),⟨v.old,.of_m hb2m rfl,aB (λa1=>⟨.of_m hb2m rfl,.of_m hb2m rfl,none_ ?_ ⟨none,0,0⟩⟩) (λa1=>aB (λa2=>?_) (λa2=>⟨.of_m hb2m rfl,.of_m hb2m rfl,(b2,i,f,m2),⟨rfl,rfl,rfl,rfl,?_⟩,MT⟩))⟩,?_⟩
 .rw[ed]at a1;have a1:(f !=decide (0<c.old.length))=true:=a1;rw[hA,if_pos (by rw[a1,Bool.true_or])]
 .have hil:=hfl a2;obtain⟨x,hx⟩:∃x,l[i]? =some x:=⟨_,List.getElem?_eq_getElem hil⟩
  obtain⟨b3,o3,ux,ea,rd,hux⟩:=aR.at hu hx;have e1:l.getD i []=x:=by rw[List.getD_eq_getElem?_getD,hx];rfl
  rw[ed]at a1;have a1:(f !=decide (0<c.old.length))=false:=a1;rw[e1,a1,Bool.false_or,a2,Bool.true_and]at hA;refine⟨b3,o3,ea,aC,aC,ux,.imm rd,v.old,.of_m hb2m rfl,.of_m hb2m rfl,ux,v.old,x,c.old,rfl,hux,hc.old_,.of_m hb2m rfl,aB (λa3=>none_ ?_ ⟨none,0,0⟩) (λa3=>⟨(b2,i,f,m2),⟨rfl,rfl,rfl,rfl,?_⟩,MT⟩)⟩
  .rw[hA,if_pos (by simpa using a3)]
  .rw[hA,a2,if_neg (by rw[Bool.not_eq_true];simpa using a3)]
 .rw[ed]at a1;have a1:(f !=decide (0<c.old.length))=false:=a1;rw[hA,a1,a2,Bool.false_and,Bool.or_false,if_neg (by simp)]
 rintro⟨b',i',f',m'⟩ ⟨e1,e2,e3,e4,hS⟩;dsimp only at e1 e2 e3 e4;subst e1 e2 e3 e4;dsimp only;have tl:∀s2,Hp 1 ⟨u.a,u.len,u.cap⟩ i' s2->Rows h s2 (l.drop i'):=λs2 lo=>KH hu lo hil;refine⟨λz=>b'=z.1/\i'=z.2.1/\f'=z.2.2.1/\⟨u.a,i',i'⟩=z.2.2.2.1/\Rows h z.2.2.2.2.1 (l.drop i')/\m'=z.2.2.2.2.2,⟨⟨aC,aC,aC,aC,aC,hcap,λs2 lo=>⟨(b',i',f',⟨u.a,i',i'⟩,s2,m'),⟨rfl,rfl,rfl,rfl,tl s2 lo,rfl⟩,MT⟩⟩,aC,aC,hcap,λs2 lo=>⟨aC,aC,aC,(b',i',f',⟨u.a,i',i'⟩,s2,m'),⟨rfl,rfl,rfl,rfl,tl s2 lo,rfl⟩,MT⟩⟩,?_⟩;rintro⟨_,_,_,_,y,_⟩ ⟨e1,e2,e3,e4,hy,e5⟩;dsimp only at e1 e2 e3 e4 hy e5;subst e1 e2 e3 e4 e5;dsimp only;refine⟨λz=>b'=z.1/\⟨u.a,i',i'⟩=z.2.1/\Rows h z.2.2.1 (l.drop (if f'=true then i'+1 else i'))/\m'=z.2.2.2,aB (λa1=>?_) (λa1=>⟨(b',⟨u.a,i',i'⟩,y,m'),⟨rfl,rfl,by rw[if_neg (by rw[a1];decide)];exact hy,rfl⟩,MT⟩),?_⟩
 .have hil2:=hfl a1;rw[j5 aC];refine⟨aC,aC,hcap,λs2 lo=>⟨(b',⟨u.a,i',i'⟩,s2,m'),⟨rfl,rfl,by rw[if_pos a1];exact KH hu lo aC,rfl⟩,MT⟩⟩
 rintro⟨_,_,y2,_⟩ ⟨e1,e2,hy2,e3⟩;dsimp only at e1 e2 hy2 e3;subst e1 e2 e3;dsimp only;have hd:Rows h ⟨u.a,i',i'⟩ (l.take i'):=Oj hu hil;refine⟨λz=>Rows z.2.2.2 z.1 (l.take i'++(if 0<c.new.length then[c.new]else[]))/\y2=z.2.1/\m'=z.2.2.1/\PH.le h z.2.2.2,⟨v.new,.of_m hb2m rfl,aE (λa1=>⟨v.new,.of_m hb2m rfl,v.new,c.new,rfl,hc.new_,hn,λs' h' le hs'=>?_⟩) (λa1=>⟨(⟨u.a,i',i'⟩,y2,m',h),⟨by rw[if_neg aC,List.append_nil];exact hd,rfl,rfl,.refl _⟩,MT⟩)⟩,?_⟩
 .obtain⟨us,hr,eu,fu⟩:=hd.ex;have hul:us.length=i':=by rw[<-eu,List.length_take];omega
  refine⟨rfl,us.map eS,o9 us,hr.mono le,λ_ e=>by simp at e,λ_=>⟨by rw[List.length_map];omega,by rw[List.length_map];omega,λs2 h2 le2 hr2=>⟨(s2,y2,m',h2),⟨?_,rfl,rfl,le.trans le2⟩,MT⟩⟩⟩;rw[if_pos aC];refine KG (vs:=[s']) hr2 eu (λi x e=>?_) rfl (λi x e=>?_) (by rw[List.length_take];simp;omega)
  .obtain⟨w,k1,k2⟩:=fu i x e;exact⟨w,k1,k2.mono (le.trans le2)⟩
  .cases i with
   |zero=>simp at e;subst e;exact⟨s',rfl,hs'.mono le2⟩
   |succ i=>simp at e
 rintro⟨x,_,_,hx⟩ ⟨hr1,e1,e2,le⟩;dsimp only at hr1 e1 e2 le;subst e1 e2;dsimp only;have hxl:=aR.slen hr1;have hxc:=Ol hr1
 have hsum:(l.take i'++(if 0<c.new.length then[c.new]else[])).length<=100001:=by
  rw[List.length_append,List.length_take];split<;>simp<;>omega
 have hdl:(l.drop (if f'=true then i'+1 else i')).length<=100000:=by rw[List.length_drop];omega
 have fin:∀x' h',PH.le hx h'->Rows h' x' (l.take i'++(if 0<c.new.length then[c.new]else[])++l.drop (if f'=true then i'+1 else i'))->cH h K (.tup [cS x',cB true]) m' h':=λx' h' le' hr=>cH.sub sub (le.trans le') (hY _ hS x' h' (le.trans le') hr);generalize l.take i'++(if 0<c.new.length then[c.new]else[])=hd1 at*
 generalize l.drop (if f'=true then i'+1 else i')=tl1 at*
 have hr1':Rows hx ⟨x.a,x.len,x.len⟩ hd1:=by
  have:=Oj hr1 (n:=x.len) aC
  rwa [List.take_of_length_le aC]at this
 have et:((x.len:Nat):Int).toNat=x.len:=rfl;rw[et];obtain⟨us,hru,eu,fu⟩:=hr1'.ex;obtain⟨vs,hrv,ev,fv⟩:=(hy2.mono le (λ_ _ e=>e.mono le)).ex;refine⟨aC,aC,aC,rfl,us.map eS,o9 us,hru,vs.map eS,o9 vs,.imm hrv,λ_ e=>?_,λ_=>⟨by rw[List.length_map,List.length_map];omega,by rw[List.length_map,List.length_map];omega,λs2 h2 le2 hr2=>fin s2 h2 le2 ?_⟩⟩
 .have:tl1=[]:=List.length_eq_zero_iff.1 (by rw[ev, <-List.length_map (f:=eS),e];rfl);exact fin ⟨x.a,x.len,x.len⟩ hx (.refl _) (by rw[this,List.append_nil];exact hr1')
 .exact KG hr2 eu (λi x e=>by obtain⟨w,k1,k2⟩:=fu i x e;exact⟨w,k1,k2.mono le2⟩) ev (λi x e=>by obtain⟨w,k1,k2⟩:=fv i x e;exact⟨w,k1,k2.mono le2⟩) aC
noncomputable def qL(mo:Int)(s:jR)(st:List (List (List VV)))(cs:List sC):List (List (List VV))×Int:=if p8 mo s st≠0 then([],p8 mo s st)else wR mo s st (cT st) cs
structure YW(m:MH)(h:PH)(w:Sl)(us:List Sl)(st:List (List (List VV))):Prop where
 len:w.len=us.length
 ulen:us.length=st.length
 rd:∀(i:Nat) u,us[i]? =some u->∃b o,w.a=some ⟨b,o,none⟩/\aI m h b (o+i*1) [Sl.val u]
 rows:∀(i:Nat) u l,us[i]? =some u->st[i]? =some l->Rows h u l
def Tf:Vc.Spec:=λcvs m h K=>∃w us st,cvs=[Xq w]/\YW m h w us st/\st.length<=1000/\K (cI (cT st)) m h
def oJ(h:PH)(s:Sl)(cs:List sC):Prop:=aR h 3 dH.enc (sD h) s cs
def Xm:Vc.Spec:=λcvs m h K=>∃sc mo sl ch s st cs,cvs=[aS sc,cI mo,Xq sl,cS ch]/\dV h s sc/\Leaves h sl st/\oJ h ch cs/\1<=mo/\mo<=3/\st.length<=1000/\
 ∀w h',PH.le h h'->Leaves h' w (qL mo s st cs).1->K (.tup [Xq w,cI (qL mo s st cs).2]) m h'
noncomputable def X8(mo:Int)(sc:bN)(sl ch:Sl):Ctx:=sY [(72,Hn),(73,NL),(74,Tf),(75,S9),(76,P4)]
 [(6,{A:=Nat×Sl×MH×PH,frz:=true,st:=λ⟨i,w,m,h⟩=>cM 115 119 [(1,iv mo),(3,sv ch),(4,.at (.ptr 4 0)),(8,.at (.ptr 8 0)),(11,.at (.ptr 11 0)),(35,sv sl),(36,iv sl.len),(37,iv i)] [(4,.cells 29 (sc.enc.map .val)),(8,.cells 38 [.val (.slice none 0 0)]),(11,.cells 38 [.val (.slice w.a w.len w.cap)])] m h}),
  (9,{A:=Nat×Sl×Nat×Sl×MH×PH,st:=λ⟨j,u,i,w,m,h⟩=>cM 115 119 [(1,iv mo),(3,sv ch),(4,.at (.ptr 4 0)),(8,.at (.ptr 8 0)),(11,.at (.ptr 11 0)),(12,iv i),(35,sv sl),(36,iv sl.len),(37,iv i),(42,sv u),(43,iv u.len),(44,iv j)] [(4,.cells 29 (sc.enc.map .val)),(8,.cells 38 [.val (.slice none 0 0)]),(11,.cells 38 [.val (.slice w.a w.len w.cap)])] m h}),
  (16,{A:=Nat×Int×Sl×MH×PH,st:=λ⟨i,n,w,m,h⟩=>cM 115 119 [(1,iv mo),(4,.at (.ptr 4 0)),(8,.at (.ptr 8 0)),(11,.at (.ptr 11 0)),(16,iv n),(65,sv ch),(66,iv ch.len),(67,iv i)] [(4,.cells 29 (sc.enc.map .val)),(8,.cells 38 [.val (.slice none 0 0)]),(11,.cells 38 [.val (.slice w.a w.len w.cap)])] m h})]
 [] [] [2036,1095,0] [] false
abbrev AF:Prop:=eQ (oQ 38 (Be WR))
abbrev kR(a b:Sl):Prop:=gO 38 (jX a) (jX b)
noncomputable abbrev nE(a:Nat×Sl×Nat×Sl×MH×PH):Nat:=a.2.2.1
noncomputable abbrev xR(a:Nat×Sl×Nat×Sl×MH×PH):Sl:=a.2.2.2.1
noncomputable abbrev pP(a:Nat×Sl×Nat×Sl×MH×PH):Nat->Option Obj:=mU a.2.2.2
noncomputable abbrev vP(a:Nat×Sl×Nat×Sl×MH×PH):Nat->Nat->Option Value:=mD a.2.2.2
noncomputable abbrev vQ(a:Nat×Int×Sl×MH×PH):Sl:=a.2.2.1
noncomputable abbrev pR(a:Nat×Int×Sl×MH×PH):Nat->Option Obj:=mU a.2.2
noncomputable abbrev qZ(a:Nat×Int×Sl×MH×PH):Nat->Nat->Option Value:=mD a.2.2
attribute [push_cast] AF kR nE xR pP vP vQ pR qZ
def Jm(sc:bN)(mo:Int)(sl ch:Sl)(m:MH)(h:PH)(K:CV->MH->PH->Prop):Prop:=
  kB (λv s=>Aj (λs1 s2=>∃(m1:Int),aA (bJ sc::aK (dY mo) (eU sl)=bJ v::aK (dY m1) (eU s1)) (dV h s v) (aA (Leaves h s1 s2) (AL s2) (aA (1<=m1) (m1<=3) (branch (p8 m1 s s2 !=0) (K (CV.tup (aK (fB fE) (dY (p8 m1 s s2)))) m h) (aA (cQ (aH sl)) (aH sl<=aH sl) (aA (kS (aH sl*24)) (kS (aH sl)) (fP (λs3 m2=>YI m m2 h s3 95 1 (List.replicate (pT sl) fE)->∃(I:Nat×Sl×MH×PH->Prop)(m3:Nat×Sl×MH×PH->Nat),(HB m2 h->∃(x:Nat×Sl×MH×PH),aA (I x) (aW mo) (aA (aL ch) (eP 4) (aA (eP 8) (eP 11) (aA (aL sl) (aX sl) (aA (bI x.1) (bO sc) (aA AF (kR s3 x.2.1) (Hq m2 h (mU x.2) (mD x.2)/\True)))))))/\∀(x:Nat×Sl×MH×PH),I x->bE (↑x.1:Int) (aH sl) (dA sl (↑x.1:
 Int) (λb o y=>aI (mU x.2) (mD x.2) b (o+aZ x.1 1) (aM y)/\∃(I1:Nat×Sl×Nat×Sl×MH×PH->Prop)(m4:Nat×Sl×Nat×Sl×MH×PH->Nat),(∃(x1:Nat×Sl×Nat×Sl×MH×PH),aA (I1 x1) (aW mo) (aA (aL ch) (eP 4) (aA (eP 8) (eP 11) (aA (cF x.1 (nE x1)) (aL sl) (aA (aX sl) (cF x.1 (nE x1)) (aA (bA y x1.2.1) (cO y x1.2.1) (aA (bI x1.1) (bO sc) (aA AF (kR x.2.1 (xR x1)) (bZ (mU x.2) (pP x1) (mD x.2) (vP x1))))))))))/\∀(x1:Nat×Sl×Nat×Sl×MH×PH),I1 x1->bE (↑x1.1:Int) (aH x1.2.1) (dA x1.2.1 (↑x1.1:Int) (λb1 o1 y1=>aI (pP x1) (vP x1) b1 (o1+aZ x1.1 1) (aM y1)/\dA (xR x1) (↑(nE x1):Int) (λb2 o2 y2=>aA (aI (pP x1) (vP x1) b2 (o2+aZ (nE x1) 1) (aM y2)) (aI
 (pP x1) (vP x1) b2 (o2+aZ (nE x1) 1) (aM y2)) (EH y1 (vP x1) (λs4 h1=>rK (aI (pP x1) h1 b2 (o2+aZ (nE x1) 1) (aM y2)) (aI (pP x1) h1 b2 (o2+aZ (nE x1) 1) (aM y2)) (λx2=>aA (cD (pP x1) (cV y2) 75 1 x2) (dD (x2.length+1) 24) (eF x2/\fP (λs5 m5=>eX (pP x1) m5 (cV y2) s5 75 1 (eR x2 (aM s4))->bK (λb3 o3=>aA (bL (xR x1).a b3 o3) (0<=(↑(nE x1):Int)) ((↑(nE x1):Int)<aH (xR x1)/\iE (λc E=>aA (wS m5 b3 (fN c E 0)) (o3+aZ (nE x1) 1<c.size) (∀(m6:MH),bG m5 m6 b3 (splice c.toList (o3+aZ (nE x1) 1) (aM s5)) E->∃(x3:Nat×Sl×Nat×Sl×MH×PH),aA (I1 x3) (m4 x3<m4 x1) (aA (aW mo) (aL ch) (aA (eP 4) (eP 8) (aA (eP 11) (cF (nE x1) (nE
 x3)) (aA (aL sl) (aX sl) (aA (cF (nE x1) (nE x3)) (bA x1.2.1 x3.2.1) (aA (cO x1.2.1 x3.2.1) (bD (gI (bC x1.1 1)) x3.1) (aA (bO sc) AF (bT (kR (xR x1) (xR x3)) m6 (pP x3) h1 (vP x3))))))))))))))))))))) (HB (pP x1) (vP x1)->∃(x2:Nat×Sl×MH×PH),aA (I x2) (m3 x2<m3 x) (aA (aW mo) (aL ch) (aA (eP 4) (eP 8) (aA (eP 11) (aL sl) (aA (aX sl) (bD (gI (bC (nE x1) 1)) x2.1) (aA (bO sc) AF (aA (kR (xR x1) x2.2.1) (Hq (pP x1) (vP x1) (mU x2.2) (mD x2.2)) True))))))))) (F1 (λw u=>∃(s4:List (List (List VV))),aA (eV (eU x.2.1) (eU w)) (YW (mU x.2) (mD x.2) w u s4) (AL s4/\∃(I1:Nat×Int×Sl×MH×PH->Prop)(m4:Nat×Int×Sl×MH×PH->Nat),(∃(x1:Nat×Int×Sl×MH×
 PH),aA (I1 x1) (aW mo) (aA (eP 4) (eP 8) (aA (eP 11) (nI (cT s4) x1.2.1) (aA (aL ch) (aX ch) (aA (bI x1.1) (bO sc) (aA AF (kR x.2.1 (vQ x1)) (bZ (mU x.2) (pR x1) (mD x.2) (qZ x1))))))))/\∀(x1:Nat×Int×Sl×MH×PH),I1 x1->bE (↑x1.1:Int) (aH ch) (bK (λb o=>aA (bL ch.a b o) (0<=(↑x1.1:Int)) ((↑x1.1:Int)<aH ch/\∃(y:dH),aI (pR x1) (qZ x1) b (o+aZ x1.1 3) (iA y)/\∃(s5:bN)(v1:dH)(s6:jR)(c:sC)(m5:Int),aA (bJ sc::aK (dY mo) (fB (iA y))=bJ s5::aK (dY m5) (fB (iA v1))) (dV (qZ x1) s6 s5) (aA (sD (qZ x1) c v1) (1<=m5) (m5<=3/\branch (!(yW m5 s6 c)) (K (CV.tup (aK (fB fE) (dY 71))) (pR x1) (qZ x1)) (dA (vQ x1) y.table (λb1 o1 y1=>aI (pR
 x1) (qZ x1) b1 (o1+eM y.table 1) (aM y1)/\∃(s7:bN)(u1:Sl)(v2:dH)(s8:jR)(l:List (List VV))(c1:sC),aA (bJ sc::aK (dG y1) (fB (iA y))=bJ s7::aK (dG u1) (fB (iA v2))) (dV (qZ x1) s8 s7) (aA (sD (qZ x1) c1 v2) (Rows (qZ x1) u1 l) (aA (P7 (dK s8 c1.tab) l) (l.length<=100000) (aA (jA c1.new) (lJ s8 l c1=Option.none->∀(_:Sl),K (CV.tup (aK (fB fE) (dY 81))) (pR x1) (qZ x1)) (∀(l1:List (List VV)),lJ s8 l c1=Option.some l1->lT (qZ x1) l1 (λx2 h1=>dA (vQ x1) y.table (λb2 o2 y2=>aI (pR x1) h1 b2 (o2+eM y.table 1) (aM y2)/\branch (decide (qO (x1.2.1+qO (aH x2-aH y2))>512)) (K (CV.tup (aK (fB fE) (dY 2))) (pR x1) h1) (bK (λb3 o3=>aA (bL (vQ x1).a b3 o3) (0<=
 y.table) (y.table<aH (vQ x1)/\iE (λc2 E=>aA (wS (pR x1) b3 (fN c2 E 0)) (o3+eM y.table 1<c2.size) (∀(m6:MH),bG (pR x1) m6 b3 (splice c2.toList (o3+eM y.table 1) (aM x2)) E->∃(x3:Nat×Int×Sl×MH×PH),aA (I1 x3) (m4 x3<m4 x1) (aA (aW mo) (eP 4) (aA (eP 8) (eP 11) (aA (nI (qO (x1.2.1+qO (aH x2-aH y2))) x3.2.1) (aL ch) (aA (aX ch) (bD (gI (bC x1.1 1)) x3.1) (aA (bO sc) AF (bT (kR (vQ x1) (vQ x3)) m6 (pR x3) h1 (qZ x3))))))))))))))))))))))))) (K (CV.tup (aK (eU (vQ x1)) (dY 0))) (pR x1) (qZ x1))))))))))))))
theorem PL{mo:Int}{c:sC}(h:yW mo s c=true)(hn:0<c.new.length):dK s c.tab c.new=kT s c:=by
 simp only[yW,Bool.and_eq_true,Bool.or_eq_true,beq_iff_eq]at h;obtain⟨_,h⟩:=h;unfold kT;split
 .rename_i ho;rcases h with(h|h)|h
  .omega
  .omega
  .exact(gR.1 h).symm
 .rfl
theorem JV{mo:Int}{c:sC}{l l':List (List VV)}(hok:yW mo s c=true)(hu:P7 (dK s c.tab) l)(e:lJ s l c=some l'):P7 (dK s c.tab) l'/\l'.length<=l.length+1:=by
 have hs:=Cg (key:=kT s c) hu;have hle:=Qf (dK s c.tab) l (kT s c);have hf:=CU (key:=kT s c) hu;unfold lJ at e;dsimp only at e;split at e
 .cases e
 cases e
 have hmid:∀y∈l.drop (if kV (dK s c.tab) l (kT s c)=true then jT (dK s c.tab) l (kT s c)+1 else jT (dK s c.tab) l (kT s c)),cL (kT s c) (dK s c.tab y)<0:=by
  intro y hy;have anti:=jP (kT s c) (dK s c.tab y);split at hy
  .rename_i h1;have h2:=h1;simp only[kV,Bool.and_eq_true,decide_eq_true_eq,beq_iff_eq]at h2;obtain⟨h2,h3⟩:=h2;rw[List.getD_eq_getElem?_getD,List.getElem?_eq_getElem h2]at h3;have h3:=gR.1 h3;have hp:List.Pairwise (λx y=>cL (dK s c.tab x) (dK s c.tab y)<0) (l.drop (jT (dK s c.tab) l (kT s c))):=List.Pairwise.sublist (List.drop_sublist _ l) hu;rw[List.drop_eq_getElem_cons h2,List.pairwise_cons]at hp;have:=hp.1 y hy;rw[<-h3];exact this
  .rename_i h1;have h2:=hs.2 y hy;rcases Int.lt_or_eq_of_le h2 with h3|h3
   .omega
   .exact(h1 (hf.2 ⟨y,List.mem_of_mem_drop hy,gR.1 h3.symm⟩)).elim
 have hp:List.Pairwise (λx y=>cL (dK s c.tab x) (dK s c.tab y)<0) l:=hu;have hd:List.Pairwise (λx y=>cL (dK s c.tab x) (dK s c.tab y)<0) (l.drop (if kV (dK s c.tab) l (kT s c)=true then jT (dK s c.tab) l (kT s c)+1 else jT (dK s c.tab) l (kT s c))):=List.Pairwise.sublist (List.drop_sublist _ l) hp;have ht:List.Pairwise (λx y=>cL (dK s c.tab x) (dK s c.tab y)<0) (l.take (jT (dK s c.tab) l (kT s c))):=List.Pairwise.sublist (List.take_sublist _ l) hp;constructor
 .show List.Pairwise (λx y=>cL (dK s c.tab x) (dK s c.tab y)<0) _;rw[List.append_assoc,List.pairwise_append];refine⟨ht,?_,λx hx y hy=>?_⟩
  .split
   .rename_i hn;rw[List.singleton_append,List.pairwise_cons];exact⟨λy hy=>by rw[PL hok hn];exact hmid y hy,hd⟩
   .rw[List.nil_append];exact hd
  .have h1:=hs.1 x hx;rcases List.mem_append.1 hy with hy|hy
   .split at hy
    .rename_i hn;rw[List.mem_singleton.1 hy,PL hok hn];exact h1
    .simp at hy
   .exact BW h1 (hmid y hy)
 .rw[List.length_append,List.length_append,List.length_take,List.length_drop];split<;>split<;>simp<;>omega
theorem count_cons(l:List (List VV))(st:List (List (List VV))):cT (l::st)=(l.length:Int)+cT st:=by simp[cT]
theorem count_set:∀{st:List (List (List VV))}{t:Nat}{l l':List (List VV)},st[t]? =some l->cT (st.set t l')=cT st+((l'.length:Int)-(l.length:Int))
 |[],t,l,l',h=>by simp at h
 |a::st,0,l,l',h=>by
  simp at h;subst h;rw[List.set_cons_zero,count_cons,count_cons];omega
 |a::st,t+1,l,l',h=>by
  rw[List.set_cons_succ,count_cons,count_cons,count_set (by simpa using h)];omega
theorem Fu:∀{st:List (List (List VV))}{t:Nat}{l:List (List VV)},st[t]? =some l->(l.length:Int)<=cT st
 |[],t,l,h=>by simp at h
 |a::st,0,l,h=>by
  simp at h;subst h
  have:0<=cT st:=by
   induction st with
   |nil=>simp[cT]
   |cons b st ih=>rw[count_cons];omega
  rw[count_cons];omega
 |a::st,t+1,l,h=>by
  have:=Fu (st:=st) (t:=t) (by simpa using h);rw[count_cons];omega
structure WU(s:jR)(st:List (List (List VV))):Prop where
 len:st.length=s.tables.length
 up:∀(j:Nat) l,st[j]? =some l->P7 (dK s j) l
 cnt:cT st<=512
theorem Kx{mo:Int}{st:List (List (List VV))}(h:p8 mo s st=0):cZ s=0/\WU s st:=by
 unfold p8 at h;split at h
 .exact absurd h (by assumption)
 rename_i h0;split at h
 .cases h
 rename_i h1;split at h
 .cases h
 rename_i h2;split at h
 .rename_i h3;refine⟨by simpa using h0,by simpa using h2,λj l hl=>?_,by unfold cT;omega⟩;have hlen:st.length=s.tables.length:=by simpa using h2
  have hjl:=(List.getElem?_eq_some_iff.1 hl).1;obtain⟨tb,htb⟩:∃tb,s.tables[j]? =some tb:=⟨_,List.getElem?_eq_getElem aC⟩
  have h4:=U0.of (h3 j tb l htb hl).2;show List.Pairwise (λx y=>cL (dK s j x) (dK s j y)<0) l;simp only[oF htb];exact h4
 .cases h
theorem WU.set{mo:Int}{st:List (List (List VV))}{c:sC}{l l':List (List VV)}(x:WU s st)(hok:yW mo s c=true)(h0:0<=c.tab)(hl:st[c.tab.toNat]? =some l)(e:lJ s l c=some l')(hn:cT st+((l'.length:Int)-(l.length:Int))<=512):WU s (st.set c.tab.toNat l'):=by
 have ht:((c.tab.toNat:Nat):Int)=c.tab:=Int.toNat_of_nonneg h0;refine⟨by rw[List.length_set];exact x.len,λj y hy=>?_,by rw[count_set hl];exact hn⟩;rw[List.getElem?_set]at hy;split at hy
 .rename_i hj;subst hj;split at hy
  .cases hy;have h1:=x.up _ _ hl;rw[ht]at h1⊢
   exact(JV hok h1 e).1
  .cases hy
 .exact x.up j y hy
theorem Oc{mo:Int}{st:List (List (List VV))}(h:p8 mo s st=0){j:Nat}{l:List (List VV)}(hl:st[j]? =some l){r:List VV}(hr:r∈l):r.length<=8:=by
 have h0:=(Kx h).1;unfold p8 at h;rw[if_neg (by simpa using h0)]at h;split at h
 .cases h
 split at h
 .cases h
 rename_i h2;split at h
 .rename_i h3;have hlen:st.length=s.tables.length:=by simpa using h2
  have hjl:=(List.getElem?_eq_some_iff.1 hl).1;obtain⟨tb,htb⟩:∃tb,s.tables[j]? =some tb:=⟨_,List.getElem?_eq_getElem aC⟩
  have h4:=((h3 j tb l htb hl).1 r hr)
  rw[(qP.1 h4).1];exact y8 h0 tb (List.mem_of_getElem? htb)
 .cases h
theorem WM{mo:Int}{c:sC}(h0:cZ s=0)(h:yW mo s c=true):gY s c.tab=true/\c.new.length<=8:=by
 simp only[yW,Bool.and_eq_true,Bool.or_eq_true,beq_iff_eq]at h;obtain⟨⟨⟨⟨ht,_⟩,_⟩,hn⟩,_⟩:=h;refine⟨ht,?_⟩;rcases hn with hn|hn
 .omega
 have ht2:=ht;simp only[gY,Bool.and_eq_true,decide_eq_true_eq]at ht2;obtain⟨tb,htb⟩:∃tb,s.tables[c.tab.toNat]? =some tb:=⟨_,List.getElem?_eq_getElem aC⟩
 rw[vY htb ht]at hn;rw[(qP.1 hn).1];exact y8 h0 tb (List.mem_of_getElem? htb)
theorem Jh(m:MH)(h:PH):Hq m h m h:=⟨λ_ _ e=>e,.refl _,λ_ _ _ e=>.inl e⟩
theorem AC{p:Prop}(h:p:=by repeat' (first|with_reducible rfl|exact trivial|assumption|refine⟨?_,?_⟩|rfl|(rw[j5 aC];done)|(rw[j5 aC]))):p:=h
theorem SN(us:List Sl):(us.map eS).flatten=us.map Sl.val:=by
 induction us with
 |nil=>rfl
 |cons u us ih=>rw[List.map_cons,List.flatten_cons,ih];rfl
theorem OG{w:Sl}{us:List Sl}(r:cD m w 95 1 (us.map eS))(hi:i<us.length):∃b cs,w.a=some ⟨b,0,none⟩/\m b=some (.cells cs 95 (0,0))/\0+i*1<cs.size/\
 ∀(m':MH)(v:Sl),eW m m' b (.cells ⟨splice cs.toList (0+i*1) [Sl.val v]⟩ 95)->cD m' w 95 1 ((us.set i v).map eS):=by
 rcases r.ex with⟨_,e⟩|⟨b,cap,cur,rfl,hm,k1,k2,k3,k4⟩
 .simp at e;subst e;simp at hi
 rw[List.length_map]at k1 k4;rw[SN]at k4;refine⟨b,cur,rfl,hm,aC,λm' v up=>⟨o9 _,.inr ⟨b,cap,_,by rw[List.length_map,List.length_map,List.length_set],up.at_,by rw[List.length_map,List.length_set];exact k1,k2,?_,?_⟩⟩⟩
 all_goals
  have hsp:splice cur.toList (0+i*1) [Sl.val v]=cur.toList.set i (Sl.val v):=by
   rw[List.set_eq_take_append_cons_drop,if_pos (by rw[Array.length_toList];omega)];simp only[splice,Nat.zero_add,Nat.mul_one,List.length_singleton,List.append_assoc];rfl
  rw[hsp]
 .simp only[List.length_set,List.size_toArray,Array.length_toList];exact k3
 .rw[List.length_map,List.length_set,SN,List.map_set, <-k4,List.take_set]
theorem Qy:Sound Tryz.prog 74 Tf:=by
 refine jK Tryz.func74 ?_;rintro cvs m h K ⟨w,us,st,rfl,hl,hn,hK⟩;refine⟨SR w m h,rfl,aF,Fm w m h K,by kernel_rfl,?_⟩;dsimp only[Fm,push_cast];have hsl:w.len=st.length:=hl.len.trans hl.ulen
 have hlens:∀l∈st,l.length<=502633886983:=λl hm=>by
  obtain⟨j,hj⟩:=List.mem_iff_getElem?.1 hm;have hjl:=(List.getElem?_eq_some_iff.1 hj).1;have:=hl.ulen;exact(hl.rows j _ l (List.getElem?_eq_getElem aC) hj).len
 refine⟨λz=>z.1<=st.length/\z.2=cT (st.take z.1),λz=>st.length-z.1,⟨(0,0),⟨by simp,by simp[cT]⟩,MT⟩,?_⟩;rintro⟨i,n⟩ ⟨hi,hn2⟩;dsimp only at hi hn2⊢
 subst hn2;refine aE (λhlt=>?_) (λhge=>?_)
 .obtain⟨l,hx⟩:=fS hsl hlt;have hjl:=(List.getElem?_eq_some_iff.1 hx).1;have hul0:=hl.ulen;obtain⟨u,hu⟩:∃u,us[i]? =some u:=⟨_,List.getElem?_eq_getElem aC⟩
  obtain⟨b,o,ea,rd⟩:=hl.rd i u hu;have hr:=hl.rows i u l hu hx;have hul:=aR.slen hr;have hb:=uL (l:=st.take (i+1)) λx hx=>hlens x (List.mem_of_mem_take hx);have hb2:=(uL (l:=st.take i) λx hx=>hlens x (List.mem_of_mem_take hx)).1;have hs:=JO hx;rw[List.length_take]at hb;refine⟨b,o,ea,aC,aC,u,rd,(i+1,cT (st.take (i+1))),⟨by show i+1<=st.length;omega,rfl⟩,by show st.length-(i+1)<st.length-i;omega,?_⟩;rw[gD aC aC,hul, <-hs];exact MT
 .rw[List.take_of_length_le aC];exact hK
structure Hr(m m1:MH)(h:PH)(w:Sl)(st:List (List (List VV)))(i k:Nat)(mz:MH)(hz:PH)(us:List Sl):Prop where
 len:us.length=st.length
 row:cD mz w 95 1 (us.map eS)
 key:∀b,m1 b≠none->mz b≠none
 sub:Sub m mz
 le:PH.le h hz
 done:∀(j:Nat) u l,j<i->us[j]? =some u->st[j]? =some l->Rows hz u l
 rest:∀(j:Nat) u,k<=j->us[j]? =some u->u=eC
theorem Rows.mono{s:Sl}{l:List (List VV)}(x:Rows h s l)(le:PH.le h h'):Rows h' s l:=aR.mono x le λ_ _ e=>e.mono le
theorem Hr.ice{m1:MH}{w:Sl}{st:List (List (List VV))}{mz:MH}{hz:PH}{us vs:List Sl}{c:Sl}{l:List (List VV)}(A:Hr m m1 h w st i (i+1) mz hz us)(s1:Sub m m1)(hw:∀b j,w.a=some ⟨b,j,none⟩->m1 b≠none)(d:HB mz hz)
 (hc:us[i]? =some c)(fc:zT m1 mz c 75 1 (vs.map eS))(hl:st[i]? =some l)(hvl:vs.length=l.length)(hll:l.length<=100000)(hvs:∀(k:Nat) r,l[k]? =some r->∃v,vs[k]? =some v/\bB hz v r):Hr m m1 h w st (i+1) (i+1) (BL m1 mz) (DQ m1 mz hz) us:=by
 have hk:∀b,m1 b≠none->BL m1 mz b=mz b:=λb hb=>by
  unfold BL;cases e:m1 b with
  |none=>exact absurd e hb
  |some o=>rfl
 have le1:=DP (m0:=m1) d;refine⟨A.len,cD.keep A.row λb j e=>hk b (hw b j e),λb hb=>by rw[hk b hb];exact A.key b hb,λb o e=>by rw[hk b (by rw[s1 b o e];simp)];exact A.sub b o e,A.le.trans le1,λj u y hj hu hy=>?_,A.rest⟩;by_cases hji:j=i
 .subst hji;rw[hc]at hu;cases hu;rw[hl]at hy;cases hy;exact⟨⟨vs,zT.ice fc,hvl.symm,λk r hr=>by obtain⟨v,e1,e2⟩:=hvs k r hr;exact⟨v,e1,e2.mono le1⟩⟩,aC⟩
 .exact(A.done j u y aC hu hy).mono le1
theorem Hr.step{m1:MH}{w:Sl}{st:List (List (List VV))}{my m2 m3:MH}{hy:PH}{us:List Sl}{c c':Sl}{cs:Array Value}{zs:List (List Value)}(A:Hr m m1 h w st i (i+1) my hy us)(s1:Sub m m1)(hw:∀b j,w.a=some ⟨b,j,none⟩->m1 b≠none/\m b=none)(le:PH.le hy h')
 (fc:zT m1 my c 75 1 xs)(g:eX my m2 c c' 75 1 zs)(hi:i<us.length)(hb:w.a=some ⟨b,0,none⟩)(up:eW m2 m3 b (.cells ⟨splice cs.toList (0+i*1) [Sl.val c']⟩ 95))(put:cD m3 w 95 1 ((us.set i c').map eS)):Hr m m1 h w st i (i+1) m3 h' (us.set i c')/\zT m1 m3 c' 75 1 zs:=by
 have hfr:∀x j,c'.a=some ⟨x,j,none⟩->m1 x=none:=λx j e=>by
  rcases g.fresh x j e with h1|⟨k,h1⟩
  .cases e2:m1 x with
   |none=>rfl
   |some o=>exact absurd h1 (A.key x (by rw[e2];simp))
  .exact fc.fresh x k h1
 have keep2:∀x o,m1 x≠none->my x=some o->m2 x=some o:=λx o hx e=>g.other x o e λj e2=>hx (fc.fresh x j e2);refine⟨⟨by rw[List.length_set];exact A.len,put,λx hx=>?_,λx o e=>?_,A.le.trans le,λj u l hj hu hl=>?_,λj u hj hu=>?_⟩,cD.keep g.row λx j e=>up.other x λe2=>?_,hfr⟩
 .by_cases e:x=b
  .subst e;rw[up.at_];simp
  .rw[up.other x e];cases e2:my x with
   |none=>exact absurd e2 (A.key x hx)
   |some o=>rw[keep2 x o hx e2];simp
 .have hxb:x≠b:=λe2=>by rw[e2,(hw b 0 hb).2]at e;cases e
  rw[up.other x hxb];exact keep2 x o (by rw[s1 x o e];simp) (A.sub x o e)
 .rw[List.getElem?_set_ne aC]at hu;exact(A.done j u l hj hu hl).mono le
 .rw[List.getElem?_set_ne aC]at hu;exact A.rest j u hj hu
 .subst e2;exact(hw x 0 hb).1 (hfr x j e)
structure aeZ(m:MH)(h:PH)(s:jR)(w:Sl)(n:Nat)(mz:MH)(hz:PH)(us:List Sl)(st:List (List (List VV))):Prop where
 len:us.length=st.length
 wlen:w.len=us.length
 row:cD mz w 95 1 (us.map eS)
 sub:Sub m mz
 le:PH.le h hz
 rows:∀(j:Nat) u l,us[j]? =some u->st[j]? =some l->Rows hz u l
 up:WU s st
theorem cH.ice{r:CV}(sub:Sub m m')(le:PH.le h h')(hK:HB m' h'->PH.le h (DQ m m' h')->K r m (DQ m m' h')):cH h K r m' h':=λhd=>by
 have d:HB m' h':=⟨hd⟩
 have le2:=le.trans (DP (m0:=m) d);refine⟨m,DQ m m' h',sub,le2,λb i v e=>?_,hK d le2⟩;unfold DQ at e;split at e
 .rename_i cs E fz h1 h2;exact .inr ⟨cs,E,fz,h2,e,h1⟩
 .exact .inl e
theorem Ui:Sound Tryz.prog 40 Xm:=by
 refine VP Tryz.func40 ?_;rintro cvs m h K ⟨sc,mo,sl,ch,s,st,cs,rfl,hs,hl,hc,h1,h3,hn,hK⟩;refine⟨X8 mo sc sl ch,rfl,aD Qz (aD K5 (aD Qy (aD Ub (aD Ua aF)))),Jm sc mo sl ch m h (cH h K),by kernel_rfl,?_⟩;show Jm sc mo sl ch m h (cH h K);dsimp only[Jm,push_cast];have hsl:=aR.slen hl;have hcl:=aR.slen hc;have hnil:∀hx,Leaves hx eC []:=λhx=>aR.nil hx 1 eS _
 have err:∀e mz hz,Sub m mz->PH.le h hz->qL mo s st cs=([],e)->cH h K (.tup [Xq eC,cI e]) mz hz:=λe mz hz sub le he=>by
  have:=hK eC hz le (by rw[he];exact hnil hz);rw[he]at this;exact cH.sub sub le this
 refine⟨sc,s,sl,st,mo,rfl,hs,hl,hn,h1,h3,aB (λe0=>?_) (λe0=>?_)⟩
 .exact err _ m h (Sub.refl m) (.refl _) (by unfold qL;rw[if_pos (by simpa using e0)])
 have e0:p8 mo s st=0:=by simpa using e0
 obtain⟨hs0,hup⟩:=Kx e0;have hE:qL mo s st cs=wR mo s st (cT st) cs:=by unfold qL;rw[if_neg (by simpa using e0)]
 refine⟨aC,aC,aC,aC,λw m1 hnew=>?_⟩;have hw:∀b j,w.a=some ⟨b,j,none⟩->m1 b≠none/\m b=none:=λb j e=>⟨by obtain⟨cur,e2⟩:=cD.blk hnew.row e;rw[e2];simp,(hnew.fresh b j e).m_⟩
 have s1:Sub m m1:=λb o e=>by
  rw[hnew.other b λj e2=>?_];exact e;rw[(hw b j e2).2]at e;cases e
 have hwl:w.len=st.length:=by rw[cD.slen hnew.row,List.length_replicate];omega
 have hr0:cD m1 w 95 1 ((List.replicate st.length eC).map eS):=by
  have:=hnew.row;rw[show((sl.len:Nat):Int).toNat=st.length by omega]at this;rw[List.map_replicate];exact this
 refine⟨λz=>w=z.2.1/\z.1<=st.length/\∃us,Hr m m1 h w st z.1 z.1 z.2.2.1 z.2.2.2 us,λz=>st.length-z.1,λ_=>⟨(0,w,m1,h),⟨rfl,Nat.zero_le _,List.replicate st.length eC,by simp,hr0,λb e=>e,s1,.refl _,λj u l hj=>by omega,λj u _ hu=>?_⟩,?_⟩,?_⟩
 .exact List.eq_of_mem_replicate (List.mem_of_getElem? hu)
 .have:=Jh m1 h;exact AC
 rintro⟨i,_,mz,hz⟩ ⟨rfl,hi,us,A⟩;dsimp only at hi A⊢
 refine aE (λhlt=>?_) (λhge=>?_)
 .obtain⟨l,hli⟩:=fS hsl hlt;have hil:=(List.getElem?_eq_some_iff.1 hli).1;obtain⟨b,o,y,ea,rd,hy⟩:=aR.at hl hli;have hyl:=aR.slen hy;have hlen:=A.len;obtain⟨c0,hc0⟩:∃c,us[i]? =some c:=⟨_,List.getElem?_eq_getElem aC⟩
  obtain rfl:=A.rest i c0 (Nat.le_refl _) hc0;have hll:l.length<=512:=by have h4:=Fu hli;have h5:=hup.cnt;omega
  refine⟨b,o,ea,aC,hlt,y,.imm (rd.mono A.le),λz=>y=z.2.1/\i=z.2.2.1/\w=z.2.2.2.1/\z.1<=l.length/\∃us c vs,Hr m m1 h w st i (i+1) z.2.2.2.2.1 z.2.2.2.2.2 us/\us[i]? =some c/\zT m1 z.2.2.2.2.1 c 75 1 (vs.map eS)/\vs.length=z.1/\∀(k:Nat) r,(l.take z.1)[k]? =some r->∃v,vs[k]? =some v/\bB z.2.2.2.2.2 v r,λz=>l.length-z.1,⟨(0,y,i,w,mz,hz),⟨rfl,rfl,rfl,Nat.zero_le _,us,eC,[],⟨A.len,A.row,A.key,A.sub,A.le,A.done,λj u hj hu=>A.rest j u aC hu⟩,hc0,zT.nil m1 mz 75 1,rfl,λk r e=>by simp at e⟩,MT⟩,?_⟩;rintro⟨j,_,_,_,my,hx⟩ ⟨rfl,rfl,rfl,hj,us2,c,vs,B,hc2,fc,hvl,hvs⟩;dsimp only at hj B hc2 fc hvl hvs⊢
  refine aE (λhlt2=>?_) (λhge2 D=>?_)
  .obtain⟨r,hr⟩:=fS hyl hlt2;have hjl:=(List.getElem?_eq_some_iff.1 hr).1;obtain⟨b2,o2,x,e2,rd2,hx2⟩:=aR.at hy hr;have hr8:=Oc e0 hli (List.mem_of_getElem? hr);have hblen:=B.len
   have rdw:∀hq,∃b3,w.a=some ⟨b3,0,none⟩/\aI my hq b3 (0+((i:Int)).toNat*1) [Sl.val c]:=λhq=>by
    obtain⟨b3,e3,rd3⟩:=B.row.rd (h:=hq) (i:=i) (e:=eS c) (by rw[List.getElem?_map,hc2];rfl);exact⟨b3,e3,by rw[Nat.zero_add];exact rd3⟩
   obtain⟨b3,e3,rd3⟩:=rdw hx
   have rd4:∀hq,aI my hq b3 (0+((i:Int)).toNat*1) [Sl.val c]:=λhq=>by
    obtain⟨b4,e4,rd4⟩:=rdw hq;rw[e3]at e4;cases e4;exact rd4
   refine⟨b2,o2,e2,aC,hlt2,x,.imm (rd2.mono B.le),b3,0,e3,aC,aC,c,rd3,rd3,x,r,rfl,hx2.mono B.le,aC,λs' h' le hs'=>⟨rd4 h',rd4 h',vs.map eS,fc.row,by rw[List.length_map];omega,by rw[List.length_map];omega,λc' m2 g=>?_⟩⟩
   have hrow2:cD m2 w 95 1 (us2.map eS):=cD.keep B.row λb5 k e5=>by
    obtain⟨cur,e6⟩:=cD.blk B.row e5;rw[e6];exact g.other b5 _ e6 λk2 e7=>(hw b5 k e5).1 (fc.fresh b5 k2 e7)
   obtain⟨b4,cs4,e4,hm4,hsz,put⟩:=OG hrow2 (i:=i) aC;refine⟨b4,0,e4,aC,aC,cs4,95,⟨hm4⟩,hsz,λm3 up=>?_⟩;obtain⟨B',fc'⟩:=B.step s1 hw le fc g aC e4 up (put m3 c' up);refine⟨(j+1,y,i,w,m3,h'),⟨rfl,rfl,rfl,by show j+1<=l.length;omega,us2.set i c',c',vs++[s'],B',by rw[List.getElem?_set_self aC],by rw[List.map_append];exact fc',by rw[List.length_append,hvl];rfl,?_⟩,by show l.length-(j+1)<l.length-j;omega,MT⟩;exact FY (R:=λr v=>bB hx v r) (R':=λr v=>bB h' v r) hj hvl hr hvs (λ_ _ e=>e.mono le) hs'
  .have hjl:j=l.length:=by omega
   subst hjl;rw[List.take_length]at hvs;have C:=B.ice s1 (λb j e=>(hw b j e).1) D hc2 fc hli hvl aC hvs;have fz:=KZ (m0:=m1) D;exact⟨(i+1,w,BL m1 my,DQ m1 my hx),⟨rfl,by show i+1<=st.length;omega,us2,C⟩,by show st.length-(i+1)<st.length-i;omega,AC⟩
 .have hist:i=st.length:=by omega
  subst hist;have hlen:=A.len;refine⟨w,us,st,rfl,⟨aC,A.len,λj u hu=>?_,λj u l hu hl=>A.done j u l (List.getElem?_eq_some_iff.1 hl).1 hu hl⟩,hn,?_⟩
  .obtain⟨b3,e3,rd3⟩:=A.row.rd (h:=hz) (i:=j) (e:=eS u) (by rw[List.getElem?_map,hu];rfl);exact⟨b3,0,e3,by rw[Nat.zero_add];exact rd3⟩
  refine⟨λz=>w=z.2.2.1/\z.1<=cs.length/\∃us stc,aeZ m h s w st.length z.2.2.2.1 z.2.2.2.2 us stc/\z.2.1=cT stc/\wR mo s stc (cT stc) (cs.drop z.1)=wR mo s st (cT st) cs,λz=>cs.length-z.1,⟨(0,cT st,w,mz,hz),⟨rfl,Nat.zero_le _,us,st,⟨A.len,aC,A.row,A.sub,A.le,λj u l hu hl=>A.done j u l (List.getElem?_eq_some_iff.1 hl).1 hu hl,hup⟩,rfl,by rw[List.drop_zero]⟩,MT⟩,?_⟩;clear A hlen us hi;rintro⟨k,n,_,my,hy⟩ ⟨rfl,hk,us,stc,A,rfl,hF⟩;dsimp only at hk A hF⊢
  have hlen:=A.len;have hwlen:=A.wlen;have hclen:=A.up.len;have hcnt:=A.up.cnt;have hcll:=hc.len;refine aE (λhlt=>?_) (λhge=>?_)
  .obtain⟨c,hck⟩:=fS hcl hlt;obtain⟨b,o,v,ea,rd,hv⟩:=aR.at hc hck;have hv':=hv.mono A.le;rw[drop_cons hck]at hF;refine⟨b,o,ea,aC,hlt,v,.imm (rd.mono A.le),sc,v,s,c,mo,rfl,hs.mono A.le,hv',h1,h3,aB (λe1=>?_) (λe1=>?_)⟩
   .have e1:yW mo s c=false:=by simpa using e1
    refine err 71 my hy A.sub A.le ?_;rw[hE, <-hF,wR,if_pos e1]
   have e1:yW mo s c=true:=by simpa using e1
   obtain⟨ht,hnew8⟩:=WM hs0 e1;simp only[gY,Bool.and_eq_true,decide_eq_true_eq]at ht;have htab:v.table=c.tab:=hv.tab_;obtain⟨l,hlc⟩:∃l,stc[c.tab.toNat]? =some l:=⟨_,List.getElem?_eq_getElem aC⟩
   obtain⟨u,huc⟩:∃u,us[c.tab.toNat]? =some u:=⟨_,List.getElem?_eq_getElem aC⟩
   have hul:=A.rows _ u l huc hlc;have hcl2:=Fu hlc;have hgd:stc.getD c.tab.toNat []=l:=by rw[List.getD_eq_getElem?_getD,hlc];rfl
   rw[wR,if_neg (by rw[e1];decide),hgd]at hF
   have hupk:P7 (dK s c.tab) l:=by
    have:=A.up.up _ _ hlc
    rwa [Int.toNat_of_nonneg ht.1]at this
   have rdw:∀hq,∃b3,w.a=some ⟨b3,0,none⟩/\aI my hq b3 (0+v.table.toNat*1) [Sl.val u]:=λhq=>by
    obtain⟨b3,e3,rd3⟩:=A.row.rd (h:=hq) (i:=c.tab.toNat) (e:=eS u) (by rw[List.getElem?_map,huc];rfl);exact⟨b3,e3,by rw[Nat.zero_add,htab];exact rd3⟩
   obtain⟨b3,e3,rd3⟩:=rdw hy;refine⟨b3,0,e3,aC,aC,u,rd3,sc,u,v,s,l,c,rfl,hs.mono A.le,hv',hul,hupk,aC,aC,λe2 _=>?_,λl' e2 x h' le hx=>?_⟩
   .refine err 81 my hy A.sub A.le ?_;rw[hE, <-hF,e2]
   rw[e2]at hF;dsimp only at hF;obtain⟨b4,e4,rd4⟩:=rdw h';have hxl:=aR.slen hx;have hu0:=aR.slen hul;have hl2:=(JV e1 hupk e2).2
   have hwr:IntKind.i64.wrap (cT stc+IntKind.i64.wrap ((x.len:Int)-(u.len:Int)))=cT stc+((l'.length:Int)-(l.length:Int)):=by
    rw[gD (n:=(x.len:Int)-(u.len:Int)) aC aC,gD aC aC];omega
   refine⟨b4,0,e4,aC,aC,u,rd4,?_⟩;refine aE (λe5=>?_) (λe5=>?_)
   .rw[hwr]at e5;refine err 2 my h' A.sub (A.le.trans le) ?_;rw[hE, <-hF,if_pos aC]
   rw[hwr]at e5⊢;rw[if_neg aC]at hF;obtain⟨b5,cs5,e6,hm5,hsz,put⟩:=OG A.row (i:=c.tab.toNat) aC;rw[<-htab]at hsz put;refine⟨b5,0,e6,aC,aC,cs5,95,⟨hm5⟩,hsz,λm3 up=>?_⟩;have hupd:=A.up.set e1 ht.1 hlc e2 aC;refine⟨(k+1,cT stc+((l'.length:Int)-(l.length:Int)),w,m3,h'),⟨rfl,by show k+1<=cs.length;omega,us.set c.tab.toNat x,stc.set c.tab.toNat l',⟨by rw[List.length_set,List.length_set];exact A.len,by rw[List.length_set];exact A.wlen,?_,λb6 o6 e7=>?_,A.le.trans le,λj u2 y2 hu2 hy2=>?_,hupd⟩,(count_set hlc).symm,by rw[count_set hlc];exact hF⟩,by show cs.length-(k+1)<cs.length-k;omega,MT⟩
   .have:=put m3 x up
    rwa [htab]at this
   .have:b6≠b5:=λe8=>by rw[e8,(hw b5 0 e6).2]at e7;cases e7
    show m3 b6=some o6;rw[up.other b6 this];exact A.sub b6 o6 e7
   .by_cases hj:c.tab.toNat=j
    .subst hj;rw[List.getElem?_set_self aC]at hu2 hy2;cases hu2;cases hy2;exact hx
    .rw[List.getElem?_set_ne hj]at hu2 hy2;exact(A.rows j u2 y2 hu2 hy2).mono le
  .have hkc:k=cs.length:=by omega
   subst hkc;rw[List.drop_length,wR]at hF;have hfin:qL mo s st cs=(stc,0):=by rw[hE, <-hF]
   refine cH.ice A.sub A.le λd le2=>?_;have le3:=DP (m0:=m) d;have fr:zT m my w 95 1 (us.map eS):=⟨A.row,λb j e=>(hw b j e).2⟩
   have:=hK w (DQ m my hy) le2 (by rw[hfin];exact⟨⟨us,zT.ice fr,A.len.symm,λj l hl=>by
    have hjl:j<stc.length:=(List.getElem?_eq_some_iff.1 hl).1;exact⟨_,List.getElem?_eq_getElem aC,(A.rows j _ l (List.getElem?_eq_getElem aC) hl).mono le3⟩⟩,by show stc.length<=_;omega⟩)
   rw[hfin]at this;exact this
structure Hz(h:PH)(w:Wr)(v:GN):Prop where
 cols_:Ints h v.columns w.cols
 bef_:Rows h v.before w.bef
 aft_:Rows h v.after w.aft
 befS:gP w.bef
 aftS:gP w.aft
 befL:w.bef.length<=8000000
 aftL:w.aft.length<=8000000
theorem Hz.mono{w:Wr}{v:GN}(x:Hz h w v)(le:PH.le h h'):Hz h' w v:=⟨x.cols_.mono le,x.bef_.mono le,x.aft_.mono le,x.befS,x.aftS,x.befL,x.aftL⟩
structure Se(h:PH)(d:Den)(v:FI):Prop where
 chg_:v.change=d.chg
 aft_:v.after=d.aft
 tab_:v.table=d.tab
 key_:bB h v.key d.key
 col_:v.column=d.col
theorem Se.mono{d:Den}{v:FI}(x:Se h d v)(le:PH.le h h'):Se h' d v:=⟨x.chg_,x.aft_,x.tab_,x.key_.mono le,x.col_⟩
def eB(b:Bool):List Value:=[.bool b]
structure fG(m0 m:MH)(h:PH)(b:Nat)(s:jR)(wr:Int->List Wr)(ds:List Den):Prop where
 sub:Sub m0 m
 new:m0 b=none
 ex:∃(sc:bN)(y:Nat)(d:Sl)(kvs:List (Int×Sl))(dvs:List FI),m b=some (.cells ⟨bN.enc sc++[.map (some y),Sl.val d]⟩ 111 (0,0))/\dV h s sc/\nU m y (kvs.map λp=>(Value.int .i64 p.1,Sl.val p.2))/\
  (∀t u,(t,u)∈kvs->aR h 3 GN.enc (Hz h) u (wr t))/\(∀t,(∀u,(t,u)∉kvs)->wr t=[])/\zT m0 m d 77 5 (dvs.map FI.enc)/\ds.length=dvs.length/\∀(i:Nat) x,ds[i]? =some x->∃v,dvs[i]? =some v/\Se h x v
def YX:Vc.Spec:=λcvs m h K=>∃v s t sl r,cvs=[aS v,cI t,cS sl]/\dV h s v/\bB h sl r/\r.length<=1000/\∀s' h',PH.le h h'->bB h' s' (dK s t r)->K (cS s') m h'
def W7:Vc.Spec:=λcvs m h K=>∃m0 b v c s wr ds,cvs=[cP b,R6 v]/\fG m0 m h b s wr ds/\sD h c v/\c.old.length<=1000/\c.new.length<=1000/\∀s' h',PH.le h h'->bB h' s' (qR s c)->K (cS s') m h'
def W9:Vc.Spec:=λcvs m h K=>∃s n l,cvs=[cS s,cI n]/\Ints h s l/\∀k:Int,(0<=k↔n∈l)->K (cI k) m h
def Zb:Vc.Spec:=λcvs m h K=>∃s n l,cvs=[cS s,cI n]/\Ints h s l/\K (cB (l.contains n)) m h
def W2:Vc.Spec:=λcvs m h K=>∃m0 b v c aft col s wr ds,cvs=[cP b,R6 v,cB aft,cI col]/\fG m0 m h b s wr ds/\sD h c v/\c.old.length<=1000/\c.new.length<=1000/\∀h',PH.le h h'->K (cB (gW (wr c.tab) (qR s c) aft col)) m h'
def Y9:Vc.Spec:=λcvs m h K=>∃m0 b i v c col u l s wr ds,cvs=[cP b,cI i,R6 v,cI col,cS u]/\fG m0 m h b s wr ds/\sD h c v/\c.old.length<=1000/\c.new.length<=1000/\aR h 1 eB Eq u l/\ds.length+l.length<=1000000/\
 ∀m' h',PH.le h h'->fG m0 m' h' b s wr (ds++l.map λa=>⟨i,a,c.tab,qR s c,col⟩)->K (.tup []) m' h'
def Tm:Vc.Spec:=λcvs m h K=>∃m0 b i v c s wr ds,cvs=[cP b,cI i,R6 v]/\fG m0 m h b s wr ds/\sD h c v/\c.old.length<=1000/\c.new.length<=1000/\(c.old≠[]->c.new≠[]->c.old.length=c.new.length)/\ds.length<=900000/\
 ∀m' h',PH.le h h'->fG m0 m' h' b s wr (ds++Km s (wr c.tab) i c)->K (.tup []) m' h'
noncomputable def Wk(s:Sl)(n:Int)(m:MH)(h:PH):Ctx:=dL [] [(2,{A:=Nat,st:=λi=>cM 19 21 [(0,sv s),(1,iv n),(7,iv s.len),(8,iv i)] [] m h})] [] [] false
noncomputable def Ws(b:Nat)(v:dH)(m:MH)(h:PH):Ctx:=sY [(154,YX),(125,NM)] [] [(4,{A:=Sl,st:=λu=>cM 22 24 [(0,pv b),(3,.at (.ptr 3 0)),(5,sv u)] [(3,.cells 84 (v.enc.map .val))] m h})] [] [0] [] false
noncomputable def XN(aft:Bool)(col:Int)(m:MH):Ctx:=sY [(126,W7),(127,Zb),(120,Xe)] [(3,{A:=Nat×Sl×Sl×PH,st:=λ⟨i,k,ws,h⟩=>cM 52 56 [(2,bv aft),(3,iv col),(9,sv k),(24,sv ws),(25,iv ws.len),(26,iv i)] [] m h})]
 [(3,{A:=Sl×Sl×PH,st:=λ⟨k,ws,h⟩=>cM 52 56 [(2,bv aft),(3,iv col),(9,sv k),(24,sv ws),(25,iv ws.len),(26,iv 0)] [] m h}),
  (6,{A:=Nat×Sl×Sl×GN×PH,st:=λ⟨i,k,ws,w,h⟩=>cM 52 56 [(2,bv aft),(3,iv col),(9,sv k),(11,.at (.ptr 11 0)),(24,sv ws),(25,iv ws.len),(26,iv i)] [(11,.cells 114 (w.enc.map .val))] m h}),
  (9,{A:=Nat×Sl×Sl×Sl×PH,st:=λ⟨i,k,ws,u,h⟩=>cM 52 56 [(2,bv aft),(3,iv col),(9,sv k),(12,sv u),(24,sv ws),(25,iv ws.len),(26,iv i)] [] m h})] [] [0] [] false
noncomputable def XM(b:Nat)(i col:Int)(v:dH)(u:Sl):Ctx:=sY [(126,W7)] [(2,{A:=Nat×MH×PH,st:=λ⟨k,m,h⟩=>cM 37 42 [(0,pv b),(1,iv i),(3,iv col),(7,.at (.ptr 7 0)),(12,sv u),(13,iv u.len),(14,iv k)] [(7,.cells 84 (v.enc.map .val))] m h})] [] [] [1046,0] [] false
noncomputable def X5(b:Nat)(i:Int)(v:dH):Ctx:=sY [(83,W2),(84,Y9)]
 [(2,{A:=Nat×MH×PH,st:=λ⟨k,m,h⟩=>cM 79 82 [(0,pv b),(1,iv i),(5,.at (.ptr 5 0)),(12,iv v.old.len),(13,iv k)] [(5,.cells 84 (v.enc.map .val))] m h}),
  (7,{A:=Nat×List Bool×Nat×MH×PH,st:=λ⟨j,l,k,m,h⟩=>cM 79 82 [(0,pv b),(1,iv i),(5,.at (.ptr 5 0)),(6,iv k),(7,.at (.lst 42)),(12,iv v.old.len),(13,iv k),(27,.at (.lst 27)),(28,iv 2),(29,iv j)] [(5,.cells 84 (v.enc.map .val)),(27,.lst 4 1 [eB false,eB true]),(42,.lst 4 1 (l.map eB))] m h})] [] [] [0] [] false
def LA(v:bN)(t:Int)(s:Sl)(m:MH)(h:PH)(K:CV->MH->PH->Prop):Prop:=
  xF v t h (λs1 t1=>branch (!(gY s1 t1)) (K uO m h) (Ak v t (λb o y=>aI m h b (o+eM t 5+2) (bR y)/\bE y 0 (K uO m h) (Ak v t (λb1 o1 y1=>aA (aI m h b1 (o1+eM t 5+2) (bR y1)) (0<=j9 s y1) (rS (j9 s y1) s/\∃(y2:List (List Value)),aA (dU 3 y2) (bH h (Sl.mk s.a (j9 s y1).toNat s.cap) 3 y2) (aA (dD (mC y2) 32) (w7 (mC y2)) (aY h 3 (Bz y2) (λs2 h1=>K (dG s2) m h1)))))))))
def Lz(s:Sl)(n:Int)(m:MH)(h:PH)(K:CV->MH->PH->Prop):Prop:=
  rB (λI x=>aA (I x) (aL s) (aA (aW n) (aX s) (bT (bI x) m m h h))) (λI m1 x=>I x->bE (↑x:Int) (aH s) (bK (λb o=>aA (bL s.a b o) (0<=(↑x:Int)) ((↑x:Int)<aH s/\∃(y:Int),aI m h b (o+aZ x 1) (bR y)/\branch (n==y) (K (dY (↑x:Int)) m h) (∃(x1:Nat),aA (I x1) (m1 x1<m1 x) (aA (aL s) (aW n) (aA (aX s) (bD (gI (bC x 1)) x1) (aA (m=m) (h=h) True))))))) (K (dY (Int.negSucc 0)) m h))
def LJ(s:Sl)(n:Int)(m:MH)(h:PH)(K:CV->MH->PH->Prop):Prop:=
  ∃(s1:Sl)(n1:Int)(l:List Int),aA (aK (dG s) (dY n)=aK (dG s1) (dY n1)) (Ints h s1 l) (∀(k:Int),(cQ k↔List.Mem n1 l)->K (yX (decide (k>=0))) m h)
def LK(b:Nat)(v:dH)(m:MH)(h:PH)(K:CV->MH->PH->Prop):Prop:=
  ∃(I:Sl->Prop),bQ (aH v.new) 0 (∃(x:Sl),aA (I x) (lC b) (aA dT (bA v.old x) (bT (lS v) m m h h))) (∃(x:Sl),aA (I x) (lC b) (aA dT (bA v.new x) (bT (lS v) m m h h)))/\∀(x:Sl),I x->∃(y:bN),aI m h b 0 (lP (eE y) (eD y))/\kB (λv1 s=>∃(t:Int),pA (λs1 r=>aA (bJ y::aK (dY v.table) (dG x)=bJ v1::aK (dY t) (dG s1)) (dV h s v1) (aA (bB h s1 r) (jA r) (gT (λs2 h1=>dZ h h1 (bB h1 s2 (dK s t r)) (aI m h1 b 0 (lP (eE y) (eD y))/\EH s2 h1 (λs3 h2=>aI m h2 b 0 (lP (eE y) (eD y))/\K (dG s3) m h2)))))))
abbrev yO(a:MH->Nat->Prop):Prop:=∃(x:MH)(x1:Nat),a x x1
abbrev yN(a:dH->sC->Prop):Prop:=∃(x:dH)(x1:sC),a x x1
abbrev yP(a:jR->(Int->List Wr)->(List Den)->Prop):Prop:=∃(x:jR)(x1:Int->List Wr)(x2:List Den),a x x1 x2
noncomputable abbrev Ae(a:dH):Value:=cJ a.table
noncomputable abbrev vL(a:Nat×Sl×Sl×GN×PH):Sl:=a.2.2.1
noncomputable abbrev EU(a:GN):List At:=dP (yY a.columns) (yY a.before) (jX a.after)
noncomputable abbrev E6(a:Nat×Sl×Sl×GN×PH):GN:=a.2.2.2.1
noncomputable abbrev vM(a:Nat×Sl×Sl×Sl×PH):Nat->Nat->Option Value:=a.2.2.2.2
attribute [push_cast] yO yN yP Ae vL EU E6 vM
def O6(b:Nat)(v:dH)(aft:Bool)(col:Int)(m:MH)(h:PH)(K:CV->MH->PH->Prop):Prop:=
  yO (λm1 b1=>yN (λv1 c=>yP (λs w d=>aA (aK (NP b 0) (fB (iA v))=aK (NP b1 0) (fB (iA v1))) (fG m1 m h b1 s w d) (aA (sD h c v1) (jA c.old) (jA c.new/\gT (λs1 h1=>dZ h h1 (bB h1 s1 (qR s c)) (∃(I:Sl×Sl×PH->Prop),(∃(y:Nat),aI m h1 b 2 (aU y)/\pL m y (λO=>j6 3 O) (λO=>O (Ae v)) (Ae v) (∃(x:Sl×Sl×PH),aA (I x) (eQ (MJ aft)) (aA (aW col) (bA s1 x.1) (aA (Zp=Ss x.2.1) (bI x.2.1.len) (aA (aW 0) (m=m) (bP h1 x.2.2))))) (λy1=>∃(x:Sl×Sl×PH),aA (I x) (eQ (MJ aft)) (aA (aW col) (bA s1 x.1) (aA (bA y1 x.2.1) (cO y1 x.2.1) (aA (aW 0) (m=m) (bP h1 x.2.2))))))/\∀(x:Sl×Sl×PH),I x->∃(I1:Nat×Sl×Sl×PH->Prop)(m2:Nat×Sl×Sl×PH->Nat),(∃(x1:Nat×Sl×Sl×PH),
 aA (I1 x1) (eQ (MJ aft)) (aA (aW col) (bA x.1 x1.2.1) (aA (bA x.2.1 (iZ x1)) (cO x.2.1 (iZ x1)) (aA (bI x1.1) (m=m) (bP x.2.2 (lV x1))))))/\∀(x1:Nat×Sl×Sl×PH),I1 x1->bE (↑x1.1:Int) (aH (iZ x1)) (bK (λb2 o=>aA (bL (iZ x1).a b2 o) (0<=(↑x1.1:Int)) ((↑x1.1:Int)<aH (iZ x1)/\∃(y:GN),aI m (lV x1) b2 (o+aZ x1.1 3) (aJ (bV y.columns) (bV y.before) (aM y.after))/\∃(I2:Nat×Sl×Sl×GN×PH->Prop),branch (decide (col>=0)) (∃(s2:Sl)(n:Int)(l:List Int),aA (aK (dG y.columns) (dY col)=aK (dG s2) (dY n)) (Ints (lV x1) s2 l) (branch (!(List.contains l n)) (∃(x2:Nat×Sl×Sl×PH),aA (I1 x2) (m2 x2<m2 x1) (aA (eQ (MJ aft)) (aW col) (aA (bA x1.2.1 x2.2.1) (bA (iZ x1) (iZ x2)) (aA (cO (iZ x1) (iZ
 x2)) (bD (gI (bC x1.1 1)) x2.1) (bZ m m (lV x1) (lV x2)))))) (∃(x2:Nat×Sl×Sl×GN×PH),aA (I2 x2) (eQ (MJ aft)) (aA (aW col) (bA x1.2.1 x2.2.1) (aA (eP 11) (bA (iZ x1) (vL x2)) (aA (cO (iZ x1) (vL x2)) (cF x1.1 x2.1) (bT (gO 114 (EU y) (EU (E6 x2))) m m (lV x1) x2.2.2.2.2))))))) (∃(x2:Nat×Sl×Sl×GN×PH),aA (I2 x2) (eQ (MJ aft)) (aA (aW col) (bA x1.2.1 x2.2.1) (aA (eP 11) (bA (iZ x1) (vL x2)) (aA (cO (iZ x1) (vL x2)) (cF x1.1 x2.1) (bT (gO 114 (EU y) (EU (E6 x2))) m m (lV x1) x2.2.2.2.2)))))/\∀(x2:Nat×Sl×Sl×GN×PH),I2 x2->∃(I3:Nat×Sl×Sl×Sl×PH->Prop),branch aft (∃(x3:Nat×Sl×Sl×Sl×PH),aA (I3 x3) (eQ (MJ aft)) (aA (aW col) (bA x2.2.1 x3.2.1) (aA (bA
 (E6 x2).after x3.2.2.2.1) (bA (vL x2) x3.2.2.1) (aA (cO (vL x2) x3.2.2.1) (cF x2.1 x3.1) (bZ m m x2.2.2.2.2 (vM x3)))))) (∃(x3:Nat×Sl×Sl×Sl×PH),aA (I3 x3) (eQ (MJ aft)) (aA (aW col) (bA x2.2.1 x3.2.1) (aA (bA (E6 x2).before x3.2.2.2.1) (bA (vL x2) x3.2.2.1) (aA (cO (vL x2) x3.2.2.1) (cF x2.1 x3.1) (bZ m m x2.2.2.2.2 (vM x3))))))/\∀(x3:Nat×Sl×Sl×Sl×PH),I3 x3->fR (λs2 u=>IS (λg c1=>HW (λl k=>∃(k1:List VV->List VV),aA (dG x3.2.2.2.1::aK (dG x3.2.1) (gL 117 oI)=dG s2::aK (dG u) (gL g (Array.mk c1))) (Rows (vM x3) s2 l) (aA (l.length<=8000000) (P7 k1 l) ((∀(x4:Sl)(r:List VV),List.Mem r l->bB (vM x3) x4 r->EV g 3 x4 u c1 m (vM x3) (λz m3 h2=>aA (z=bR (cL (k1 r) k))
 (m3=m) (h2=vM x3)))/\branch (kV k1 l k) (K gF m (vM x3)) (∃(x4:Nat×Sl×Sl×PH),aA (I1 x4) (m2 x4<m2 x1) (aA (eQ (MJ aft)) (aW col) (aA (bA x3.2.1 x4.2.1) (bA x3.2.2.1 (iZ x4)) (aA (cO x3.2.2.1 (iZ x4)) (bD (gI (bC x3.1 1)) x4.1) (bZ m m (vM x3) (lV x4)))))))))))))) (K aT m (lV x1)))))))))
def O5(b:Nat)(i:Int)(v:dH)(col:Int)(u:Sl)(m:MH)(h:PH)(K:CV->MH->PH->Prop):Prop:=
  AH (λI x=>aA (I x) (lC b) (aA (aW i) (aW col) (aA (eP 7) (aL u) (aA (aX u) (bI x.1) (bT (lS v) m (cC x) h (cE x)))))) (λI m1 x=>I x->bE (↑x.1:Int) (aH u) (bK (λb1 o=>aA (bL u.a b1 o) (0<=(↑x.1:Int)) ((↑x.1:Int)<aH u/\∃(y:Bool),aI (cC x) (cE x) b1 (o+aZ x.1 1) (rD y)/\∃(y1:Sl),aA (aI (cC x) (cE x) b 3 (aM y1)) (aI (cC x) (cE x) b 3 (aM y1)) (yO (λm2 b2=>yN (λv1 c=>yP (λs w d=>aA (aK (NP b 0) (fB (iA v))=aK (NP b2 0) (fB (iA v1))) (fG m2 (cC x) (cE x) b2 s w d) (aA (sD (cE x) c v1) (jA c.old) (jA c.new/\gT (λs1 h1=>dZ (cE x) h1 (bB h1 s1 (qR s c)) (rK (aI (cC x) h1 b 3 (aM y1)) (aI (cC x) h1 b 3 (aM y1)) (λx1=>aA (cD (cC
 x) (cV y1) 77 5 x1) (dD (x1.length+1) 56) (eF x1/\fP (λs2 m3=>eX (cC x) m3 (cV y1) s2 77 5 (eR x1 (aJ (cJ i) (Value.bool y) (aJ (Ae v) (bV s1) (bR col))))->iE (λc1 E=>aA (wS m3 b (fN c1 E 0)) (3<c1.size) (∀(m4:MH),bG m3 m4 b (splice c1.toList 3 (aM s2)) E->∃(x2:Nat×MH×PH),aA (I x2) (m1 x2<m1 x) (aA (lC b) (aW i) (aA (aW col) (eP 7) (aA (aL u) (aX u) (uW (bD (gI (bC x.1 1)) x2.1) (lS v) m4 (cC x2) h1 (cE x2))))))))))))))))))))) (K uX (cC x) (cE x)))
noncomputable abbrev AG(a:Nat)(b:Int)(c:dH)(d:Int)(e:Sl):List CV:=NP a 0::dY b::fB (iA c)::aK (dY d) (dG e)
noncomputable abbrev rA(a:Nat×List Bool×Nat×MH×PH):Nat:=a.2.2.1
noncomputable abbrev EW:List (List Value):=mA (l9 qG) (l9 sV)
noncomputable abbrev vE(a:Nat×List Bool×Nat×MH×PH):List (List Value):=List.map eB a.2.1
noncomputable abbrev xO(a:Nat×List Bool×Nat×MH×PH):Nat->Option Obj:=cC a.2.2
noncomputable abbrev xN(a:Nat×List Bool×Nat×MH×PH):Nat->Nat->Option Value:=cE a.2.2
attribute [push_cast] AG rA EW vE xO xN
def Pf(b:Nat)(i:Int)(v:dH)(m:MH)(h:PH)(K:CV->MH->PH->Prop):Prop:=
  bQ (aH v.old) 0 (yO (λm1 b1=>yN (λv1 c=>∃(a:Bool)(c1:Int),yP (λs w d=>aA (NP b 0::fB (iA v)::aK gF (dY (Int.negSucc 0))=NP b1 0::fB (iA v1)::aK (yX a) (dY c1)) (fG m1 m h b1 s w d) (aA (sD h c v1) (jA c.old) (jA c.new/\∀(h1:PH),PH.le h h1->branch (!(gW (w c.tab) (qR s c) a c1)) (aY h1 1 (hX (l9 sV)) (λs1 h2=>yO (λm2 b2=>∃(i1:Int),yN (λv2 c2=>∃(c3:Int)(u:Sl)(l:List Bool),yP (λs2 w1 d1=>aA (AG b i v (Int.negSucc 0) s1=AG b2 i1 v2 c3 u) (fG m2 m h2 b2 s2 w1 d1) (aA (sD h2 c2 v2) (jA c2.old) (aA (jA c2.new) (aR h2 1 eB Eq u l) (d1.length+l.length<=1000000/\oS (λm3 h3=>dZ h2 h3 (fG m2 m3 h3 b2 s2 w1 (d1++List.map (fun(a1:Bool)=>Den.mk i1 a1 c2.tab (qR s2 c2) c3)
 l)) (K uX m3 h3)))))))))) (K uX m h1))))))) (bQ (aH v.new) 0 (yO (λm1 b1=>yN (λv1 c=>∃(a:Bool)(c1:Int),yP (λs w d=>aA (NP b 0::fB (iA v)::aK aT (dY (Int.negSucc 0))=NP b1 0::fB (iA v1)::aK (yX a) (dY c1)) (fG m1 m h b1 s w d) (aA (sD h c v1) (jA c.old) (jA c.new/\∀(h1:PH),PH.le h h1->branch (!(gW (w c.tab) (qR s c) a c1)) (aY h1 1 (hX (l9 qG)) (λs1 h2=>yO (λm2 b2=>∃(i1:Int),yN (λv2 c2=>∃(c3:Int)(u:Sl)(l:List Bool),yP (λs2 w1 d1=>aA (AG b i v (Int.negSucc 0) s1=AG b2 i1 v2 c3 u) (fG m2 m h2 b2 s2 w1 d1) (aA (sD h2 c2 v2) (jA c2.old) (aA (jA c2.new) (aR h2 1 eB Eq u l) (d1.length+l.length<=1000000/\oS (λm3 h3=>dZ h2 h3 (fG m2 m3 h3 b2 s2 w1 (d1++List.map (fun
 (a1:Bool)=>Den.mk i1 a1 c2.tab (qR s2 c2) c3) l)) (K uX m3 h3)))))))))) (K uX m h1))))))) (AH (λI x=>aA (I x) (lC b) (aA (aW i) dJ (aA (aX v.old) (bI x.1) (aA (lS v) (m=cC x) (bP h (cE x)))))) (λI m1 x=>I x->bE (↑x.1:Int) (aH v.old) (bK (λb1 o=>aA (bL v.old.a b1 o) (0<=(↑x.1:Int)) ((↑x.1:Int)<aH v.old/\∃(y:VV),aI (cC x) (cE x) b1 (o+aZ x.1 3) y.enc/\bK (λb2 o1=>aA (bL v.new.a b2 o1) (0<=(↑x.1:Int)) ((↑x.1:Int)<aH v.new/\∃(y1:VV),aI (cC x) (cE x) b2 (o1+aZ x.1 3) y1.enc/\rN 58 y.enc y1.enc (λr=>branch r (∃(x1:Nat×MH×PH),aA (I x1) (m1 x1<m1 x) (aA (lC b) (aW i) (aA dJ (aX v.old) (aA (bD (gI (bC x.1 1)) x1.1) (lS v) (bZ (cC x) (cC x1) (cE x) (cE
 x1)))))) (∃(I1:Nat×List Bool×Nat×MH×PH->Prop)(m2:Nat×List Bool×Nat×MH×PH->Nat),(∃(x1:Nat×List Bool×Nat×MH×PH),aA (I1 x1) (lC b) (aA (aW i) dJ (aA (cF x.1 (rA x1)) (eL 42) (aA (aX v.old) (cF x.1 (rA x1)) (aA (eL 27) (aW 2) (aA (bI x1.1) (lS v) (aA (eQ (Option.some (Own.lst 4 1 EW))) (Option.some (Own.lst 4 1 [])=Option.some (Own.lst 4 1 (vE x1))) (aA (cC x=xO x1) (cE x=xN x1) True))))))))/\∀(x1:Nat×List Bool×Nat×MH×PH),I1 x1->bE (↑x1.1:Int) 2 (aA (cQ (↑x1.1:Int)) ((↑x1.1:Int)<2) (∃(e:List Value),tW EW (lE x1.1) e/\∃(y2:Bool),List.take 1 (List.drop 0 e)=rD y2/\yO (λm3 b3=>yN (λv1 c=>∃(a:Bool)(c1:Int),yP (λs w d=>aA (NP b 0::fB (iA v)::aK (yX y2) (dY
 (↑(rA x1):Int))=NP b3 0::fB (iA v1)::aK (yX a) (dY c1)) (fG m3 (xO x1) (xN x1) b3 s w d) (aA (sD (xN x1) c v1) (jA c.old) (jA c.new/\∀(h1:PH),PH.le (xN x1) h1->branch (!(gW (w c.tab) (qR s c) a c1)) (aA (dD ((vE x1).length+1) 1) (eF (vE x1)) (∃(x2:Nat×List Bool×Nat×MH×PH),aA (I1 x2) (m2 x2<m2 x1) (aA (lC b) (aW i) (aA dJ (cF (rA x1) (rA x2)) (aA (eL 42) (aX v.old) (aA (cF (rA x1) (rA x2)) (eL 27) (aA (aW 2) (bD (gI (bC x1.1 1)) x2.1) (aA (lS v) (eQ (Option.some (Own.lst 4 1 EW))) (aA (Option.some (Own.lst 4 1 (eR (vE x1) (rD y2)))=Option.some (Own.lst 4 1 (vE x2))) (xO x1=xO x2) (bP h1 (xN x2))))))))))) (∃(x2:Nat×List Bool×Nat×MH×PH),aA (I1 x2) (m2 x2<
 m2 x1) (aA (lC b) (aW i) (aA dJ (cF (rA x1) (rA x2)) (aA (eL 42) (aX v.old) (aA (cF (rA x1) (rA x2)) (eL 27) (aA (aW 2) (bD (gI (bC x1.1 1)) x2.1) (aA (lS v) (eQ (Option.some (Own.lst 4 1 EW))) (aA (Option.some (Own.lst 4 1 (vE x1))=Option.some (Own.lst 4 1 (vE x2))) (xO x1=xO x2) (bP h1 (xN x2))))))))))))))))) (aY (xN x1) 1 (vE x1) (λs h1=>yO (λm3 b3=>∃(i1:Int),yN (λv1 c=>∃(c1:Int)(u:Sl)(l:List Bool),yP (λs1 w d=>aA (AG b i v (↑(rA x1):Int) s=AG b3 i1 v1 c1 u) (fG m3 (xO x1) h1 b3 s1 w d) (aA (sD h1 c v1) (jA c.old) (aA (jA c.new) (aR h1 1 eB Eq u l) (d.length+l.length<=1000000/\oS (λm4 h2=>dZ h1 h2 (fG m3 m4 h2 b3 s1 w (d++List.map (fun(a:Bool)=>
 Den.mk i1 a c.tab (qR s1 c) c1) l)) (∃(x2:Nat×MH×PH),aA (I x2) (m1 x2<m1 x) (aA (lC b) (aW i) (aA dJ (aX v.old) (aA (bD (gI (bC (rA x1) 1)) x2.1) (lS v) (bZ m4 (cC x2) h2 (cE x2)))))))))))))))))))))) (K uX (cC x) (cE x)))))
theorem My:Tryz.prog.underlying 3=some (.int .i64):=by kernel_rfl
theorem Qt:KeyLaw Tryz.prog 3 (λv=>∃n,v= .int .i64 n):=by
 refine⟨⟨_,My⟩,?_,?_,?_⟩
 .rintro _ w b ⟨n,rfl⟩
  have e:∀k:Nat,(Instr.checkKey b (k+1) 3 (.int .i64 n)).run Tryz.prog w= .ok () w:=λk=>by
   unfold Instr.checkKey;simp only[Sem.run_bind,run_underlying My,Result.andThen];simp
  exact e 9999
 .rintro _ _ w ⟨a,rfl⟩ ⟨b,rfl⟩;refine⟨_,run_equalIn_int w 9999 3 .i64 .i64 a b My,?_⟩;simp
 .rintro d _ _ r hd ⟨a,rfl⟩ ⟨b,rfl⟩ h;rw[My]at hd;cases hd;simp only[Instr.sameNow,if_true,Option.some.injEq]at h;subst h;simp
theorem Yu{s:Sl}{n:Int}(hs:Ints h s l)(hK:K (cB (l.contains n)) m h):LJ s n m h K:=
 ⟨s,n,l,rfl,hs,λk hk=>sL hK (by
  cases e:l.contains n with
  |true=>rw[eq_comm,decide_eq_true_eq];exact hk.2 (List.contains_iff_mem.1 e)
  |false=>
   rw[eq_comm,decide_eq_false_iff_not];intro h2;have:n∈l:=hk.1 h2;rw[<-List.contains_iff_mem]at this;rw[this]at e;cases e)⟩
theorem Ry:Sound Tryz.prog 154 YX:=by
 refine jK Tryz.func154 ?_;rintro cvs m h K ⟨v,s,t,sl,r,rfl,hs,hr,hl,hK⟩;refine⟨dL [(113,UY)] [] [] [] false,rfl,aD wN aF,LA v t sl m h K,by kernel_rfl,?_⟩;dsimp only[LA,push_cast];have hrl:=aR.slen hr;have htl:=hs.tables.slen;have hnil:dK s t r=[]->K (.val (.slice none 0 0)) m h:=λe=>hK ⟨none,0,0⟩ h (.refl _) (by rw[e];exact aR.nil _ _ _ _);refine⟨v,s,t,rfl,hs,aB (λa1=>hnil ?_) (λa1=>?_)⟩
 .simp only[Bool.not_eq_true']at a1;simp[dK,a1]
 simp only[Bool.not_eq_false']at a1;have a2:=a1;simp only[gY,Bool.and_eq_true,decide_eq_true_eq]at a2;obtain⟨x,b,o,w,hx,ea,rd,hw⟩:=hs.table (t:=t) aC aC;have hkey:=hw.key;have e:dK s t r=r.take (max 0 (min x.key r.length)).toNat:=by simp only[dK,a1,if_true,hx];rfl
 refine⟨b,o,ea,aC,aC,w.key,.imm (bF.part rd 2 1),aE (λa3=>hnil ?_) (λa3=>?_)⟩
 .rw[e,show(max 0 (min x.key r.length)).toNat=0 by omega,List.take_zero]
 have hcap:sl.len<=sl.cap:=by obtain⟨⟨_,k,_⟩,_⟩:=hr;exact k.cap
 have en:(if(sl.len:Int)<w.key then(sl.len:Int)else w.key).toNat=(max 0 (min x.key r.length)).toNat:=by split<;>omega
 have hn:(max 0 (min x.key r.length)).toNat<=r.length:=by omega
 obtain⟨⟨vs,h1,h2,h3⟩,h4⟩:=bB.cut (a:=sl.a) (len:=sl.len) (cap:=sl.cap) hr hn;have hvl:vs.length<=1000:=by rw[<-h2,List.length_take];omega
 refine⟨b,o,ea,aC,aC,w.key,.imm (bF.part rd 2 1),by split<;>omega,by split<;>omega,vs.map VV.enc,Bo vs,by rw[en];exact h1,by rw[List.length_map];omega,by rw[List.length_map];omega,λs' h' le hri=>hK s' h' le ?_⟩;rw[e];exact⟨⟨vs,by simpa using hri,h2,h3⟩,h4⟩
theorem Rx:Sound Tryz.prog 155 W9:=by
 refine jK Tryz.func155 ?_;rintro cvs m h K ⟨s,n,l,rfl,hs,hK⟩;refine⟨Wk s n m h,rfl,aF,Lz s n m h K,by kernel_rfl,?_⟩;dsimp only[Lz,push_cast];have hsl:=hs.slen;have hl:=hs.len;refine⟨λi=>i<=l.length/\∀x∈l.take i,x≠n,λi=>l.length-i,⟨0,⟨aC,by simp⟩,MT⟩,λi⟨hi,hall⟩=>aE (λhlt=>?_) (λhge=>hK _ ⟨λe=>by omega,λe=>?_⟩)⟩
 .obtain⟨x,hx⟩:=fS hsl hlt;obtain⟨b,o,ea,rd⟩:=hs.at' hx;refine⟨b,o,ea,aC,hlt,x,.imm rd,aB (λe=>hK _ ⟨λ_=>?_,λ_=>by omega⟩) (λe=>⟨i+1,⟨aC,λy hy=>?_⟩,by show l.length-(i+1)<l.length-i;omega,MT⟩)⟩
  .rw[beq_iff_eq]at e;rw[e];exact List.mem_of_getElem? hx
  .rw[List.take_add_one,hx,List.mem_append]at hy;rcases hy with hy|hy
   .exact hall y hy
   .simp at hy;subst hy;rw[beq_eq_false_iff_ne]at e;exactλe2=>e e2.symm
 .rw[List.take_of_length_le aC]at hall;exact absurd rfl (hall n e)
theorem RH:Sound Tryz.prog 127 Zb:=by
 refine jK Tryz.func127 ?_;rintro cvs m h K ⟨s,n,l,rfl,hs,hK⟩;refine⟨dL [(155,W9)] [] [] [] false,rfl,aD Rx aF,LJ s n m h K,by kernel_rfl,?_⟩;exact Yu hs hK
theorem JC:Sound Tryz.prog 126 W7:=by
 refine jK Tryz.func126 ?_;rintro cvs m h K ⟨m0,b,v,c,s,wr,ds,rfl,hj,hc,h1,h2,hK⟩;refine⟨Ws b v m h,rfl,aD Ry (aD JE aF),LK b v m h K,by kernel_rfl,?_⟩;dsimp only[LK,push_cast];obtain⟨sc,y,d,kvs,dvs,hb,hs,_⟩:=hj.ex;have hnl:=aR.slen hc.new_;refine⟨λu=>bB h u (if c.new.length=0 then c.old else c.new),aB (λa1=>⟨v.old,?_,MT⟩) (λa1=>⟨v.new,?_,MT⟩),λu hu=>?_⟩
 .rw[if_pos (by simp only[beq_iff_eq]at a1;omega)];exact hc.old_
 .rw[if_neg (by simp only[beq_eq_false_iff_ne]at a1;omega)];exact hc.new_
 have rd:∀hq,aI m hq b 0 (bN.enc sc):=λhq=>.of_m hb rfl;have hlen:(if c.new.length=0 then c.old else c.new).length<=1000:=by split<;>omega
 have hk:(dK s c.tab (if c.new.length=0 then c.old else c.new)).length<=1000:=by
  unfold dK;split
  .unfold wU;rw[List.length_take];omega
  .simp
 exact⟨sc,rd h,sc,s,v.table,u,_,rfl,hs,hu,hlen,λs1 h1 le1 k1=>⟨rd h1,s1,_,rfl,by rw[hc.tab_]at k1;exact k1,hk,λs2 h2 le2 k2=>⟨rd h2,hK s2 h2 (le1.trans le2) k2⟩⟩⟩
theorem TQ{l:List (List VV)}{key:List VV}(hs:gP l):kV (λr=>r) l key=Qu l key:=by
 have hu:P7 (λr=>r) l:=hs;cases e:Qu l key with
 |true=>exact(CU hu).2 ⟨key,CS.1 e,rfl⟩
 |false=>
  rw[Bool.eq_false_iff];intro h2;obtain⟨r,hr,rfl⟩:=(CU hu).1 h2;rw[CS.2 hr]at e;cases e
theorem fG.look{m0:MH}{wr:Int->List Wr}{ds:List Den}{t:Int}{P0:Prop}{P:Sl->Prop}(hj:fG m0 m h b s wr ds)(le:PH.le h h')(h0:aR h' 3 GN.enc (Hz h') ⟨none,0,0⟩ (wr t)->P0)(hP:∀ws,aR h' 3 GN.enc (Hz h') ws (wr t)->P ws):
 ∃y,aI m h' b 2 [Value.map (some y)]/\∃(kvs:List (Value×Sl))(Ok:Value->Prop),nU m y (kvs.map λp=>(p.1,bV p.2))/\KeyLaw Tryz.prog 3 Ok/\Ok (.int .i64 t)/\(∀e,List.Mem e kvs->Ok e.1)/\((∀e,List.Mem e kvs->e.1=Value.int .i64 t->False)->P0)/\∀u,List.Mem (Value.int .i64 t,u) kvs->P u:=by
 obtain⟨sc,y,d,kvs,dvs,hb,_,hm,h1,h2,_⟩:=hj.ex;refine⟨y,.of_m hb rfl,kvs.map λp=>(Value.int .i64 p.1,p.2),_,by rw[List.map_map];exact hm,Qt,⟨t,rfl⟩,λe he=>?_,λhn=>h0 ?_,λu hu=>hP u ?_⟩
 .obtain⟨k,_,rfl⟩:=List.mem_map.1 (show e∈_ from he);exact⟨k.1,rfl⟩
 .rw[h2 t λu hu=>hn (Value.int .i64 t,u) (List.mem_map_of_mem (f:=λp:Int×Sl=>(Value.int .i64 p.1,p.2)) hu) rfl];exact aR.nil _ _ _ _
 .obtain⟨p,hp,e⟩:=List.mem_map.1 (show(Value.int .i64 t,u)∈_ from hu);simp only[Prod.mk.injEq,Value.int.injEq,true_and]at e;obtain⟨e1,e2⟩:=e;subst e1 e2;exact aR.mono (h1 _ _ hp) le λ_ _ x=>x.mono le
theorem TW:Sound Tryz.prog 83 W2:=by
 refine jK Tryz.func83 ?_;rintro cvs m h K ⟨m0,b,v,c,aft,col,s,wr,ds,rfl,hj,hc,h1,h2,hK⟩;refine⟨XN aft col m,rfl,aD JC (aD RH (aD JF aF)),O6 b v aft col m h K,by kernel_rfl,?_⟩;dsimp only[O6,push_cast];refine⟨m0,b,v,c,s,wr,ds,rfl,hj,hc,h1,h2,λk h' le hk=>?_⟩;have ht:=hc.tab_;refine⟨λz=>k=z.1/\h'=z.2.2/\aR h' 3 GN.enc (Hz h') z.2.1 (wr v.table),fG.look hj le (t:=v.table) (λhn=>⟨(k,⟨none,0,0⟩,h'),⟨rfl,rfl,hn⟩,MT⟩) (λws hws=>⟨(k,ws,h'),⟨rfl,rfl,hws⟩,MT⟩),?_⟩;rintro⟨_,ws,_⟩ ⟨rfl,rfl,hws⟩;dsimp only at hws⊢
 rw[ht]at hws;generalize wr c.tab=W at hK hws;generalize qR s c=key at hK hk;have hwl:=aR.slen hws;have hwlen:=hws.len;refine⟨λz=>k=z.2.1/\ws=z.2.2.1/\h'=z.2.2.2/\z.1<=W.length/\gW W key aft col=gW (W.drop z.1) key aft col,λz=>W.length-z.1,⟨(0,k,ws,h'),⟨rfl,rfl,rfl,Nat.zero_le _,by rw[List.drop_zero]⟩,MT⟩,?_⟩;rintro⟨i,_,_,_⟩ ⟨rfl,rfl,rfl,hi,hN⟩;dsimp only at hi hN⊢
 refine aE (λhlt=>?_) (λhge=>?_)
 .obtain⟨w,hx⟩:=fS hwl hlt;obtain⟨b1,o1,u,ea,rd,hu⟩:=aR.at hws hx;rw[drop_cons hx]at hN
  have next:(!((decide (col<0)||w.cols.contains col)&&Qu (if aft then w.aft else w.bef) key))=true->(i+1<=W.length/\gW W key aft col=gW (W.drop (i+1)) key aft col):=λe=>by
   refine⟨aC,?_⟩;rw[hN];rw[Bool.not_eq_true']at e;simp only[gW,List.any_cons,e,Bool.false_or]
  refine⟨b1,o1,ea,aC,hlt,u,.imm rd,λz=>z=(i,k,ws,u,h')/\(decide (col<0)||w.cols.contains col)=true,aE (λa1=>⟨u.columns,col,w.cols,rfl,hu.cols_,aB (λa2=>?_) (λa2=>⟨(i,k,ws,u,h'),⟨rfl,?_⟩,MT⟩)⟩) (λa1=>⟨(i,k,ws,u,h'),⟨rfl,?_⟩,MT⟩),?_⟩
  .obtain⟨n1,n2⟩:=next (by
    rw[Bool.not_eq_true']at a2;rw[decide_eq_false (show¬col<0 by omega),a2];rfl)
   exact⟨(i+1,k,ws,h'),⟨rfl,rfl,rfl,n1,n2⟩,by show W.length-(i+1)<W.length-i;omega,MT⟩
  .rw[Bool.not_eq_false']at a2;rw[a2,Bool.or_true]
  .rw[decide_eq_true (show col<0 by omega),Bool.true_or]
  rintro _ ⟨rfl,hcol⟩;dsimp only;refine⟨λz=>∃u2,z=(i,k,ws,u2,h')/\Rows h' u2 (if aft then w.aft else w.bef),aB (λa1=>⟨(i,k,ws,u.after,h'),⟨_,rfl,by rw[a1];exact hu.aft_⟩,MT⟩) (λa1=>⟨(i,k,ws,u.before,h'),⟨_,rfl,by rw[a1];exact hu.bef_⟩,MT⟩),?_⟩;rintro _ ⟨u2,rfl,hu2⟩;dsimp only
  have hso:gP (if aft then w.aft else w.bef):=by
   split
   .exact hu.aftS
   .exact hu.befS
  have hln:(if aft then w.aft else w.bef).length<=8000000:=by
   split
   .exact hu.aftL
   .exact hu.befL
  have yes:Qu (if aft then w.aft else w.bef) key=true->gW W key aft col=true:=λe=>by
   rw[hN];simp only[gW,List.any_cons,hcol,e,Bool.true_and,Bool.true_or]
  generalize (if aft then w.aft else w.bef)=l at hu2 hso hln next yes
  refine⟨u2,k,117,[],l,key,λr=>r,rfl,hu2,hln,hso,λx r _ hx2=>S6 nL λK hK=>⟨x,k,r,key,rfl,hx2,hk,hK⟩,?_⟩;rw[TQ hso];refine aB (λa1=>?_) (λa1=>?_)
  .have:=hK h' le;rw[yes a1]at this;exact this
  .obtain⟨n1,n2⟩:=next (by rw[a1,Bool.and_false];rfl)
   exact⟨(i+1,k,ws,h'),⟨rfl,rfl,rfl,n1,n2⟩,by show W.length-(i+1)<W.length-i;omega,MT⟩
 .have:i=W.length:=by omega
  subst this;rw[List.drop_length]at hN;have:=hK h' le;rw[hN]at this;exact this
theorem fG.deny{m0 m2:MH}{y:Nat}{wr:Int->List Wr}{ds:List Den}{d d':Sl}{kvs:List (Int×Sl)}{dvs:List FI}{nd:Den}{nv:FI}{cs:Array Value}{E:TypeId}(hj:fG m0 m h b s wr ds)(hb:m b=some (.cells ⟨bN.enc sc++[.map (some y),Sl.val d]⟩ 111 (0,0)))(hs:dV h s sc)(hm:nU m y (kvs.map λp=>(Value.int .i64 p.1,Sl.val p.2)))
 (h1:∀t u,(t,u)∈kvs->aR h 3 GN.enc (Hz h) u (wr t))(h2:∀t,(∀u,(t,u)∉kvs)->wr t=[])(fd:zT m0 m d 77 5 (dvs.map FI.enc))(hl:ds.length=dvs.length)(hd:∀(i:Nat) x,ds[i]? =some x->∃v,dvs[i]? =some v/\Se h x v)
 (le:PH.le h h')(g:eX m m' d d' 77 5 (dvs.map FI.enc++[nv.enc]))(hb2:m' b=some (.cells cs E (0,0)))(up:eW m' m2 b (.cells ⟨splice cs.toList 3 [Sl.val d']⟩ E))(hn:Se h' nd nv):fG m0 m2 h' b s wr (ds++[nd]):=by
 have nb:∀i,d.a≠some ⟨b,i,none⟩:=λi e=>by
  obtain⟨cur,e2⟩:=cD.blk fd.row e;rw[hb]at e2;simp only[Option.some.injEq,Obj.cells.injEq]at e2;exact absurd e2.2.1 (by decide)
 have e1:m' b=m b:=by rw[hb];exact g.other b _ hb nb
 rw[e1,hb]at hb2;simp only[Option.some.injEq,Obj.cells.injEq]at hb2;obtain⟨rfl,rfl,_⟩:=hb2;obtain⟨es,ck,hy,hes⟩:=hm.ex
 have ny:∀i,d.a≠some ⟨y,i,none⟩:=λi e=>by
  obtain⟨cur,e2⟩:=cD.blk fd.row e;rw[hy]at e2;cases e2
 have hyb:y≠b:=λe=>by rw[e,hb]at hy;cases hy
 have frx:∀x i,d'.a=some ⟨x,i,none⟩->x≠b/\m0 x=none:=λx i e=>by
  rcases g.fresh x i e with k|⟨j,k⟩
  .exact⟨λe2=>(by rw[e2,hb]at k;cases k),hj.sub.free k⟩
  .exact⟨λe2=>nb j (e2▸k),fd.fresh x j k⟩
 refine⟨λx o e=>?_,hj.new,sc,y,d',kvs,dvs++[nv],up.at_,hs.mono le,nU.keep hm ?_,λt u k=>aR.mono (h1 t u k) le λ_ _ x=>x.mono le,h2,⟨cD.keep ?_ λx i e=>up.other x (frx x i e).1,λx i e=>(frx x i e).2⟩,by simp[hl],λi x e=>?_⟩
 .have hxb:x≠b:=λe2=>by rw[e2,hj.new]at e;cases e
  rw[up.other x hxb];exact g.other x o (hj.sub x o e) λi e2=>by rw[fd.fresh x i e2]at e;cases e
 .rw[up.other y hyb,hy];exact g.other y _ hy ny
 .rw[List.map_append];exact g.row
 .rw[List.getElem?_append]at e⊢
  rw[hl]at e;split at e
  .rename_i hi;rw[if_pos hi];obtain⟨w,k1,k2⟩:=hd i x e;exact⟨w,k1,k2.mono le⟩
  .rename_i hi;rw[if_neg hi];cases e3:i-dvs.length with
   |zero=>rw[e3]at e;simp at e;subst e;exact⟨nv,rfl,hn⟩
   |succ n=>rw[e3]at e;simp at e
theorem R2{s:Sl}{l:List Bool}(x:bH h s 1 (l.map eB))(hl:l.length<=1000000):aR h 1 eB Eq s l:=⟨⟨l,x,rfl,λ_ v e=>⟨v,e,rfl⟩⟩,aC⟩
theorem fG.mono{m0:MH}{wr:Int->List Wr}{ds:List Den}(hj:fG m0 m h b s wr ds)(le:PH.le h h'):fG m0 m h' b s wr ds:=by
 obtain⟨e1,e2,sc,y,d,kvs,dvs,k1,k2,k3,k4,k5,k6,k7,k8⟩:=hj;exact⟨e1,e2,sc,y,d,kvs,dvs,k1,k2.mono le,k3,λt u k=>aR.mono (k4 t u k) le λ_ _ x=>x.mono le,k5,k6,k7,λi x e=>by obtain⟨w,q1,q2⟩:=k8 i x e;exact⟨w,q1,q2.mono le⟩⟩
theorem F9{α:Type}{D:Nat->List α}(hD:∀k,(D k).length<=2):∀n,((List.range n).flatMap D).length<=2*n
 |0=>by simp
 |n+1=>by
  have:=F9 hD n;have:=hD n;rw[List.range_succ,List.flatMap_append,List.length_append,List.flatMap_singleton];omega
theorem TV:Sound Tryz.prog 84 Y9:=by
 refine jK Tryz.func84 ?_;rintro cvs m h K ⟨m0,b,i,v,c,col,u,l,s,wr,ds,rfl,hj,hc,h1,h2,hu,hl,hK⟩;refine⟨XM b i col v u,rfl,aD JC aF,O5 b i v col u m h K,by kernel_rfl,?_⟩;dsimp only[O5,push_cast];have hul:=aR.slen hu;refine⟨λz=>z.1<=l.length/\PH.le h z.2.2/\fG m0 z.2.1 z.2.2 b s wr (ds++(l.take z.1).map λa=>⟨i,a,c.tab,qR s c,col⟩),λz=>l.length-z.1,⟨(0,m,h),⟨by simp,.refl _,by simpa using hj⟩,MT⟩,?_⟩;rintro⟨k,mz,hz⟩ ⟨hk,le,J⟩;dsimp only at hk le J⊢
 refine aE (λhlt=>?_) (λhge=>?_)
 .obtain⟨a,hx⟩:=fS hul hlt;obtain⟨b1,o1,_,ea,rd,rfl⟩:=aR.at hu hx;obtain⟨sc,y,d,kvs,dvs,hb,hs,hm,e1,e2,fd,e3,e4⟩:=J.ex;have r3:∀hq,aI mz hq b 3 [Sl.val d]:=λhq=>.of_m hb rfl;have hdl:dvs.length<=1000000:=by rw[<-e3,List.length_append,List.length_map,List.length_take];omega
  refine⟨b1,o1,ea,aC,hlt,a,.imm (rd.mono le),d,r3 hz,r3 hz,m0,b,v,c,s,wr,_,rfl,J,hc.mono le,h1,h2,λs' h' le' hs'=>⟨r3 h',r3 h',dvs.map FI.enc,fd.row,by rw[List.length_map];omega,by rw[List.length_map];omega,λd' m' g=>?_⟩⟩
  have hb2:m' b=some (.cells ⟨bN.enc sc++[.map (some y),Sl.val d]⟩ 111 (0,0)):=g.other b _ hb λj e=>by
   obtain⟨cur,e5⟩:=cD.blk fd.row e;rw[hb]at e5;simp only[Option.some.injEq,Obj.cells.injEq]at e5;exact absurd e5.2.1 (by decide)
  refine⟨_,111,⟨hb2⟩,by simp[bN.enc],λm2 up=>⟨(k+1,m2,h'),⟨by show k+1<=l.length;omega,le.trans le',?_⟩,by show l.length-(k+1)<l.length-k;omega,MT⟩⟩;have:=J.deny (nd:=⟨i,a,c.tab,qR s c,col⟩) (nv:=⟨i,a,v.table,s',col⟩) hb hs hm e1 e2 fd e3 e4 le' g hb2 up ⟨rfl,rfl,hc.tab_,hs',rfl⟩;rw[List.append_assoc]at this;show fG m0 m2 h' b s wr (ds++(l.take (k+1)).map _);rw[jL hx];exact this
 .rw[List.take_of_length_le aC]at J;exact hK mz hz le J
theorem Uf:Sound Tryz.prog 43 Tm:=by
 refine jK Tryz.func43 ?_;rintro cvs m h K ⟨m0,b,i,v,c,s,wr,ds,rfl,hj,hc,h1,h2,h3,hl,hK⟩;refine⟨X5 b i v,rfl,aD TW (aD TV aF),Pf b i v m h K,by kernel_rfl,?_⟩;dsimp only[Pf,push_cast];have hol:=aR.slen hc.old_;have hnl:=aR.slen hc.new_;unfold Km at hK;refine aB (λa1=>?_) (λa1=>aB (λa2=>?_) (λa2=>?_))
 .have a1:c.old.length=0:=by simp only[beq_iff_eq]at a1;omega
  rw[if_pos a1]at hK;refine⟨m0,b,v,c,true, -1,s,wr,ds,rfl,hj,hc,h1,h2,λh' le=>aB (λa3=>λs2 h4 le4 hr=>⟨m0,b,i,v,c, -1,s2,[true],s,wr,ds,rfl,hj.mono (le.trans le4),hc.mono (le.trans le4),h1,h2,R2 hr (by decide),by simp;omega,λm' h' le5 J=>hK m' h' (le.trans (le4.trans le5)) ?_⟩) (λa3=>hK m h' le ?_)⟩
  .rw[Bool.not_eq_true']at a3;rw[a3];exact J
  .rw[Bool.not_eq_false']at a3;rw[a3,if_pos rfl,List.append_nil];exact hj.mono le
 all_goals have a1:c.old.length≠0:=by simp only[beq_eq_false_iff_ne]at a1;omega
 all_goals rw[if_neg a1]at hK
 .have a2:c.new.length=0:=by simp only[beq_iff_eq]at a2;omega
  rw[if_pos a2]at hK;refine⟨m0,b,v,c,false, -1,s,wr,ds,rfl,hj,hc,h1,h2,λh' le=>aB (λa3=>λs2 h4 le4 hr=>⟨m0,b,i,v,c, -1,s2,[false],s,wr,ds,rfl,hj.mono (le.trans le4),hc.mono (le.trans le4),h1,h2,R2 hr (by decide),by simp;omega,λm' h' le5 J=>hK m' h' (le.trans (le4.trans le5)) ?_⟩) (λa3=>hK m h' le ?_)⟩
  .rw[Bool.not_eq_true']at a3;rw[a3];exact J
  .rw[Bool.not_eq_false']at a3;rw[a3,if_pos rfl,List.append_nil];exact hj.mono le
 have a2:c.new.length≠0:=by simp only[beq_eq_false_iff_ne]at a2;omega
 rw[if_neg a2]at hK;have h3:c.old.length=c.new.length:=h3 (λe=>a1 (by rw[e];rfl)) (λe=>a2 (by rw[e];rfl));generalize hD:(λj:Nat=>if P6 (c.old.getD j zeroV) (c.new.getD j zeroV)=true then[]else([false,true].filter λa=> !gW (wr c.tab) (qR s c) a j).map λa=>(⟨i,a,c.tab,qR s c,j⟩:Den))=D at hK
 have hDl:∀k,(D k).length<=2:=λk=>by
  subst hD;dsimp only;split
  .simp
  .rw[List.length_map];exact List.length_filter_le _ _
 have hDk:∀k,D k=if P6 (c.old.getD k zeroV) (c.new.getD k zeroV)=true then[]else([false,true].filter λa=> !gW (wr c.tab) (qR s c) a k).map λa=>(⟨i,a,c.tab,qR s c,k⟩:Den):=λk=>by rw[<-hD]
 clear hD;refine⟨λz=>z.1<=c.old.length/\PH.le h z.2.2/\fG m0 z.2.1 z.2.2 b s wr (ds++(List.range z.1).flatMap D),λz=>c.old.length-z.1,⟨(0,m,h),⟨by simp,.refl _,by simpa using hj⟩,MT⟩,?_⟩;rintro⟨k,mz,hz⟩ ⟨hk,le,J⟩;dsimp only at hk le J⊢
 have nextD:∀m2 h2,PH.le hz h2->fG m0 m2 h2 b s wr ((ds++(List.range k).flatMap D)++D k)->fG m0 m2 h2 b s wr (ds++(List.range (k+1)).flatMap D):=λm2 h2 _ x=>by
  rw[List.range_succ,List.flatMap_append,List.flatMap_singleton, <-List.append_assoc];exact x
 have hfl:=F9 hDl k;refine aE (λhlt=>?_) (λhge=>?_)
 .obtain⟨x,hx⟩:=fS hol hlt;obtain⟨x2,hx2⟩:=fS hnl (i:=k) aC;obtain⟨b1,o1,_,ea,rd,rfl⟩:=aR.at hc.old_ hx;obtain⟨b2,o2,_,ea2,rd2,rfl⟩:=aR.at hc.new_ hx2;have g1:c.old.getD k zeroV=x:=by rw[List.getD_eq_getElem?_getD,hx];rfl
  have g2:c.new.getD k zeroV=x2:=by rw[List.getD_eq_getElem?_getD,hx2];rfl
  have hDk:=hDk k;rw[g1,g2]at hDk;refine⟨b1,o1,ea,aC,hlt,x,.imm (rd.mono le),b2,o2,ea2,aC,aC,x2,.imm (rd2.mono le),_,H4 x x2,aB (λa3=>?_) (λa3=>?_)⟩
  .rw[if_pos a3]at hDk;exact⟨(k+1,mz,hz),⟨by show k+1<=c.old.length;omega,le,nextD mz hz (.refl _) (by rw[hDk,List.append_nil];exact J)⟩,by show c.old.length-(k+1)<c.old.length-k;omega,MT⟩
  rw[if_neg (by rw[a3];decide)]at hDk;generalize hN:(λa=> !gW (wr c.tab) (qR s c) a (k:Int))=N at hDk;have hNa:∀a,(!gW (wr c.tab) (qR s c) a (k:Int))=N a:=λa=>by rw[<-hN]
  refine⟨λz=>k=z.2.2.1/\mz=z.2.2.2.1/\PH.le hz z.2.2.2.2/\z.1<=2/\z.2.1=([false,true].take z.1).filter N,λz=>2-z.1,⟨(0,[],k,mz,hz),⟨rfl,rfl,.refl _,by simp,rfl⟩,MT⟩,?_⟩;rintro⟨j,lb,_,_,hy⟩ ⟨rfl,rfl,ley,hj2,hlb⟩;dsimp only at ley hj2 hlb⊢
  subst hlb;refine aE (λhlt2=>?_) (λhge2=>?_)
  .have hjj:j=0\/j=1:=by omega
   rcases hjj with rfl|rfl
   .refine⟨aC,aC,_,rfl,false,rfl,m0,b,v,c,false,k,s,wr,_,rfl,J.mono ley,hc.mono (le.trans ley),h1,h2,λh' le'=>?_⟩;rw[hNa];refine aB (λa4=>⟨by simp,by simp,(1,[false],k,mz,h'),⟨rfl,rfl,ley.trans le',by simp,by simp[a4]⟩,by show(2-1:Nat)<2-0;omega,MT⟩) (λa4=>⟨(1,[],k,mz,h'),⟨rfl,rfl,ley.trans le',by simp,by simp[a4]⟩,by show(2-1:Nat)<2-0;omega,MT⟩)
   .refine⟨aC,aC,_,rfl,true,rfl,m0,b,v,c,true,k,s,wr,_,rfl,J.mono ley,hc.mono (le.trans ley),h1,h2,λh' le'=>?_⟩;rw[hNa];have hfl2:(([false,true].take 1).filter N).length<=2:=Nat.le_trans (List.length_filter_le _ _) (by simp);refine aB (λa4=>⟨by rw[List.length_map];omega,by rw[List.length_map];omega,(2,([false,true].take 1).filter N++[true],k,mz,h'),⟨rfl,rfl,ley.trans le',by simp,?_⟩,by show(2-2:Nat)<2-1;omega,?_⟩) (λa4=>⟨(2,([false,true].take 1).filter N,k,mz,h'),⟨rfl,rfl,ley.trans le',by simp,?_⟩,by show(2-2:Nat)<2-1;omega,MT⟩)
    .show _=([false,true].take 2).filter N;rw[show[false,true].take 2=[false,true].take 1++[true]from rfl,List.filter_append];simp[a4]
    .dsimp only;rw[List.map_append];exact MT
    .show _=([false,true].take 2).filter N;rw[show[false,true].take 2=[false,true].take 1++[true]from rfl,List.filter_append];simp[a4]
  .have hj3:j=2:=by omega
   subst hj3;have hfl2:(([false,true].take 2).filter N).length<=2:=List.length_filter_le _ _;intro s2 h4 le4 hr;refine⟨m0,b,i,v,c,k,s2,([false,true].take 2).filter N,s,wr,_,rfl,J.mono (ley.trans le4),hc.mono (le.trans (ley.trans le4)),h1,h2,R2 hr aC,by rw[List.length_append];omega,λm' h' le5 J2=>⟨(k+1,m',h'),⟨by show k+1<=c.old.length;omega,le.trans (ley.trans (le4.trans le5)),nextD m' h' (ley.trans (le4.trans le5)) (by rw[hDk];exact J2)⟩,by show c.old.length-(k+1)<c.old.length-k;omega,MT⟩⟩
 .have hkk:k=c.old.length:=by omega
  subst hkk;exact hK mz hz le J
structure vW where
 kind:Int
 table:Int
 cols:List Int
 query:Query
structure UU(h:PH)(r:vW)(v:iO):Prop where
 kind_:v.kind=r.kind
 table_:v.table=r.table
 cols_:Ints h v.columns r.cols
 query_:fF h r.query v.query
theorem UU.mono{r:vW}{v:iO}(x:UU h r v)(le:PH.le h h'):UU h' r v:=⟨x.kind_,x.table_,x.cols_.mono le,x.query_.mono le⟩
structure jZ(h:PH)(p r:Sl)(ps:List Int)(rs:List vW):Prop where
 params:Ints h p ps
 rules:aR h 24 iO.enc (UU h) r rs
theorem jZ.mono{p:Sl}{rs:List vW}(x:jZ h p r ps rs)(le:PH.le h h'):jZ h' p r ps rs:=⟨x.params.mono le,aR.mono x.rules le λ_ _ y=>y.mono le⟩
def aaX(v:iO):CV:=.val (.agg ⟨v.enc⟩)
def ZJ(p r:Sl):CV:=.val (.agg ⟨[.slice p.a p.len p.cap,.slice r.a r.len r.cap]⟩)
def yC(n:Int):Int->List Int->Bool
 |_,[]=>true
 |l,c::cs=>decide (l<c)&&decide (c<n)&&yC n c cs
def pX(s:jR)(r:vW):Bool:=(r.kind==1||r.kind==2)&&gY s r.table&&(match s.tables[r.table.toNat]? with|some t=>yC t.columns.length (t.key-1) r.cols|none=>false)
def pC(s:jR)(t:Int):List Int:=match(if gY s t then s.tables[t.toNat]? else none)with|some tb=>if 0<=tb.key then(iB s t).take (min tb.key.toNat (iB s t).length)else[]|none=>[]
noncomputable def jI(s:jR)(ps:List Int)(r:vW):Int:=if pX s r=false then 160 else if(fC s ps r.query).2≠0 then(fC s ps r.query).2 else if(fC s ps r.query).1=pC s r.table then 0 else 160
noncomputable def sN(s:jR)(ps:List Int)(rs:List vW):Int:=if cZ s≠0 then cZ s else if 16<rs.length\/8<ps.length then 2 else if ps.all cA=false then 160 else jE (rs.map (jI s ps))
def P1:Vc.Spec:=λcvs m h K=>∃sc v s r,cvs=[aS sc,aaX v]/\dV h s sc/\UU h r v/\cZ s=0/\K (cB (pX s r)) m h
def Ml:Vc.Spec:=λcvs m h K=>∃v s t,cvs=[aS v,cI t]/\dV h s v/\uP s/\∀sl h',PH.le h h'->Ints h' sl (pC s t)->K (cS sl) m h'
def Mi:Vc.Spec:=λcvs m h K=>∃sc p r s ps rs,cvs=[aS sc,ZJ p r]/\dV h s sc/\jZ h p r ps rs/\∀h',PH.le h h'->K (cI (sN s ps rs)) m h'
def wC(ks:List Int)(vs:List VV):Bool:=decide (vs.length=ks.length)&&(List.range vs.length).all λi=>jD (vs.getD i zeroV)&&((vs.getD i zeroV).kind==ks.getD i 0)
def Tc:Vc.Spec:=λcvs m h K=>∃k v ks vs,cvs=[cS k,cS v]/\Ints h k ks/\bB h v vs/\K (cB (wC ks vs)) m h
noncomputable def X3(sc:bN)(v:iO)(m:MH)(h:PH):Ctx:=dL [] [(8,{A:=Nat×bS×Int,st:=λ⟨i,t,l⟩=>cM 56 58 [(5,.at (.ptr 5 0)),(6,iv l),(38,sv v.columns),(39,iv v.columns.len),(40,iv i)] [(5,.cells 74 (t.enc.map .val))] m h})] [(3,{A:=Unit,st:=λ_=>cM 56 58 [(2,.at (.ptr 2 0)),(3,.at (.ptr 3 0))] [(2,.cells 29 (sc.enc.map .val)),(3,.cells 70 (v.enc.map .val))] m h}),(6,{A:=bS,st:=λt=>cM 56 58 [(3,.at (.ptr 3 0)),(5,.at (.ptr 5 0))] [(3,.cells 70 (v.enc.map .val)),(5,.cells 74 (t.enc.map .val))] m h})] [] false
noncomputable def X9(k v:Sl)(m:MH)(h:PH):Ctx:=dL [(71,PW)] [(4,{A:=Nat,st:=λi=>cM 32 34 [(0,sv k),(12,sv v),(13,iv v.len),(14,iv i)] [] m h})] [] [] false
noncomputable def Ya(sc:bN)(p r:Sl):Ctx:=dL [(66,zO),(67,P1),(68,B5),(70,Ml),(69,B0)]
 [(7,{A:=Nat×MH×PH,st:=λ⟨i,m,h⟩=>cM 76 78 [(2,.at (.ptr 2 0)),(3,.at (.ptr 3 0)),(28,sv p),(29,iv p.len),(30,iv i)] [(2,.cells 29 (sc.enc.map .val)),(3,.cells 34 [.val (.slice p.a p.len p.cap),.val (.slice r.a r.len r.cap)])] m h}),
  (13,{A:=Nat×MH×PH,st:=λ⟨i,m,h⟩=>cM 76 78 [(2,.at (.ptr 2 0)),(3,.at (.ptr 3 0)),(46,sv r),(47,iv r.len),(48,iv i)] [(2,.cells 29 (sc.enc.map .val)),(3,.cells 34 [.val (.slice p.a p.len p.cap),.val (.slice r.a r.len r.cap)])] m h})] [] [] false
noncomputable abbrev CO(a:iO)(b:List At):List At:=dP (iQ a.kind) (iQ a.table) b
noncomputable abbrev IQ(a:Nat×bS×Int):bS:=a.2.1
attribute [push_cast] CO IQ
def Pe(sc:bN)(v:iO)(m:MH)(h:PH)(K:CV->MH->PH->Prop):Prop:=
  EI (λI=>nG v.kind 1 (branch (v.kind !=2) (K aT m h) (∃(x:Unit),aA (I x) (eP 2) (aA dT (bO sc) (bT (eQ (oQ 70 (CO v (Ac v.columns v.query.op v.query v.query.on (sS v.query::jX v.query.args))))) m m h h)))) (∃(x:Unit),aA (I x) (eP 2) (aA dT (bO sc) (bT (eQ (oQ 70 (CO v (Ac v.columns v.query.op v.query v.query.on (sS v.query::jX v.query.args))))) m m h h)))) (bE v.table 0 (K aT m h) (iH v.table (yL sc) K aT m h (∃(I:bS->Prop),bK (λb o=>aA (bL sc.tables.a b o) (0<=v.table) (v.table<aH sc.tables/\∃(y:bS),aI m h b (o+eM v.table 5) (vN y)/\∃(x:bS),aA (I x) dT (aA dJ (eQ (oQ 70 (CO v (Ac v.columns v.query.op v.query v.query.on (sS v.query::jX v.query.args))))) (bT (gO 74 (gM y) (gM x))
 m m h h))))/\∀(x:bS),I x->∃(I1:Nat×bS×Int->Prop)(m1:Nat×bS×Int->Nat),(∃(x1:Nat×bS×Int),aA (I1 x1) dJ (aA (nI (qO (x.key-1)) x1.2.2) (aL v.columns) (aA (aX v.columns) (bI x1.1) (aA (gO 74 (gM x) (gM (IQ x1))) (m=m) (bP h h)))))/\∀(x1:Nat×bS×Int),I1 x1->bE (↑x1.1:Int) (aH v.columns) (bK (λb o=>aA (bL v.columns.a b o) (0<=(↑x1.1:Int)) ((↑x1.1:Int)<aH v.columns/\∃(y:Int),aI m h b (o+aZ x1.1 1) (bR y)/\branch (decide (y<=x1.2.2)) (K aT m h) (iH y (aH (IQ x1).columns) K aT m h (∃(x2:Nat×bS×Int),aA (I1 x2) (m1 x2<m1 x1) (aA dJ (nI y x2.2.2) (aA (aL v.columns) (aX v.columns) (aA (bD (gI (bC x1.1 1)) x2.1) (gO 74 (gM (IQ x1)) (gM (IQ x2))) (bZ m m h
 h))))))))) (K gF m h))))
def Pd(v:bN)(t:Int)(m:MH)(h:PH)(K:CV->MH->PH->Prop):Prop:=
  EJ v t h (λs t1=>gT (λs1 h1=>dZ h h1 (Ints h1 s1 (iB s t1)) (xF v t h1 (λs2 t2=>branch (!(gY s2 t2)) (K uO m h1) (Ak v t (λb o y=>aI m h1 b (o+eM t 5+2) (bR y)/\bE y 0 (K uO m h1) (Ak v t (λb1 o1 y1=>aA (aI m h1 b1 (o1+eM t 5+2) (bR y1)) (0<=j9 s1 y1) (rS (j9 s1 y1) s1/\K (CV.val (Value.slice s1.a (j9 s1 y1).toNat s1.cap)) m h1)))))))))
def Pj(k v:Sl)(m:MH)(h:PH)(K:CV->MH->PH->Prop):Prop:=
  branch (aH v !=aH k) (K aT m h) (rB (λI x=>aA (I x) (aL k) (aA (aL v) (aX v) (bT (bI x) m m h h))) (λI m1 x=>I x->bE (↑x:Int) (aH v) (bK (λb o=>aA (bL v.a b o) (0<=(↑x:Int)) ((↑x:Int)<aH v/\∃(y:VV),aI m h b (o+aZ x 3) y.enc/\vF y (λv1=>branch (!(jD v1)) (K aT m h) (bK (λb1 o1=>aA (bL k.a b1 o1) (0<=(↑x:Int)) ((↑x:Int)<aH k/\∃(y1:Int),aI m h b1 (o1+aZ x 1) (bR y1)/\branch (y.kind !=y1) (K aT m h) (∃(x1:Nat),aA (I x1) (m1 x1<m1 x) (aA (aL k) (aL v) (aA (aX v) (bD (gI (bC x 1)) x1) (aA (m=m) (h=h) True))))))))))) (K gF m h)))
noncomputable abbrev F2(a:iO):OV:=dM a.query
noncomputable abbrev EZ(a:iO)(b:List Value):List Value:=aJ (cJ a.kind) (cJ a.table) (aJ (bV a.columns) (cJ a.query.op) (aJ (cX a.query) (dC a.query) (aJ (cJ (dE a.query)) (dR (F2 a)) b)))
noncomputable abbrev F3(a:iO):OV:=j7 a.query
noncomputable abbrev EY(a:iO):List Value:=aJ (iI (F3 a)) (oR a.query) (aJ (oW a.query) (bV a.query.on) (aJ (oU a.query) (oV a.query) (aJ (cJ a.query.limit) (rI a.query) [])))
attribute [push_cast] F2 EZ F3 EY
def Pk(sc:bN)(p r:Sl)(m:MH)(h:PH)(K:CV->MH->PH->Prop):Prop:=
  kB (λv s=>aA (eV (bJ sc) (bJ v)) (dV h s v) (CP s K m h (branch (decide (aH r>16)) (K (dY 2) m h) (branch (decide (aH p>8)) (K (dY 2) m h) (AH (λI x=>aA (I x) (eP 2) (aA dT (aL p) (aA (aX p) (bI x.1) (aA (bO sc) (eQ (oQ 34 (yY p::jX r))) (bZ m (cC x) h (cE x)))))) (λI m1 x=>I x->bE (↑x.1:Int) (aH p) (bK (λb o=>aA (bL p.a b o) (0<=(↑x.1:Int)) ((↑x.1:Int)<aH p/\∃(y:Int),aI (cC x) (cE x) b (o+aZ x.1 1) (bR y)/\nG y 3 (nG y 4 (branch (y !=5) (K (dY 160) (cC x) (cE x)) (∃(x1:Nat×MH×PH),aA (I x1) (m1 x1<m1 x) (aA (eP 2) dT (aA (aL p) (aX p) (aA (bD (gI (bC x.1 1)) x1.1) (bO sc) (bT (eQ (oQ 34 (yY p::jX r))) (cC x) (cC x1) (cE x) (cE x1))))))) (∃(x1:Nat×MH
 ×PH),aA (I x1) (m1 x1<m1 x) (aA (eP 2) dT (aA (aL p) (aX p) (aA (bD (gI (bC x.1 1)) x1.1) (bO sc) (bT (eQ (oQ 34 (yY p::jX r))) (cC x) (cC x1) (cE x) (cE x1))))))) (∃(x1:Nat×MH×PH),aA (I x1) (m1 x1<m1 x) (aA (eP 2) dT (aA (aL p) (aX p) (aA (bD (gI (bC x.1 1)) x1.1) (bO sc) (bT (eQ (oQ 34 (yY p::jX r))) (cC x) (cC x1) (cE x) (cE x1))))))))) (AH (λI1 x1=>aA (I1 x1) (eP 2) (aA dT (aL r) (aA (aX r) (bI x1.1) (aA (bO sc) (eQ (oQ 34 (yY p::jX r))) (bZ (cC x) (cC x1) (cE x) (cE x1)))))) (λI1 m2 x1=>I1 x1->bE (↑x1.1:Int) (aH r) (bK (λb o=>aA (bL r.a b o) (0<=(↑x1.1:Int)) ((↑x1.1:Int)<aH r/\∃(y:iO),aI (cC x1) (cE x1) b (o+aZ x1.1 24) (EZ y (DL (F2 y)
 (F3 y) (EY y)))/\∃(s1:bN)(v1:iO)(s2:jR)(r1:vW),aA (aK (bJ sc) (fB (EZ y (DL (F2 y) (F3 y) (EY y))))=aK (bJ s1) (fB (EZ v1 (DL (F2 v1) (F3 v1) (EY v1))))) (dV (cE x1) s2 s1) (aA (UU (cE x1) r1 v1) (cZ s2=0) (branch (!(pX s2 r1)) (K (dY 160) (cC x1) (cE x1)) (EX (λs3 p1 v2 s4 p2 q=>aA (bJ sc::aK (dG p) (cW y.query)=bJ s3::aK (dG p1) (cW v2)) (dV (cE x1) s4 s3) (aA (Ints (cE x1) p1 p2) (fF (cE x1) q v2) (gT (λs5 h1=>dZ (cE x1) h1 (Ints h1 s5 (fC s4 p2 q).1) (branch ((fC s4 p2 q).2 !=0) (K (CV.val (cJ (fC s4 p2 q).2)) (cC x1) h1) (EJ sc y.table h1 (λs6 t=>gT (λs7 h2=>dZ h1 h2 (Ints h2 s7 (pC s6 t)) (Cz s5 s7 h2 (λr2=>branch (!r2) (K (dY 160)
 (cC x1) h2) (∃(x2:Nat×MH×PH),aA (I1 x2) (m2 x2<m2 x1) (aA (eP 2) dT (aA (aL r) (aX r) (aA (bD (gI (bC x1.1 1)) x2.1) (bO sc) (bT (eQ (oQ 34 (yY p::jX r))) (cC x1) (cC x2) h2 (cE x2)))))))))))))))))))))) (K (dY 0) (cC x1) (cE x1))))))))))
theorem Vi(h:cZ s=0):JZ s:=Classical.byContradiction λhn=>by
 by_cases hl:A3 s
 .rw[Is hl hn]at h;cases h
 .rw[wA hl]at h;cases h
theorem Ou{rs:List vW}(h0:cZ s=0)(hl:¬(16<rs.length\/8<ps.length))(hp:ps.all cA=true):sN s ps rs=jE (rs.map (jI s ps)):=by
 simp only[sN,h0,ne_eq,not_true_eq_false,if_false,if_neg hl,hp,Bool.true_eq_false]
theorem Nd{e:Int}(h1:∀x∈l.take i,x=0)(h2:l[i]? =some e)(h3:e≠0):jE l=e:=by
 rw[<-List.take_append_drop i l,pY _ _ h1,drop_cons h2];simp[jE,h3]
theorem Ue:Sound Tryz.prog 67 P1:=by
 refine jK Tryz.func67 ?_;rintro cvs m h K ⟨sc,v,s,r,rfl,hs,hr,h0,hK⟩;refine⟨X3 sc v m h,rfl,aF,Pe sc v m h K,by kernel_rfl,?_⟩;dsimp only[Pe,push_cast];have hl:=hs.tables.slen;obtain⟨e1,e2,hc,_⟩:=hr;have no:pX s r=false->K (cB false) m h:=λe=>by rw[e]at hK;exact hK
 refine⟨λ_=>r.kind=1\/r.kind=2,aB (λk1=>aB (λk2=>no ?_) (λk2=>⟨(),Or.inr ?_,MT⟩)) (λk1=>⟨(),Or.inl ?_,MT⟩),λ_ hk=>?_⟩
 .simp only[bne_iff_ne,e1]at k1 k2;simp[pX,k1,k2]
 .simp only[bne_eq_false_iff_eq,e1]at k2;exact k2
 .simp only[bne_eq_false_iff_eq,e1]at k1;exact k1
 have hk:(r.kind==1||r.kind==2)=true:=by simpa using hk
 refine aE (λa1=>no ?_) (λa1=>aE (λa2=>no ?_) (λa2=>?_))
 .simp only[pX,gY,decide_eq_false (show¬0<=r.table by omega),Bool.false_and,Bool.and_false]
 .simp only[pX,gY,decide_eq_false (show¬r.table<s.tables.length by omega),Bool.false_and,Bool.and_false]
 obtain⟨x,b,o,w,hx,ea,rd,hw⟩:=hs.table (t:=r.table) aC aC;have hcl:=aR.slen hw.columns;have x8:=y8 h0 x (List.mem_of_getElem? hx);have xk:=(Vi h0).2.2.1 _ x hx;have hkey:=hw.key
 have hfit:pX s r=yC x.columns.length (x.key-1) r.cols:=by
  simp only[pX,gY,hk,decide_eq_true (show 0<=r.table by omega),decide_eq_true (show r.table<s.tables.length by omega),hx,Bool.true_and]
 rw[hfit]at hK no;refine⟨λz=>w=z,⟨b,o,by rw[ea],aC,aC,w,.imm (by rw[e2];exact rd),w,rfl,MT⟩,?_⟩;rintro _ rfl;have hcs:=hc.slen;refine⟨λz=>z.1<=r.cols.length/\w=z.2.1/\yC x.columns.length (x.key-1) r.cols=yC x.columns.length z.2.2 (r.cols.drop z.1),λz=>r.cols.length-z.1,⟨(0,w,IntKind.i64.wrap (w.key-1)),⟨by simp,rfl,?_⟩,MT⟩,?_⟩
 .obtain⟨_,y1,y2,_⟩:=xk;rw[hkey,List.drop_zero,show IntKind.i64.wrap (x.key-1)=x.key-1 from gD aC aC]
 rintro⟨i,_,l⟩ ⟨hi,rfl,hf⟩;dsimp only at hi hf⊢
 have hcl2:=hc.len;refine aE (λhlt=>?_) (λhge=>?_)
 .obtain⟨c,hc1⟩:=fS hcs hlt;obtain⟨b1,o1,ea1,rd1⟩:=hc.at' hc1;rw[drop_cons hc1]at hf;refine⟨b1,o1,ea1,aC,hlt,c,.imm rd1,aE (λc1=>no ?_) (λc1=>aE (λc2=>no ?_) (λc2=>⟨(i+1,_,c),⟨by show i+1<=_;omega,rfl,?_⟩,by show r.cols.length-(i+1)<r.cols.length-i;omega,MT⟩))⟩
  .rw[hf];simp[yC,show¬l<c by omega]
  .rw[hf];simp[yC,show¬c<x.columns.length by omega]
  .rw[hf];simp[yC,show l<c by omega,show c<x.columns.length by omega]
 .have:i=r.cols.length:=by omega
  subst this;rw[hf,List.drop_length]at hK;exact hK
theorem Ud:Sound Tryz.prog 70 Ml:=by
 refine jK Tryz.func70 ?_;rintro cvs m h K ⟨v,s,t,rfl,hs,h8,hK⟩;refine⟨dL [(109,FG),(113,UY)] [] [] [] false,rfl,aD DU (aD wN aF),Pd v t m h K,by kernel_rfl,?_⟩;dsimp only[Pd,push_cast];have hl:=hs.tables.slen;refine⟨v,s,t,rfl,hs,h8,λsl h1 le1 hi=>⟨v,s,t,rfl,hs.mono le1,?_⟩⟩;have hnil:pC s t=[]->K (.val (.slice none 0 0)) m h1:=λe=>hK ⟨none,0,0⟩ h1 le1 (by rw[e];exact⟨.nil _ _,by simp⟩);refine aB (λa1=>hnil ?_) (λa1=>?_)
 .simp only[Bool.not_eq_true']at a1;simp[pC,a1]
 simp only[Bool.not_eq_false']at a1;have a2:=a1;simp only[gY,Bool.and_eq_true,decide_eq_true_eq]at a2;obtain⟨x,b,o,w,hx,ea,rd,hw⟩:=(hs.mono le1).table (t:=t) aC aC;have hkey:=hw.key;refine⟨b,o,ea,aC,aC,w.key,.imm (bF.part rd 2 1),aE (λa3=>hnil ?_) (λa3=>⟨b,o,ea,aC,aC,w.key,.imm (bF.part rd 2 1),?_,?_,?_⟩)⟩
 .simp only[pC,a1,if_true,hx];rw[if_neg aC]
 .split<;>omega
 .have:=hi.row.cap;split<;>omega
 .have e:pC s t=(iB s t).take (if(sl.len:Int)<w.key then(sl.len:Int)else w.key).toNat:=by
   simp only[pC,a1,if_true,hx];rw[if_pos aC];congr 1;have:=hi.slen;split<;>omega
  have hn:(if(sl.len:Int)<w.key then(sl.len:Int)else w.key).toNat<=(iB s t).length:=by
   have:=hi.slen;split<;>omega
  exact hK ⟨sl.a,(if(sl.len:Int)<w.key then(sl.len:Int)else w.key).toNat,sl.cap⟩ h1 le1 (by rw[e];exact⟨by rw[List.map_take];exact bH.cut hi.row _ (by rw[List.length_map];exact hn),by rw[List.length_take];have:=hi.len;omega⟩)
theorem Uj:Sound Tryz.prog 39 Tc:=by
 refine jK Tryz.func39 ?_;rintro cvs m h K ⟨k,v,ks,vs,rfl,hk,hv,hK⟩;refine⟨X9 k v m h,rfl,aD CY aF,Pj k v m h K,by kernel_rfl,?_⟩;dsimp only[Pj,push_cast];have hkl:=hk.slen;have hvl:=aR.slen hv;have hv2:=hv.len;have no:wC ks vs=false->K (cB false) m h:=λe=>by rw[e]at hK;exact hK
 refine aB (λn1=>no ?_) (λn1=>?_)
 .simp only[bne_iff_ne]at n1;simp[wC,show vs.length≠ks.length by omega]
 simp only[bne_eq_false_iff_eq]at n1;have n1:vs.length=ks.length:=by omega
 have bad:∀i<vs.length,¬(jD (vs.getD i zeroV)=true/\(vs.getD i zeroV).kind=ks.getD i 0)->wC ks vs=false:=λi hi hn=>by
  simp only[wC,Bool.and_eq_false_iff];refine Or.inr (List.all_eq_false.2 ⟨i,List.mem_range.2 hi,λe=>hn ?_⟩);simpa using e
 refine⟨λi=>i<=vs.length/\∀j<i,jD (vs.getD j zeroV)=true/\(vs.getD j zeroV).kind=ks.getD j 0,λi=>vs.length-i,⟨0,⟨aC,λj hj=>by omega⟩,MT⟩,λi⟨hi,hall⟩=>aE (λhlt=>?_) (λhge=>?_)⟩
 .obtain⟨x,hx⟩:=fS hvl hlt;obtain⟨y,hy⟩:=fS hkl (i:=i) aC;obtain⟨b,o,u,ea,rd,rfl⟩:=aR.at hv hx;obtain⟨b2,o2,ea2,rd2⟩:=hk.at' hy;have e1:vs.getD i zeroV=x:=by rw[List.getD_eq_getElem?_getD,hx];rfl
  have e2:ks.getD i 0=y:=by rw[List.getD_eq_getElem?_getD,hy];rfl
  refine⟨b,o,ea,aC,hlt,x,.imm rd,x,rfl,aB (λa1=>no (bad i aC λe=>?_)) (λa1=>⟨b2,o2,ea2,aC,aC,y,.imm rd2,aB (λa2=>no (bad i aC λe=>?_)) (λa2=>⟨i+1,⟨aC,λj hj=>?_⟩,by show vs.length-(i+1)<vs.length-i;omega,MT⟩)⟩)⟩
  .rw[e1]at e;rw[e.1]at a1;cases a1
  .rw[e1,e2]at e;rw[e.2]at a2;simp at a2
  .by_cases hji:j=i
   .subst hji;rw[e1,e2];exact⟨by simpa using a1,by simpa using a2⟩
   .exact hall j aC
 .have e:wC ks vs=true:=by
   simp only[wC,decide_eq_true n1,Bool.true_and,List.all_eq_true];intro i hi;have:=hall i (by have:=List.mem_range.1 hi;omega);simp only[this.1,this.2,Bool.true_and,beq_self_eq_true]
  rw[e]at hK;exact hK
theorem Uk:Sound Tryz.prog 38 Mi:=by
 refine jK Tryz.func38 ?_;rintro cvs m h K ⟨sc,p,r,s,ps,rs,rfl,hs,hp,hK⟩;refine⟨Ya sc p r,rfl,aD C0 (aD Ue (aD K9 (aD Ud (aD CZ aF)))),Pk sc p r m h K,by kernel_rfl,?_⟩;dsimp only[Pk,push_cast];obtain⟨hp,hr⟩:=hp;have hpl:=hp.slen;have hrl:=hr.slen;refine⟨sc,s,rfl,hs,aB (λa0=>?_) (λa0=>?_)⟩
 .have a0:cZ s≠0:=by simpa using a0
  have:=hK h (.refl _);simp only[sN,if_pos a0]at this;exact this
 have a0:cZ s=0:=by simpa using a0
 have lim:16<rs.length\/8<ps.length->K (cI 2) m h:=λe=>by
  have:=hK h (.refl _);simp only[sN,a0,ne_eq,not_true_eq_false,if_false,if_pos e]at this;exact this
 refine aE (λa1=>lim aC) (λa1=>aE (λa2=>lim aC) (λa2=>?_));have nl:¬(16<rs.length\/8<ps.length):=by omega
 have badK:ps.all cA=false->K (cI 160) m h:=λe=>by
  have:=hK h (.refl _);simp only[sN,a0,ne_eq,not_true_eq_false,if_false,if_neg nl,e,if_true]at this;exact this
 refine⟨λz=>z.1<=ps.length/\(∀x∈ps.take z.1,cA x=true)/\z.2=(m,h),λz=>ps.length-z.1,⟨(0,m,h),⟨by simp,by simp,rfl⟩,MT⟩,?_⟩;rintro⟨i,_,_⟩ ⟨hi,hall,e⟩;cases e;dsimp only at hi hall⊢
 refine aE (λhlt=>?_) (λhge=>?_)
 .obtain⟨x,hx⟩:=fS hpl hlt;obtain⟨b,o,ea,rd⟩:=hp.at' hx
  have step:cA x=true->∀y∈ps.take (i+1),cA y=true:=λhc y hy=>by
   rw[List.take_add_one,hx,List.mem_append]at hy;rcases hy with hy|hy
   .exact hall y hy
   .simp at hy;rw[hy];exact hc
  have go:cA x=true->(i+1<=ps.length/\(∀y∈ps.take (i+1),cA y=true)/\(m,h)=(m,h)):=λhc=>⟨by have:=(List.getElem?_eq_some_iff.1 hx).1;omega,step hc,rfl⟩
  refine⟨b,o,ea,aC,hlt,x,.imm rd,aB (λc1=>aB (λc2=>aB (λc3=>badK ?_) (λc3=>⟨(i+1,m,h),go ?_,by show ps.length-(i+1)<ps.length-i;omega,MT⟩)) (λc2=>⟨(i+1,m,h),go ?_,by show ps.length-(i+1)<ps.length-i;omega,MT⟩)) (λc1=>⟨(i+1,m,h),go ?_,by show ps.length-(i+1)<ps.length-i;omega,MT⟩)⟩
  .simp only[bne_iff_ne]at c1 c2 c3;exact List.all_eq_false.2 ⟨x,List.mem_of_getElem? hx,by simp[cA,c1,c2,c3]⟩
  .simp only[bne_eq_false_iff_eq]at c3;simp[cA,c3]
  .simp only[bne_eq_false_iff_eq]at c2;simp[cA,c2]
  .simp only[bne_eq_false_iff_eq]at c1;simp[cA,c1]
 have hpk:ps.all cA=true:=List.all_eq_true.2 λx hx=>hall x (by rwa [List.take_of_length_le aC]);rw[Ou a0 nl hpk]at hK;refine⟨λz=>z.1<=rs.length/\(∀x∈(rs.map (jI s ps)).take z.1,x=0)/\m=z.2.1/\PH.le h z.2.2,λz=>rs.length-z.1,⟨(0,m,h),⟨by simp,by simp,rfl,.refl _⟩,MT⟩,?_⟩;rintro⟨i,_,h1⟩ ⟨hi,hall,rfl,le1⟩;dsimp only at hi hall le1⊢
 refine aE (λhlt=>?_) (λhge=>?_)
 .obtain⟨x,hx⟩:=fS hrl hlt;obtain⟨b,o,u,ea,rd,hu⟩:=hr.at hx;have hu:=hu.mono le1;have hxe:(rs.map (jI s ps))[i]? =some (jI s ps x):=by rw[List.getElem?_map,hx];rfl
  have stop:∀e h',PH.le h1 h'->jI s ps x=e->e≠0->K (cI e) m h':=λe h' le he hn=>by
   have:=hK h' (le1.trans le)
   rwa [Nd hall hxe (by rw[he];exact hn),he]at this
  refine⟨b,o,ea,aC,hlt,u,.imm (rd.mono le1),sc,u,s,x,rfl,hs.mono le1,hu,a0,aB (λc1=>stop 160 h1 (.refl _) ?_ (by decide)) (λc1=>⟨sc,p,u.query,s,ps,x.query,rfl,hs.mono le1,hp.mono le1,hu.query_,λsl h2 le2 hsl=>aB (λc2=>stop _ h2 le2 ?_ (by simpa using c2)) (λc2=>⟨sc,s,u.table,rfl,(hs.mono le1).mono le2,y8 a0,λsl2 h3 le3 hsl2=>⟨sl,sl2,_,_,rfl,hsl.mono le3,hsl2,λq hq=>aB (λc3=>stop 160 h3 (le2.trans le3) ?_ (by decide)) (λc3=>⟨(i+1,m,h3),⟨by show i+1<=rs.length;omega,?_,rfl,le1.trans (le2.trans le3)⟩,by show rs.length-(i+1)<rs.length-i;omega,MT⟩)⟩⟩)⟩)⟩
  .simp only[Bool.not_eq_true']at c1;simp only[jI,if_pos c1]
  all_goals simp only[Bool.not_eq_false']at c1
  .have c2:(fC s ps x.query).2≠0:=by simpa using c2
   simp only[jI,c1,Bool.true_eq_false,if_false,if_pos c2]
  all_goals have c2:(fC s ps x.query).2=0:=by simpa using c2
  all_goals rw[hu.table_]at hq
  .have:¬(fC s ps x.query).1=pC s x.table:=λe=>by rw[hq.2 e]at c3;cases c3
   simp only[jI,c1,c2,Bool.true_eq_false,if_false,ne_eq,not_true_eq_false,if_neg this]
  .have:(fC s ps x.query).1=pC s x.table:=hq.1 (by simpa using c3);exact Kr hxe hall (by simp only[jI,c1,c2,Bool.true_eq_false,if_false,ne_eq,not_true_eq_false,if_pos this])
 .rw[yU _ (by rwa [List.take_of_length_le (by rw[List.length_map];omega)]at hall)]at hK;exact hK h1 le1
noncomputable def gV(s:jR)(st:List (List (List VV)))(q:Query):List (List VV)×Int:=
 if(fC s [] q).2≠0 then([],(fC s [] q).2)else if sF s st≠0 then([],sF s st)else(nX st q,0)
def B8(st:List (List (List VV)))(q:Query):Prop:=∃c,1<=c/\(∀l∈st,l.length<=c)/\qK c q<=8000000
structure vV(h:PH)(sl:Sl)(st:List (List (List VV))):Prop where
 lea:Leaves h sl st
 len:st.length<=1000
 val:YU st
theorem vV.mono{sl:Sl}{st:List (List (List VV))}(x:vV h sl st)(le:PH.le h h'):vV h' sl st:=⟨aR.mono x.lea le λl s hr=>aR.mono hr le λr t hv=>bB.mono hv le,x.len,x.val⟩
def YY:Vc.Spec:=λcvs m h K=>∃v s sl st w q,cvs=[aS v,Xq sl,aQ w]/\dV h s v/\vV h sl st/\fF h q w/\gG m/\((fC s [] q).2=0->sF s st=0->B8 st q)/\∀s' h',PH.le h h'->Rows h' s' (gV s st q).1->K (.tup [cS s',cI (gV s st q).2]) m h'
def NG:Vc.Spec:=λcvs m h K=>∃n,cvs=[cI n]/\K (aV ⟨4,n,⟨#[]⟩⟩) m h
noncomputable def X6(w:QV)(sl:Sl):Ctx:=dL [(68,B5),(72,Hm),(81,WY),(82,Tb)] [(10,{A:=Nat×List Sl×Sl×MH×PH,st:=λ⟨i,us,s,m,h⟩=>cM 54 57 [(4,.at (.ptr 4 0)),(5,.at (.ptr 5 0)),(12,.at (.lst 34)),(35,sv s),(36,iv s.len),(37,iv i)] [(4,.cells 38 [.val (.slice sl.a sl.len sl.cap)]),(5,.cells 68 (w.enc.map .val)),(34,.lst 95 1 (us.map eS))] m h})] [] [] false
abbrev lW(a:Sl):Prop:=eQ (oQ 38 (jX a))
attribute [push_cast] lW
def Pg(v:bN)(sl:Sl)(w:QV)(m:MH)(h:PH)(K:CV->MH->PH->Prop):Prop:=
  EX (λs p v1 s1 p1 q=>aA (bJ v::aK uO (cW w)=bJ s::aK (dG p) (cW v1)) (dV h s1 s) (aA (Ints h p p1) (fF h q v1) (gT (λs2 h1=>dZ h h1 (Ints h1 s2 (fC s1 p1 q).1) (branch ((fC s1 p1 q).2 !=0) (K (xP (CV.val (cJ (fC s1 p1 q).2))) m h1) (kB (λv2 s3=>Aj (λs4 s5=>aA (bJ v::aK (dY 3) (eU sl)=bJ v2::aK (dY 3) (eU s4)) (dV h1 s3 v2) (aA (Leaves h1 s4 s5) (AL s5) (branch (sF s3 s5 !=0) (K (wH (sF s3 s5)) m h1) (uY (λv3 q1=>aA (eV (cW w) (cW v3)) (fF h1 q1 v3) (AZ q1<=900000/\gT (λs6 h2=>dZ h1 h2 (Ints h2 s6 (iV q1)) (aA (cQ (aH s6)) (aH s6<=aH s6) (aA (kS (aH s6*24)) (kS (aH s6)) (HS (λI x=>aA (I x) (eP 4) (aA dJ (eL 34) (aA (bA s6 (eA x))
 (cO s6 (eA x)) (aA (bI x.1) (lW sl) (uW (pK w) (Option.some (Own.lst 95 1 (List.replicate (pT s6) fE))=Option.some (Own.lst 95 1 (i6 x))) m (jW x) h2 (i7 x)))))) (λI m1 x=>I x->bE (↑x.1:Int) (aH (eA x)) (bK (λb o=>aA (bL (eA x).a b o) (0<=(↑x.1:Int)) ((↑x.1:Int)<aH (eA x)/\∃(y:Int),aI (jW x) (i7 x) b (o+aZ x.1 1) (bR y)/\dA sl y (λb1 o1 y1=>aA (aI (jW x) (i7 x) b1 (o1+eM y 1) (aM y1)) (0<=(↑x.1:Int)) ((↑x.1:Int)<uV (i6 x)/\∃(e:List Value),IY (tW (i6 x) (lE x.1) e) (0<e.length) (λx1=>aA (I x1) (m1 x1<m1 x) (aA (eP 4) dJ (aA (eL 34) (bA (eA x) (eA x1)) (aA (cO (eA x) (eA x1)) (bD (gI (bC x.1 1)) x1.1) (aA (lW sl) (pK w) (aA
 (Option.some (Own.lst 95 1 (List.set (i6 x) (lE x.1) (yQ (bV y1) 1 e)))=Option.some (Own.lst 95 1 (i6 x1))) (jW x=jW x1) (bP (i7 x) (i7 x1))))))))))))) (aY (i7 x) 1 (i6 x) (λs7 h3=>∃(l:Sl)(v4:QV)(l1:List (List (List VV)))(q2:Query),aA (aK (dG s7) (cW w)=aK (dG l) (cW v4)) (Leaves h3 l l1) (aA (fF h3 q2 v4) (TF l1 q2 0) (aA (gG (jW x)) ((iT l1 q2 0).1.length<=8000000) (EK (iT l1 q2 0).1 (λr=>jA r)/\lT h3 (iT l1 q2 0).1 (λs8 h4=>pU K s8 (jW x) h4))))))))))))))))))))))))
mutual
theorem KD:∀q:Query,(iV q).length<=AZ q
 |.mk op ta _ _ _ _ _ _ args=>by
  have:=It args;rw[iV,AZ,List.length_append];split<;>simp<;>omega
theorem It:∀qs:List Query,(gE qs).length<=wO qs
 |[]=>by simp[gE,wO]
 |q::qs=>by
  have:=KD q;have:=It qs;rw[gE,wO,List.length_append];omega
end
theorem Ug:Sound Tryz.prog 42 YY:=by
 refine jK Tryz.func42 ?_;rintro cvs m h K ⟨v,s,sl,st,w,q,rfl,hs,hst,hq,hT,hb,hK⟩;refine⟨X6 w sl,rfl,aD K9 (aD Uc (aD TY (aD TX aF))),Pg v sl w m h K,by kernel_rfl,?_⟩;dsimp only[Pg,push_cast];unfold gV at hK;refine⟨v,eC,w,s,[],q,rfl,hs,mI h,hq,λsl1 h1 le1 _=>aB (λe=>?_) (λe=>?_)⟩
 .rw[if_pos (by simpa using e)]at hK;exact hK ⟨none,0,0⟩ h1 le1 (aR.nil _ _ _ _)
 have e:(fC s [] q).2=0:=by simpa using e
 rw[if_neg (by simp[e])]at hK;refine⟨v,s,sl,st,rfl,hs.mono le1,(hst.mono le1).lea,hst.len,aB (λe2=>?_) (λe2=>?_)⟩
 .rw[if_pos (by simpa using e2)]at hK;exact hK ⟨none,0,0⟩ h1 le1 (aR.nil _ _ _ _)
 have e2:sF s st=0:=by simpa using e2
 rw[if_neg (by simp[e2])]at hK;dsimp only at hK;obtain⟨c,c1,c2,c3⟩:=hb e e2;obtain⟨_,_,hsm,hkz⟩:=Ot e;have hkq:cR s [] q=((cR s [] q).1,0):=Prod.ext rfl hkz;obtain⟨ok,ev,rel,len⟩:=Vg e2 hst.val c2 c1 hkq c3;have hcnt:=Ty hsm;have hsl:=KD q;have hin:=Iu hkq;have htl:=(Ob e2).2.1;refine⟨w,q,rfl,hq.mono le1,aC,λs' h2 le2 hi=>?_⟩;have hil:=hi.slen;have hst2:=hst.mono (le1.trans le2);have hstl:=aR.slen hst2.lea;generalize hts:iV q=ts at hi hil hsl hin;refine⟨aC,aC,aC,aC,λz=>z.1<=ts.length/\z.2.2.1=s'/\z.2.2.2.1=m/\z.2.2.2.2=h2/\∃us,z.2.1=us++List.replicate (ts.length-z.1) ⟨none,0,0⟩/\us.length=z.1/\∀(j:Nat) u t,us[j]? =some u->ts[j]? =some t->Rows h2 u (st.getD t.toNat []),λz=>ts.length-z.1,⟨(0,List.replicate ts.length ⟨none,0,0⟩,s',m,h2),⟨by simp,rfl,rfl,rfl,[],by simp,rfl,λj u t h=>by simp at h⟩,?_⟩,?_⟩
 .rw[show((s'.len:Int)).toNat=ts.length by omega];dsimp only;rw[List.map_replicate];exact MT
 rintro⟨i,l,s2,m2,h3⟩ ⟨hi1,e3,e4,e5,us,hl,hul,hrow⟩;dsimp only at hi1 e3 e4 e5 hl hul hrow⊢
 subst e3 e4 e5;refine aE (λhlt=>?_) (λhge=>?_)
 .obtain⟨t,hx⟩:=fS hil hlt;obtain⟨b,o,ea,rd⟩:=hi.at' hx;have ht:=hin t (List.mem_of_getElem? hx);have htn:t.toNat<st.length:=by omega
  have e6:st[t.toNat]? =some (st.getD t.toNat []):=by rw[List.getD_eq_getElem?_getD,List.getElem?_eq_getElem htn];rfl
  obtain⟨b2,o2,u,ea2,rd2,hr⟩:=aR.at hst2.lea e6;have hll:l.length=ts.length:=by rw[hl,List.length_append,List.length_replicate];omega
  have hev:l[i]? =some ⟨none,0,0⟩:=by
   rw[hl,List.getElem?_append_right aC,List.getElem?_replicate,if_pos aC]
  refine⟨b,o,ea,aC,aC,t,.imm rd,b2,o2,ea2,ht.1,aC,u,.imm rd2,aC,by rw[List.length_map];omega,[nV],by rw[List.getElem?_map,show((i:Int)).toNat=i from rfl,hev];rfl,by simp,(i+1,l.set i u,s2,m2,h3),⟨by show i+1<=ts.length;omega,rfl,rfl,rfl,us++[u],?_,by simp[hul],λj u' t' h7 h8=>?_⟩,by show ts.length-(i+1)<ts.length-i;omega,?_⟩
  .dsimp only;rw[hl,List.set_append,if_neg aC,List.append_assoc];congr 1;rw[show ts.length-i=(ts.length-(i+1))+1 by omega,List.replicate_succ,show i-us.length=0 by omega];rfl
  .by_cases hj:j<us.length
   .rw[List.getElem?_append_left hj]at h7;exact hrow j u' t' h7 h8
   .rw[List.getElem?_append_right aC]at h7;have:j-us.length=0:=by have:=(List.getElem?_eq_some_iff.1 h7).1;simp at this;omega
    rw[this]at h7;simp at h7;subst h7;have:j=i:=by omega
    subst this;rw[hx]at h8;cases h8;exact hr
  .dsimp only
   have e9:((l.map eS).set ((i:Int)).toNat (bV u::List.drop 1 [nV]))=(l.set i u).map eS:=by
    rw[List.map_set];rfl
   rw[e9,j5 aC];exact MT
 .have:i=ts.length:=by omega
  subst this;rw[Nat.sub_self,List.replicate_zero,List.append_nil]at hl;subst hl;intro s3 h4 le4 hri;refine⟨s3,w,rW st q,q,rfl,⟨⟨l,hri,by rw[rW,List.length_map,hts,hul],λi x hx=>?_⟩,by rw[rW,List.length_map,hts];omega⟩,hq.mono ((le1.trans le2).trans le4),ok,hT,by rw[ev];exact len,λr hr=>?_,λs5 h5 le5 hr=>hK s5 h5 (((le1.trans le2).trans le4).trans le5) (by rw[<-ev];exact hr)⟩
  .rw[rW,hts,List.getElem?_map]at hx;cases e7:ts[i]? with
   |none=>rw[e7]at hx;cases hx
   |some t=>
    rw[e7]at hx;simp only[Option.map_some,Option.some.injEq]at hx;subst hx;have hil2:=(List.getElem?_eq_some_iff.1 e7).1;exact⟨l[i],List.getElem?_eq_getElem aC,aR.mono (hrow i _ t (List.getElem?_eq_getElem aC) e7) le4 λr t hv=>bB.mono hv le4⟩
  .rw[ev]at hr;have:=(rel.row r hr).len;omega
end Go.Ps
