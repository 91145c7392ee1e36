/- Own work. -/
import Derived.Test.YtafjlhgalgfiaaaGreatDoorPh
set_option linter.unusedVariables false
set_option linter.unusedSimpArgs false
namespace Go.Ps
open Go Go.Vc Go.Proofs List Tryz
variable{K:da}{m:MH}{h:PH}{s:jC}{ps:db}{ts:dn}{cb:Nat}{sc:cK}{v:QV}{t:Step}{p:Pred}{l:db}{i:Nat}{N:Nat}{m':MH}{h':PH}{co:db}{gr:db}{od:di}{ta:Int}{li:Int}{xs:List dc}{sz:Nat}{ks:List db}{rs:db}{r:Sl}{a:db}{b:Nat}
def D3(ks:List db)(a:Int)(n:Bool):=if n=true then ks.getD a.toNat []else[]
noncomputable def D9(s:jC)(ks:List db)(t:Step):=
 if arity t.op<0\/Fc t.left (decide (arity t.op>0)) ks.length=false\/Fc t.right (decide (arity t.op>1)) ks.length=false then eK 120
 else if(eV s [] t.query (D3 ks t.left (decide (arity t.op>0))) (D3 ks t.right (decide (arity t.op>1)))).2=100 then eK 120
 else eV s [] t.query (D3 ks t.left (decide (arity t.op>0))) (D3 ks t.right (decide (arity t.op>1)))
def Sq:=λc m h K=>∃sc d v s e ks t,c=[aS sc,cS d,aT v]/\iC h s sc/\nY s/\vN h t v/\fA m d 36 1 (e.map eS)/\Slices h e ks/\(∀k∈ks,k.length<=12)/\∀r,fin r=D9 s ks t->KR K m h r
noncomputable def ckZ(sc:cK)(kk:Sl)(v:xU)(m:MH)(h:PH):=
 cZ [(147,Sr),(148,b8J),(149,Y6),(69,yG),(138,v7),(150,cIX),(151,UX),(152,DW),(153,Se),(154,MC),(78,PX)] [] [(4,{A:=Int,st:=λn=>bS 132 135 [(1,sv kk),(3,.at (.ptr 3 0)),(5,.at (.ptr 5 0)),(8,iv n)] [(3,.cells 27 (sc.enc.map .val)),(5,.cells 101 (v.enc.map .val))] m h}),
  (9,{A:=Int×Sl,st:=λ⟨n,l⟩=>bS 132 135 [(1,sv kk),(3,.at (.ptr 3 0)),(5,.at (.ptr 5 0)),(8,iv n),(9,sv l),(10,.at (.val (.slice none 0 0)))] [(3,.cells 27 (sc.enc.map .val)),(5,.cells 101 (v.enc.map .val))] m h}),
  (11,{A:=Sl×Sl,st:=λ⟨l,r⟩=>bS 132 135 [(3,.at (.ptr 3 0)),(5,.at (.ptr 5 0)),(9,sv l),(10,sv r)] [(3,.cells 27 (sc.enc.map .val)),(5,.cells 101 (v.enc.map .val))] m h}),
  (34,{A:=Sl×Sl×Bool,st:=λ⟨l,r,b⟩=>bS 132 135 [(5,.at (.ptr 5 0)),(9,sv l),(10,sv r),(11,bv b)] [(5,.cells 101 (v.enc.map .val))] m h})] [] false
abbrev El(a:Bool)(b:Prop)(c:Sl×Sl×Bool->Prop)(d:Sl×Sl)(e:xU)(g:MH)(i:PH):=gU a b->∃(x:Sl×Sl×Bool),aA (c x) dU (aA (aY d.1 x.1) (aY d.2 x.2.1) (aA (kJ a x.2.2) (nN e) (aA (g=g) (i=i) True)))
attribute [push_cast] El
def Re sc kk v m h K:=
  ∃(o:Int),vI v.op o (∃(I:Int->Prop),aZ (arity o) 0 (cJ K 120 m h) (∃(a:Int)(n:Bool)(e:Int),fT (fI v.left::cA (yF (decide (arity o>0))) (aG kk)=fI a::cA (yF n) e) (!(Fc a n e)) (cJ K 120 m h) (∃(D:Int)(G:Bool)(H:Int),fT (fI v.right::cA (yF (decide (arity o>1))) (aG kk)=fI D::cA (yF G) H) (!(Fc D G H)) (cJ K 120 m h) (∃(x:Int),aA (I x) (aJ kk) (aA cH dU (aA (dV (arity o) x) (cT sc) (aA (nN v) (m=m) (bQ h h)))))))/\∀(x:Int),I x->QL (λJ t=>aA (pN (pZ v)=pN (pZ J)) (vN h t J) (∀(r:Bool),iB (gU r (dC (Query.mk t.op t.table t.wher t.columns t.on t.group t.order t.limit []))) (!r) (cJ K 120 m h) (∃(I1:Int×Sl->Prop),fX x 0 (bF (λb B=>aH (aM kk.a b B) (0<=
 v.left) (v.left<aG kk) (∃(y:Sl),aL m h b (fF B v.left 1) (bH y)/\∃(z:Int×Sl),aA (I1 z) (aJ kk) (aA cH dU (aA (dV x z.1) (aY y z.2) (aA sD (cT sc) (aH (nN v) (m=m) (h=h) True))))))) (∃(z:Int×Sl),aA (I1 z) (aJ kk) (aA cH dU (aA (dV x z.1) (sQn=sQs z.2) (aA sD (cT sc) (aH (nN v) (m=m) (h=h) True)))))/\∀(z:Int×Sl),I1 z->∃(I2:Sl×Sl->Prop),fX z.1 1 (bF (λb B=>aH (aM kk.a b B) (0<=v.right) (v.right<aG kk) (∃(y:Sl),aL m h b (fF B v.right 1) (bH y)/\∃(d:Sl×Sl),aA (I2 d) cH (aA dU (aY z.2 d.1) (aA (aY y d.2) (cT sc) (aA (nN v) (m=m) (bQ h h))))))) (∃(d:Sl×Sl),aA (I2 d) cH (aA dU (aY z.2 d.1) (aA (sQn=sQs d.2) (cT sc) (aA (nN
 v) (m=m) (bQ h h)))))/\∀(d:Sl×Sl),I2 d->∃(I3:Sl×Sl×Bool->Prop),cW (v.op==1) (aZ v.table 0 (cJ K 120 m h) (gQ v.table (kI sc) (cJ K 120 m h) (CK (cA (cL sc) v.table) h (λs A=>iP K s 0 m A)))) (v.op==2) (Gf (cM d.1::aX Dn (fL v.where_)) h (λc p L=>dH (gY c p L) 0 (cJ K (gY c p L) m h) (∃(f:Sl×Sl×Bool),aA (I3 f) dU (aA (aY d.1 f.1) (aY d.2 f.2.1) (aA (Ah f.2.2) (nN v) (aA (m=m) (h=h) True)))))) (cW (v.op==3) (gL (λs g=>tC (λa c=>aH (iH d.1 v.columns=iH s g) (Ints h s a) (Ints h g c) (fB (λC A=>bY h A (Ints A C (W2 a c).1) (K (CV.tup (aX (cM C) (CV.val (eH (W2 a c).2)))) m A)))))) (v.op==4) (gL (λs g=>sP (λu a=>Vx (λb B=>aA (cM d.1
 ::aX (cM d.2) (cM v.on)=cM s::aX (cM g) (cM u)) (Ints h s a) (aA (Ints h g b) (gS h u B) (aA (gC a) (gC b) (∀(j:Bool),El j (Good (nH a b) B) I3 d v m h))))))) (cW (v.op==5) (gL (λs g=>sP (λu a=>Vx (λb B=>aA (cM d.1::aX (cM d.2) (cM v.on)=cM s::aX (cM g) (cM u)) (Ints h s a) (aA (Ints h g b) (gS h u B) (aA (gC a) (gC b) (∀(j:Bool),El j (Good (nH a b) B) I3 d v m h))))))) (v.op==6) (Bs d.1 d.2 h (λa b j=>El j (a=b) I3 d v m h)) (cW (v.op==7) (Bs d.1 d.2 h (λa b j=>El j (a=b) I3 d v m h)) (v.op==8) (Bs d.1 d.2 h (λa b j=>El j (a=b) I3 d v m h)) (cW (v.op==9) (∃(s:Sl)(E:xU)(a:db)(g:Step),aA (aX (cM d.1) (pZ v)=aX (cM s) (pZ E)) (Ints
 h s a) (aA (vN h g E) (gC a) (∀(j:Bool),El j (mW a g.group g.order g.limit) I3 d v m h))) (v.op==10) (Bs d.1 d.2 h (λa b j=>iB (gU j (a=b)) j (∃(s:Sl)(E:xU)(D:db)(g:Step),aA (aX (cM d.1) (pZ v)=aX (cM s) (pZ E)) (Ints h s D) (aA (vN h g E) (gC D) (∀(P:Bool),El P (mW D g.group g.order g.limit) I3 d v m h))) (∃(f:Sl×Sl×Bool),aA (I3 f) dU (aA (aY d.1 f.1) (aY d.2 f.2.1) (aA (EZ f.2.2) (nN v) (aA (m=m) (h=h) True)))))) (∃(f:Sl×Sl×Bool),aA (I3 f) dU (aA (aY d.1 f.1) (aY d.2 f.2.1) (aA (Ah f.2.2) (nN v) (aA (m=m) (h=h) True))))))))/\∀(f:Sl×Sl×Bool),I3 f->cW (!f.2.2) (cJ K 120 m h) (v.op==4) (bN h 1 (bH f.1::vV f.2.1) (λs A=>∃
 (C:Sl)(k:List db),aA (gK s=gK C) (cXZ A C k) (aA (k.length<=10) (∀(M:db),List.Mem M k->IK M) (fB (λO F=>bY A F (Ints F O k.flatten) (iP K O 0 m F)))))) (sP (λs l=>yT f.1 s (Ints h s l) (fB (λC A=>bY h A (Ints A C l) (iP K C 0 m A)))))))))
theorem fA.rdAt{m h s E sz xs}(r:fA m s E sz xs){i e}(d:xs[i]? =some e):∃b o,s.a=some ⟨b,o,none⟩/\aL m h b (o+i*sz) e:=by
 rcases r.ex with⟨_,rfl⟩|⟨b,g,c,rfl,n,_,_,_,u⟩
 .simp at d
 .refine⟨b,0,rfl,.lent c E (0,0) n ?_⟩;apply ext_getElem?;intro j;rw[getElem?_take];by_cases f:j<e.length
  .rw[if_pos f,getElem?_drop,Nat.zero_add];have x:=oO r.rows.len d j e[j] (cd f)
   grind
  grind
theorem aHZ{kk c}(r:fA m kk 36 1 (c.map eS))(g:Slices h c ks){a:Int}(j:0<=a)(n:a<ks.length):∃b o sl,kk.a=some ⟨b,o,none⟩/\aL m h b (o+a.toNat*1) [.slice sl.a sl.len sl.cap]/\Ints h sl (ks.getD a.toNat []):=by
 have d:a.toNat<ks.length:=by omega
 have f:a.toNat<c.length:=by rw[g.1];exact d
 obtain⟨b,o,e,rd⟩:=fA.rdAt (h:=h) r (i:=a.toNat) (e:=eS c[a.toNat]) bo;refine⟨b,o,c[a.toNat],e,rd,?_⟩;rw[getD_eq_getElem?_getD,cd d];exact g.2 a.toNat _ _ (cd f) (cd d)
theorem YY(h:∀k∈ks,k.length<=12) a n:(D3 ks a n).length<=12:=by
 unfold D3
 grind
open Classical in
theorem cTX{sc:cK}{kk:Sl}{v:xU}{s ss ks t m h K}(hs:iC h s sc)(h8:nY s)(x:vN h t v)(hr:fA m kk 36 1 (ss.map eS))(U:Slices h ss ks)(Y:∀k∈ks,k.length<=12)(Z:∀r,fin r=D9 s ks t->KR K m h r):Re sc kk v m h K:=by
 dsimp only[Re,push_cast];have F:Tst K m h (D9 s ks t):=⟨Z⟩
 clear Z
 have kl:kk.len=ks.length:=by
  have:=fA.slen hr;rw[length_map]at this;rw[this,U.1]
 have ex:=x;have a9:=hs.tables.slen;obtain⟨op,ta,w,co,on,gr,od,li,le,ri⟩:=t;obtain⟨e0,e1,xw,xc,xo,xg,xs,e2,e3,e4⟩:=x;simp only at e0 e1 xw xc xo xg xs e2 e3 e4;subst e0 e1 e2 e3 e4;have a':=YY Y v.left (decide (arity v.op>0));have a5:=YY Y v.right (decide (arity v.op>1))
 have d:D9 s ks ⟨v.op,v.table,w,co,on,gr,od,v.limit,v.left,v.right⟩=if arity v.op<0\/Fc v.left (decide (arity v.op>0)) ks.length=false\/Fc v.right (decide (arity v.op>1)) ks.length=false then eK 120
  else if(eV s [] (.mk v.op v.table w co on gr od v.limit []) (D3 ks v.left (decide (arity v.op>0))) (D3 ks v.right (decide (arity v.op>1)))).2=100 then eK 120
  else eV s [] (.mk v.op v.table w co on gr od v.limit []) (D3 ks v.left (decide (arity v.op>0))) (D3 ks v.right (decide (arity v.op>1))):=rfl
 generalize hA:D3 ks v.left (decide (arity v.op>0))=A at d a';generalize hB:D3 ks v.right (decide (arity v.op>1))=B at d a5;generalize D9 s ks ⟨v.op,v.table,w,co,on,gr,od,v.limit,v.left,v.right⟩=R at F d;refine⟨v.op,rfl,λn=>n=arity v.op/\¬(arity v.op<0\/Fc v.left (decide (arity v.op>0)) ks.length=false\/Fc v.right (decide (arity v.op>1)) ks.length=false),aF (λC=>F.err bo bj (.refl _)) (λC=>⟨v.left,_,(kk.len:Int),rfl,aC (λh2=>?_) (λh2=>⟨v.right,_,(kk.len:Int),rfl,aC (λh3=>?_) (λh3=>⟨arity v.op,⟨rfl,?_⟩,MT⟩)⟩)⟩),?_⟩
 .rw[kl]at h2;exact F.err bo bj (.refl _)
 .rw[kl]at h3;exact F.err bo bj (.refl _)
 .grind
 rintro n ⟨rfl,a0⟩;rw[if_neg a0]at d;have P:¬arity v.op<0:=λe=>a0 (.inl e);refine⟨v,_,rfl,ex,λr a1=>aC (λC=>F.err ?_ (e:=120) bj (.refl _)) (λC=>?_)⟩
 .have hn:¬dC (.mk v.op v.table w co on gr od v.limit []):=λe=>bo
  have e:eV s [] (.mk v.op v.table w co on gr od v.limit []) A B=eK 100:=by
   unfold eV;exact if_pos (.inr hn)
  rw[d,e];rfl
 have hu:dC (.mk v.op v.table w co on gr od v.limit []):=a1.1 bo;clear a1 C r
 have J:eV s [] (.mk v.op v.table w co on gr od v.limit []) A B=if v.op=1 then(if 0<=v.table/\v.table<s.tables.length then mT (jR s v.table)else eK 100)
  else if v.op=2 then(if gY A [] w=0 then mT A else eK (gY A [] w))
  else if v.op=3 then(if co≠[]/\Good (λ_ c=>DZ A c=true) co then mT (co.map λc=>A.getD c.toNat 0)else eK 100)
  else if v.op=4 then(if Good (nH A B) on then mT (A++B)else eK 100)
  else if v.op=5 then(if Good (nH A B) on then mT A else eK 100)
  else if v.op=9 then(if mW A gr od v.limit then mT A else eK 100)
  else if v.op=10 then(if A=B/\mW A gr od v.limit then mT A else eK 100)
  else(if A=B then mT A else eK 100):=by
  unfold eV;exact if_neg (λe=>e.elim P λe=>e hu)
 have a8:∀l,(mT l).2≠100:=λl=>by unfold mT;grind
 have L:∀{l},eV s [] (.mk v.op v.table w co on gr od v.limit []) A B=mT l->R=mT l:=fun{l} e=>bo
 have D:eV s [] (.mk v.op v.table w co on gr od v.limit []) A B=eK 100->R=eK 120:=λe=>by rw[d,e];rfl
 have a2:∀{e},e≠100->eV s [] (.mk v.op v.table w co on gr od v.limit []) A B=eK e->R=eK e:=fun{e} h0 e1=>by rw[d,e1,if_neg (by simpa[eK]using h0)]
 clear d;refine⟨λ⟨n,l⟩=>n=arity v.op/\Ints h l A,aF (λC=>?_) (λC=>⟨(arity v.op,⟨none,0,0⟩),⟨rfl,?_⟩,MT⟩),?_⟩
 .have G:Fc v.left (decide (arity v.op>0)) ks.length=true:=by
   grind
  unfold Fc at G;rw[if_pos (decide_eq_true C)]at G;simp only[cm,cr]at G;obtain⟨b,o,Q,e,rd,S⟩:=aHZ hr U G.1 G.2;refine⟨b,o,e,G.1,aD,Q,rd,(arity v.op,Q),⟨rfl,?_⟩,MT⟩;rw[<-hA,D3,if_pos (decide_eq_true C)];exact S
 .rw[<-hA,D3,if_neg bo];exact⟨.nil _ _,bi⟩
 rintro⟨n,l⟩ ⟨rfl,u⟩;dsimp only;refine⟨λ⟨l,r⟩=>Ints h l A/\Ints h r B,aF (λC=>?_) (λC=>⟨(l,⟨none,0,0⟩),⟨u,?_⟩,MT⟩),?_⟩
 .have G:Fc v.right (decide (arity v.op>1)) ks.length=true:=by
   grind
  unfold Fc at G;rw[if_pos (decide_eq_true C)]at G;simp only[cm,cr]at G;obtain⟨b,o,Q,e,rd,S⟩:=aHZ hr U G.1 G.2;refine⟨b,o,e,G.1,aD,Q,rd,(l,Q),⟨u,?_⟩,MT⟩;rw[<-hB,D3,if_pos (decide_eq_true C)];exact S
 .rw[<-hB,D3,if_neg bo];exact⟨.nil _ _,bi⟩
 clear u l;rintro⟨l,r⟩ ⟨u,j⟩;dsimp only;have T:∀b:Bool,(b=true->R=mT (if v.op=4 then A++B else A))->(b=false->R=eK 120)->∃x:Sl×Sl×Bool,((λ⟨l,r,b⟩=>Ints h l A/\Ints h r B/\(b=true->R=mT (if v.op=4 then A++B else A))/\(b=false->R=eK 120):Sl×Sl×Bool->Prop)) x/\(l,r,b)=x:=λb g1 g2=>⟨_,⟨u,j,g1,g2⟩,rfl⟩
 refine⟨λ⟨l,r,b⟩=>Ints h l A/\Ints h r B/\(b=true->R=mT (if v.op=4 then A++B else A))/\(b=false->R=eK 120),?_,?_⟩
 .refine aC (λM=>?_) (λM=>aC (λV=>?_) (λV=>aC (λc3=>?_) (λc3=>?_)))
  .have M:v.op=1:=bo
   rw[if_pos M]at J;refine aF (λC=>F.err (D bo) bj (.refl _)) (λC=>aF (λh2=>F.err (D bo) bj (.refl _)) (λh2=>⟨sc,s,v.table,rfl,hs,h8,λQ h' E S=>F.ok (L bo) E S⟩))
  .have M:¬v.op=1:=bo
   have V:v.op=2:=bo
   rw[if_neg M,if_pos V]at J;have a6:gY A [] w≠100:=by unfold gY;omega
   refine⟨l,⟨none,0,0⟩,v.where_,A,[],w,rfl,u,⟨.nil _ _,bi⟩,xw,aC (λC=>?_) (λC=>⟨(l,r,true),⟨u,j,λ_=>?_,λe=>(by cases e)⟩,MT⟩)⟩
   .have C:gY A [] w≠0:=bo
    exact F.err (a2 a6 bo) C (.refl _)
   grind
  .have M:¬v.op=1:=bo
   have V:¬v.op=2:=bo
   have c3:v.op=3:=bo
   rw[if_neg M,if_neg V,if_pos c3]at J;refine⟨l,v.columns,A,co,rfl,u,xc,?_⟩;unfold W2;split
   .rename_i e;have hR:R=mT (co.map λc=>A.getD c.toNat 0):=L bo;refine F.all _ ?_;rw[hR];unfold mT;split
    .rename_i C;show fin (_,0)=_;rw[aJQ,mT,if_pos C]
    .exact VQ (e:=2) bj
   .rename_i e;refine F.all _ ?_;rw[D bo];exact VQ bj
  have M:¬v.op=1:=bo
  have V:¬v.op=2:=bo
  have c3:¬v.op=3:=bo
  rw[if_neg M,if_neg V,if_neg c3]at J;refine aC (λH=>?_) (λH=>aC (λc5=>?_) (λc5=>?_))
  .have H:v.op=4:=bo
   rw[if_pos H]at J;refine⟨l,r,v.on,A,B,on,rfl,u,j,xo,aD,aD,λz I=>⟨(l,r,z),⟨u,j,λe=>?_,λe=>?_⟩,MT⟩⟩
   .grind
   grind
  .have H:¬v.op=4:=bo
   have c5:v.op=5:=bo
   rw[if_neg H,if_pos c5]at J;refine⟨l,r,v.on,A,B,on,rfl,u,j,xo,aD,aD,λz I=>⟨(l,r,z),⟨u,j,λe=>?_,λe=>?_⟩,MT⟩⟩
   .grind
   grind
  have H:¬v.op=4:=bo
  have c5:¬v.op=5:=bo
  rw[if_neg H,if_neg c5]at J;simp only[if_neg H]
  have f:¬v.op=9->¬v.op=10->∀z:Bool,(z=true↔A=B)->∃x:Sl×Sl×Bool,(Ints h x.1 A/\Ints h x.2.1 B/\(x.2.2=true->R=mT A)/\(x.2.2=false->R=eK 120))/\x=(l,r,z):=λn9 a3 z I=>by
   grind
  have W:¬v.op=9->¬v.op=10->∃(s:Sl)(t:Sl)(a:db)(b:db),[cM l,cM r]=[cM s,cM t]/\Ints h s a/\Ints h t b/\∀z:Bool,(z=true↔a=b)->∃x:Sl×Sl×Bool,(Ints h x.1 A/\Ints h x.2.1 B/\(x.2.2=true->R=mT A)/\(x.2.2=false->R=eK 120))/\x=(l,r,z):=λn9 a3=>⟨l,r,A,B,rfl,u,j,f n9 a3⟩
  refine aC (λc6=>?_) (λc6=>aC (λc7=>?_) (λc7=>aC (λc8=>?_) (λc8=>?_)))
  .have c6:v.op=6:=bo
   refine⟨l,r,A,B,rfl,u,j,λz I=>?_⟩;obtain⟨_,g,rfl⟩:=f aD aD z I;exact⟨(l,r,z),g,MT⟩
  .have c7:v.op=7:=bo
   refine⟨l,r,A,B,rfl,u,j,λz I=>?_⟩;obtain⟨_,g,rfl⟩:=f aD aD z I;exact⟨(l,r,z),g,MT⟩
  .have c8:v.op=8:=bo
   refine⟨l,r,A,B,rfl,u,j,λz I=>?_⟩;obtain⟨_,g,rfl⟩:=f aD aD z I;exact⟨(l,r,z),g,MT⟩
  clear f W T;refine aC (λX=>?_) (λX=>aC (λO=>?_) (λO=>?_))
  .have X:v.op=9:=bo
   rw[if_pos X]at J;refine⟨l,v,A,_,rfl,u,ex,aD,λz I=>⟨(l,r,z),⟨u,j,λe=>L bo,λe=>D bo⟩,MT⟩⟩
  .have X:¬v.op=9:=bo
   have O:v.op=10:=bo
   rw[if_neg X,if_pos O]at J;refine⟨l,r,A,B,rfl,u,j,λy hy=>aC (λy1=>⟨l,v,A,_,rfl,u,ex,aD,λz I=>⟨(l,r,z),⟨u,j,λe=>L bo,λe=>D bo⟩,MT⟩⟩) (λy1=>⟨(l,r,false),⟨u,j,(λe=>(by cases e)),λe=>D bo⟩,MT⟩)⟩
  .exfalso;have c6:¬v.op=6:=bo
   have c7:¬v.op=7:=bo
   have c8:¬v.op=8:=bo
   have X:¬v.op=9:=bo
   have O:¬v.op=10:=bo
   refine P ?_;unfold arity
   grind
 clear T u j l r;rintro⟨l,r,b⟩ ⟨u,j,g1,g2⟩;dsimp only at g1 g2⊢
 refine aC (λC=>F.err (g2 bo) bj (.refl _)) (λC=>?_);have g:=g1 bo;refine aC (λH=>λQ h' E a4=>?_) (λH=>⟨l,A,rfl,u,λs' h' E S=>?_⟩)
 .rw[if_pos bo]at g;refine⟨Q,[A,B],rfl,⟨⟨[l,r],a4,rfl,λi k e=>?_⟩,bi⟩,bi,λk hk=>?_,λb' h2 a7 S=>F.ok g (E.trans a7) bo⟩
  .match i,e with
   |0,e=>simp at e;subst e;exact⟨l,rfl,u.mono E⟩
   |1,e=>simp at e;subst e;exact⟨r,rfl,j.mono E⟩
   |i+2,e=>simp at e
  .rcases mem_cons.1 hk with rfl|hk
   .exact a'
   grind
 .rw[if_neg bo]at g;exact F.ok g E S
theorem a7Z:cz 89 Sq:=by
 refine gW func89 ?_;rintro f m h K ⟨sc,e,v,s,u,ks,t,rfl,g,j,x,n,c,d,o⟩;refine⟨ckZ sc e v m h,rfl,aE anJ (aE anZ (aE anX (aE Jo (aE Ki (aE anQ (aE amJ (aE G5 (aE amZ (aE Rv (aE Ni aI)))))))))),Re sc e v m h K,bh,?_⟩;exact cTX g j x n c d o
noncomputable def DD(s:jC):List db->dn->List db×Int
 |ks,[]=>(ks,0)
 |ks,t::ts=>if(D9 s ks t).2=0 then DD s (ks++[(D9 s ks t).1]) ts else(ks,(D9 s ks t).2)
noncomputable def iF(s:jC)(ts:dn)(rs:db):=
 if eX s≠0 then eX s else if 1024<ts.length\/32<rs.length then 2 else if(DD s [] ts).2≠0 then(DD s [] ts).2 else if rs.all (λr=>decide (0<=r)&&decide (r<ts.length))=true then 0 else 120
structure pM(h:PH)(p r:Sl)(ts:dn)(rs:db):Prop where
 steps:∃vs,cO h p 22 (vs.map xU.enc)/\Steps h vs ts
 roots:Ints h r rs
 len:ts.length<=1000000000
def Sc:Vc.Spec:=λc m h K=>∃sc p r s ts rs,c=[aS sc,aPl p r]/\iC h s sc/\pM h p r ts rs/\∀d,K (.tup [cS d,cI (iF s ts rs)]) m h
noncomputable def cqJ(sc:cK)(p r:Sl):=
 vO [(73,DA),(89,Sq)] [(8,{A:=Nat×Sl×MH×PH,st:=λ⟨i,c,m,h⟩=>bS 76 78 [(2,.at (.ptr 2 0)),(3,.at (.ptr 3 0)),(7,sv c),(34,sv p),(35,iv p.len),(36,iv i)] [(2,.cells 27 (sc.enc.map .val)),(3,.cells 45 [.val (.slice p.a p.len p.cap),.val (.slice r.a r.len r.cap)])] m h}),
  (18,{A:=Nat×Sl×MH×PH,st:=λ⟨i,c,m,h⟩=>bS 76 78 [(3,.at (.ptr 3 0)),(7,sv c),(59,sv r),(60,iv r.len),(61,iv i)] [(3,.cells 45 [.val (.slice p.a p.len p.cap),.val (.slice r.a r.len r.cap)])] m h})] [] [] [1108,2108] [] false
abbrev PA(a:(Nat×Sl×MH×PH->Prop)->(Nat×Sl×MH×PH)->Prop)(b:(Nat×Sl×MH×PH->Prop)->(Nat×Sl×MH×PH->Nat)->(Nat×Sl×MH×PH)->Prop):=∃(x:Nat×Sl×MH×PH->Prop)(d:Nat×Sl×MH×PH->Nat),(∃(c:Nat×Sl×MH×PH),a x c)/\∀(c:Nat×Sl×MH×PH),b x d c
noncomputable abbrev rK(a:Nat×Sl×MH×PH):=dP a.2
noncomputable abbrev tW(a:Nat×Sl×MH×PH):=eT a.2
attribute [push_cast] PA rK tW
def Rk sc p r m h K:=
  Lg sc h (λs=>qE (eX s !=0) (cJ K (eX s) m h) (aG p) 1024 (cJ K 2 m h) (fX (aG r) 32 (cJ K 2 m h) (aA (cF 0) (cF (aG p)) (aA (tQ p 24) (tR p) (qC (λz A=>sX m A h z 36 1 []->PA (λI x=>aA (I x) eD (aA cH (aY z x.2.1) (aA (aJ p) (bG p) (aA (bA x.1) (cT sc) (aH (eQ (oQ 45 (j9 (nX p) (nX r)))) (jZ A x.2) (h=rK x) True))))) (λI B x=>I x->aZ (↑x.1:Int) (aG p) (bF (λb o=>aH (aM p.a b o) (0<=(↑x.1:Int)) ((↑x.1:Int)<aG p) (∃(y:xU),aL (tW x) (rK x) b (bK o x.1 22) y.enc/\∃(C:cK)(k:Sl)(v:xU)(j:jC)(D:dg)(n:List db)(t:Step),aA (cL sc::aX (cM x.2.1) (pZ y)=cL C::aX (cM k) (pZ v)) (iC (rK x) j C) (aA (nY j)
 (vN (rK x) t v) (aH (fA (tW x) k 36 1 (jY D)) (Slices (rK x) D n) (∀(E:db),List.Mem E n->IK E) (∀(g:db×Int),fin g=D9 j n t->fB (λu e=>bY (rK x) e (Ints e u g.1) (qE (g.2 !=0) (cJ K g.2 (tW x) e) (aG u) 12 (cJ K 2 (tW x) e) (∃(c:List dc),aH (fA (tW x) (Sl.mk x.2.1.a x.2.1.len x.2.1.cap) 36 1 c) (iK (mO c 1*24)) (mR c) (qC (λF f=>kK (tW x) f (Sl.mk x.2.1.a x.2.1.len x.2.1.cap) F 36 1 (iT c (bH u))->∃(d:Nat×Sl×MH×PH),aA (I d) (B d<B x) (aA eD cH (aA (aY F d.2.1) (aJ p) (aA (bG p) (fU (bC x.1 1)=bP d.1) (j4 (cT sc) (eQ (oQ 45 (j9 (nX p) (nX r)))) (jZ f d.2) e (rK d)))))))))))))))) (PA (λI1 c=>aA (I1 c)
 cH (aA (aY x.2.1 c.2.1) (aJ r) (aA (bG r) (bA c.1) (aA (eQ (oQ 45 (j9 (nX p) (nX r)))) (jZ (tW x) c.2) (bQ (rK x) (rK c)))))) (λI1 f c=>I1 c->aZ (↑c.1:Int) (aG r) (bF (λb o=>aH (aM r.a b o) (0<=(↑c.1:Int)) ((↑c.1:Int)<aG r) (∃(y:Int),aL (tW c) (rK c) b (bK o c.1 1) (bM y)/\aZ y 0 (cJ K 120 (tW c) (rK c)) (gQ y (aG p) (cJ K 120 (tW c) (rK c)) (∃(d:Nat×Sl×MH×PH),aA (I1 d) (f d<f c) (aA cH (aY c.2.1 d.2.1) (aA (aJ r) (bG r) (aA (fU (bC c.1 1)=bP d.1) (eQ (oQ 45 (j9 (nX p) (nX r)))) (bO (jZ (tW c) d.2) (rK c) (rK d)))))))))) (iP K c.2.1 0 (tW c) (rK c)))))))))))
theorem cYJ(h:eX s=0):nY s:=λt c=>by
 obtain⟨i,d⟩:=mem_iff_getElem?.1 c;have e:Fg s:=Classical.byContradiction λf=>by rw[yY f]at h;cases h
 exact(e.2 i t d).1
structure bqX(m0 m:MH)(h:PH)(kk:Sl)(ks:List db):Prop where
 sub:Sub m0 m
 fresh:∀b i,kk.a=some ⟨b,i,none⟩->m0 b=none
 ex:∃ss,fA m kk 36 1 (ss.map eS)/\Slices h ss ks
 le12:∀k∈ks,k.length<=12
theorem bqX.new{s}(x:sX m m' h s 36 1 []):bqX m m' h s []:=by
 refine⟨λb o e=>?_,λb i e=>(x.fresh b i e).m_,⟨[],x.row,rfl,λj s k e=>by simp at e⟩,λk c=>by simp at c⟩;rw[x.other b (λi d=>by have:=(x.fresh b i d).m_;grind)];exact e
theorem bqX.grown{m0 kk sl k}(r:bqX m0 m h kk ks)(le:PH.le h h')(u:Ints h' sl k)(C:k.length<=12):
 ∃xs,fA m ⟨kk.a,kk.len,kk.cap⟩ 36 1 xs/\xs.length=ks.length/\∀d m',kK m m' ⟨kk.a,kk.len,kk.cap⟩ d 36 1 (xs++[[.slice sl.a sl.len sl.cap]])->bqX m0 m' h' d (ks++[k]):=by
 obtain⟨y,z,f⟩:=r.ex;refine⟨_,z,by rw[length_map,f.1],λd m' g=>⟨λb o e=>g.other b o (r.sub b o e) (λi c=>?_),λb i e=>?_,⟨y++[sl],?_,(f.mono le).snoc u⟩,λx A=>?_⟩⟩
 .rw[r.fresh b i c]at e;cases e
 .rcases g.fresh b i e with c|⟨j,c⟩
  .cases B:m0 b with
   |none=>rfl
   |some o=>rw[r.sub b o B]at c;cases c
  .exact r.fresh b j c
 .rw[cj];exact g.row
 .rcases mem_append.1 A with n|n
  .exact r.le12 x n
  grind
theorem Steps.at'{p vs}(r:cO h p 22 (vs.map xU.enc))(s:Steps h vs ts)(c:ts[i]? =some t):∃b o v,p.a=some ⟨b,o,none⟩/\bU h b (o+i*22) (xU.enc v)/\vN h t v:=by
 obtain⟨v,d,f⟩:=s.2 i t c;obtain⟨b,o,e,k⟩:=r.get (i:=i) (e:=xU.enc v) (by simp[d])
 grind
theorem Steps.slen'{p vs}(r:cO h p 22 (vs.map xU.enc))(s:Steps h vs ts):p.len=ts.length:=by
 have:=r.len;simp at this;rw[this,s.1]
theorem pM.at{p}(x:pM h p r ts rs)(c:ts[i]? =some t):∃b o v,p.a=some ⟨b,o,none⟩/\bU h b (o+i*22) (xU.enc v)/\vN h t v:=by
 obtain⟨f,d,e⟩:=x.steps;exact Steps.at' d e c
theorem pM.slen{p}(x:pM h p r ts rs):p.len=ts.length/\p.len<=p.cap:=by
 obtain⟨e,c,d⟩:=x.steps;exact⟨Steps.slen' c d,c.cap⟩
theorem pM.mono{p}(x:pM h p r ts rs)(le:PH.le h h'):pM h' p r ts rs:=by
 obtain⟨c,d,f,g⟩:=x.steps;exact⟨⟨c,d.mono le,f,λi t e=>let⟨v,e1,e2⟩:=g i t e;⟨v,e1,e2.mono le⟩⟩,x.roots.mono le,x.len⟩
theorem a5X r:(r.2≠0/\fin r=eK r.2)\/(r.2=0/\12<r.1.length/\fin r=eK 2)\/(r.2=0/\r.1.length<=12/\fin r=(r.1,0)):=by
 unfold fin;by_cases h:r.2=0
 .rw[if_pos h];unfold mT;by_cases c:r.1.length<=12
  .grind
  .rw[if_neg c];exact .inr (.inl ⟨h,aD,rfl⟩)
 grind
theorem JL{s ts rs}(c:eX s=0)(d:¬(1024<ts.length\/32<rs.length)):iF s ts rs=if(DD s [] ts).2≠0 then(DD s [] ts).2 else if rs.all (λr=>decide (0<=r)&&decide (r<ts.length))=true then 0 else 120:=by
 unfold iF;omega
theorem Od(d:ts[i]? =some t):DD s ks (ts.drop i)=if(D9 s ks t).2=0 then DD s (ks++[(D9 s ks t).1]) (ts.drop (i+1))else(ks,(D9 s ks t).2):=by
 have c:=(List.getElem?_eq_some_iff.1 d)
 obtain⟨c,e⟩:=c;rw[drop_eq_getElem_cons c,e];rfl
theorem bdQ:cz 48 Sc:=by
 refine Hr func48 ?_;rintro Y m h K ⟨sc,p,r,s,ts,rs,rfl,R,x,hK⟩;refine⟨cqJ sc p r,rfl,aE Nj (aE a7Z aI),Rk sc p r m h (mK h K),bh,?_⟩;show Rk sc p r m h (mK h K);dsimp only[Rk,push_cast];have Z:=x.slen.1;have rl:=x.roots.slen;have S:=x.len;have T:=x.roots.len;have done:∀{y:MH}{n:PH}{e:Int}{kk:Sl},Sub m y->PH.le h n->iF s ts rs=e->mK h K (.tup [cS kk,cI e]) y n:=fun{y n e kk} C J U=>.out C J bo;refine⟨sc,s,rfl,R,aC (λC=>?_) (λC=>?_)⟩
 .have C:eX s≠0:=bo
  exact done (kk:=⟨none,0,0⟩) (Sub.refl m) (.refl _) (by unfold iF;omega)
 have C:eX s=0:=bo
 refine aF (λJ=>?_) (λJ=>aF (λU=>?_) (λU=>⟨aD,aD,aD,aD,λk0 m1 L=>?_⟩))
 .exact done (kk:=⟨none,0,0⟩) (Sub.refl m) (.refl _) (by unfold iF;omega)
 .exact done (kk:=⟨none,0,0⟩) (Sub.refl m) (.refl _) (by unfold iF;omega)
 have z:=JL (s:=s) (ts:=ts) (rs:=rs) C aD;refine⟨λ⟨i,kk,y,n⟩=>i<=ts.length/\PH.le h n/\∃ks,bqX m y n kk ks/\ks.length=i/\DD s ks (ts.drop i)=DD s [] ts,λ⟨i,_⟩=>ts.length-i,⟨(0,k0,m1,h),⟨aD,.refl _,[],.new L,rfl,rfl⟩,MT⟩,?_⟩;rintro⟨i,kk,y,n⟩ ⟨hi,d,ks,f,M,c⟩;dsimp only;refine aF (λu=>?_) (λO=>?_)
 .obtain⟨t,V⟩:=dW Z u;obtain⟨b,o,v,e,rd,rv⟩:=(x.mono d).at V;obtain⟨ss,hm,P⟩:=f.ex;rw[Od V]at c;refine⟨b,o,e,aD,u,v,.imm rd,sc,kk,v,s,ss,ks,t,rfl,R.mono d,cYJ C,rv,hm,P,f.le12,λq D sl h' A G=>?_⟩;have a':=G.slen;rcases a5X q with⟨E,H⟩|⟨E,H,I⟩|⟨E,H,I⟩
  .rw[D]at H;rw[H,if_neg (by simpa[eK]using E)]at c;refine aC (λ_=>done (kk:=⟨none,0,0⟩) f.sub (d.trans A) ?_) (λF=>?_)
   .rw[z, <-c,if_pos (by simpa[eK]using E)];rfl
   grind
  .rw[D]at I;rw[I,if_neg (by simp[eK])]at c;refine aC (λF=>absurd E bo) (λ_=>aF (λ_=>done (kk:=⟨none,0,0⟩) f.sub (d.trans A) ?_) (λF=>by omega));rw[z, <-c,if_pos (by simp[eK])];rfl
  .rw[D]at I;rw[I,if_pos rfl]at c;refine aC (λF=>absurd E bo) (λ_=>aF (λF=>by omega) (λ_=>?_));obtain⟨xs,Q,a0,hg⟩:=f.grown A G H;exact⟨xs,Q,aD,aD,λW m' g=>⟨(i+1,W,m',h'),⟨aD,d.trans A,ks++[q.1],hg W m' g,by simp[M],c⟩,aD,MT⟩⟩
 have X:ts.drop i=[]:=drop_of_length_le aD;rw[X]at c;have h0:(DD s [] ts).2=0:=by rw[<-c];rfl
 rw[h0,if_neg bj]at z;clear c X;refine⟨λ⟨j,k',m',h'⟩=>j<=rs.length/\k'=kk/\m'=y/\h'=n/\(rs.take j).all (λr=>decide (0<=r)&&decide (r<ts.length))=true,λ⟨j,_⟩=>rs.length-j,⟨(0,kk,y,n),⟨aD,rfl,rfl,rfl,bi⟩,MT⟩,?_⟩;rintro⟨j,kk,y,n⟩ ⟨hj,rfl,rfl,rfl,B⟩;dsimp only;refine aF (λu=>?_) (λO=>?_)
 .obtain⟨q,D⟩:=dW rl u;obtain⟨b,o,e,rd⟩:=(x.roots.mono d).at' D
  have bad:¬(0<=q/\q<ts.length)->iF s ts rs=120:=λhn=>by
   rw[z,if_neg];intro e2;have:=all_eq_true.1 e2 q (ce D)
   grind
  refine⟨b,o,e,aD,u,q,.imm rd,aF (λF=>done (kk:=⟨none,0,0⟩) f.sub d (bad aD)) (λF=>aF (λh5=>done (kk:=⟨none,0,0⟩) f.sub d (bad aD)) (λh5=>⟨(j+1,kk,y,n),⟨aD,rfl,rfl,rfl,?_⟩,aD,MT⟩))⟩;rw[Cd D,B,Bool.true_and,cm]
  grind
 .rw[ci aD]at B;exact done f.sub d bo
def Cc(t:Step):=[t.left,t.right].take (arity t.op).toNat
def aCJ:Query:=.mk 0 0 fN [] [] [] [] 0 []
def Dm:Nat->dn->Nat->Query
 |0,_,_=>aCJ
 |n+1,ts,i=>match ts[i]? with
  |none=>aCJ
  |some t=>.mk t.op t.table t.wher t.columns t.on t.group t.order t.limit ((Cc t).map λa=>Dm n ts a.toNat)
def aW ts i:=Dm (i+1) ts i
def Dq(ts:dn):=∀(i:Nat) t,ts[i]? =some t->0<=arity t.op/\∀a∈Cc t,0<=a/\a<i
theorem Mg{ts:dn}(ok:Dq ts):∀(n c i:Nat),i<n->i<c->Dm n ts i=Dm c ts i
 |0,_,_,h,_=>by omega
 |_+1,0,_,_,h=>by omega
 |n+1,c+1,i,f,g=>by
  simp only[Dm];cases e:ts[i]? with
  |none=>rfl
  |some t=>
   have:(Cc t).map (λa=>Dm n ts a.toNat)=(Cc t).map (λa=>Dm c ts a.toNat):=map_congr_left λa d=>by
    have:=(ok i t e).2 a d;exact Mg ok n c a.toNat aD aD
   grind
def DS ts t:=(Cc t).map λa=>aW ts a.toNat
theorem rQ(ok:Dq ts)(c:ts[i]? =some t):aW ts i= .mk t.op t.table t.wher t.columns t.on t.group t.order t.limit (DS ts t):=by
 unfold aW;simp only[Dm,c]
 have:(Cc t).map (λa=>Dm i ts a.toNat)=DS ts t:=map_congr_left λa d=>by
  have:=(ok i t c).2 a d;exact Mg ok _ _ _ aD aD
 rw[this]
theorem cDX{op w on args}(j:(aK s [] (.mk op ta w co on gr od li args)).2=0)(f:gM 4 (.mk op ta w co on gr od li args)<=8000000){a}(d:a∈args):gM 4 a<=8000000:=by
 obtain⟨n,g,o,_⟩:=zJ (Prod.ext rfl j);have u:=Mw (c:=4) aD g a d;rw[gM]at f;split at f
 .rename_i e;subst e;rw[MQ g o]at d;cases d
 grind
def qL(i:Nat)(t:Step):=Fc t.left (decide (arity t.op>0)) i=true/\Fc t.right (decide (arity t.op>1)) i=true
theorem Mc(g:0<=arity t.op)(h:qL i t):∀a∈Cc t,0<=a/\a<i:=by
 intro a c;have j:=FG t.op;obtain⟨e,f⟩:=h;unfold Cc at c;obtain⟨n,d⟩:∃n:Nat,arity t.op=n:=⟨(arity t.op).toNat,aD⟩
 rw[d,Int.toNat_natCast]at c;unfold Fc at e f
 match n,d,c with
 |0,_,c=>simp at c
 |1,d,c=>
  grind
 |2,d,c=>
  grind
 |n+3,d,_=>omega
theorem fD{c}(g:ts<+:c)(ok:Dq c):∀i,i<ts.length->aW c i=aW ts i:=by
 have d:Dq ts:=λi t e=>ok i t (Qr g e);intro i
 induction i using Nat.strongRecOn with
 |_ i o=>
  intro j;have f:ts[i]? =some ts[i]:=cd j;rw[rQ d f,rQ ok (Qr g f)]
  have:DS c ts[i]=DS ts ts[i]:=map_congr_left λa n=>by
   have:=(d i _ f).2 a n
   grind
  rw[this]
theorem bDX(h:qL i t):(arity t.op=0->t.left=0)/\(arity t.op<=1->t.right=0):=by
 obtain⟨c,d⟩:=h;unfold Fc at c d
 grind
theorem J6 s ps op ta w co on gr od li args a b:eV s ps (.mk op ta w co on gr od li args) a b=eV s ps (.mk op ta w co on gr od li []) a b:=by
 unfold eV;rfl
theorem HW{op w on args}(h:(aK s [] (.mk op ta w co on gr od li args)).2=0):
 aK s [] (.mk op ta w co on gr od li args)=eV s [] (.mk op ta w co on gr od li []) ((args.map λq=>(aK s [] q).1).getD 0 []) ((args.map λq=>(aK s [] q).1).getD 1 []):=by
 obtain⟨c,f,_⟩:=lO h
 have e:fH s [] args=(args.map (λq=>(aK s [] q).1),0):=vX (by
  rw[map_map];exact map_congr_left λq d=>Prod.ext rfl (c q d))
 simp only[aK,e,if_true];rw[if_pos bo,J6]
theorem RW{n:Nat}{a:Int}(c:0<=a)(d:a<n):D3 ((List.range n).map λj=>(aK s [] (aW ts j)).1) a true=(aK s [] (aW ts a.toNat)).1:=by
 unfold D3
 grind
def c2Q(c d cb:Nat):Value:=.func (.func 38) #[] #[.pointer (some ⟨c,0,none⟩),.pointer (some ⟨d,0,none⟩),.pointer (some ⟨cb,0,none⟩)]
structure cDZ(m0:MH)(h:PH)(s:jC)(vb sb cb:Nat):Prop where
 v_:m0 vb=some (.cells #[c2Q vb sb cb] 94 (0,0))
 s_:∃sc,iC h s sc/\m0 sb=some (.cells ⟨sc.enc⟩ 27 (0,0))
 tab:gX m0
 small:nY s
def b6Z(N:Nat):Vc.Spec:=λc m h K=>∃v q s e f cb g d ts rs,c=[aQ v,cP e,cP f,cP cb]/\cY h q v/\SizeOf.sizeOf q<N/\(aK s [] q).2=0/\DX q/\cDZ d h s e f cb/\gO d m h cb g ts rs/\ts.length+2*kF q<=90000/\
 ∀j m' h',PH.le h h'->oY h' (fO s q ts).1 j->gO d m' h' cb g (fO s q ts).2 rs->K (aPN j) m' h'
noncomputable def csZ(N:Nat)(v:QV)(c d cb:Nat):=
 vO [(38,b6Z N),(39,bZJ),(40,U7),(41,aSQ),(42,b3Z)] [(4,{A:=Nat×List hU×db×db×MH×PH,st:=λ⟨i,e,rs,f,m,h⟩=>bS 63 67 [(1,pv c),(2,pv d),(3,pv cb),(4,.at (.ptr 4 0)),(5,.at (.ptr 5 0)),(6,.at (.ptr 6 0)),(7,.at (.lst 34)),(8,.at (.lst 39)),(15,sv v.args),(16,iv v.args.len),(17,iv i)] [(4,.cells 41 (v.enc.map .val)),(5,.cells 97 (zQ++[Ht,mD 0,mD 0,mD 0])),(6,.cells 97 (v.enc.map .val++[.lst 28,mD 0,mD 0,mD 0])),(28,.lst 97 25 (e.map hU.enc)),(34,.lst 3 1 (rs.map eI)),(39,.lst 3 1 (f.map eI))] m h})] [] [] [510097,0] [] false
noncomputable abbrev GF(a:Nat×List hU×db×db×MH×PH):=List.map hU.enc a.2.1
noncomputable abbrev ED(a:Nat×List hU×db×db×MH×PH):=a.2.2.2.1
noncomputable abbrev Ew(a:Nat×List hU×db×db×MH×PH):=a.2.2.2.2.2
noncomputable abbrev IY(a:Nat×List hU×db×db×MH×PH):=a.2.2.2.2.1
noncomputable abbrev I7 a b c:=Array.mk (aU (vQp a 0) (vQp b 0) (lJ (vQp c 0)))
abbrev C5(a b:Nat)(c:du)(d:MH)(e:PH)(g:dc->MH->PH->Prop):=FAt Proofs.Tryz.prog a b c d e (fun(x:dc)=>fun(f:MH)=>fun(j:PH)=>g x f j)
attribute [push_cast] GF ED Ew IY I7 C5
def Rm(N:Nat)(v:QV)(D E cb:Nat)(m:MH)(h:PH)(K:da):=
  ∃(I:Nat×List hU×db×db×MH×PH->Prop)(H:Nat×List hU×db×db×MH×PH->Nat),(∃(x:Nat×List hU×db×db×MH×PH),aA (I x) (dL D) (aA (dL E) (dL cb) (aA iL dU (aA (eP 6) (eL 34) (aA (eL 39) (aJ v.args) (aA (qY v) (bA x.1) (aA (cV v) (eQ (oQ 97 (fC gV gV (fC (mD 0) gV (Pz 0 (fC Ht Ht (fC (mD 0) gV (nR gV)))))))) (aA (eQ (oQ 97 (fC (mD v.op) (A9 v) (pQ v.where_ (fC (E3 v) (nX v.on) (fC (nX v.group) (nX v.order) (fC (xJ v) (nX v.args) (fC (At.lst 28) gV (j9 gV gV))))))))) (oH 97 25 (bW 97 25 (GF x))) (j4 (tN x.2.2.1) (tN (ED x)) (cN m x.2.2.2.2) h (Ew x))))))))))/\∀(x:Nat×List hU×db×db×MH×PH),yS (I x) x.1 v (bF (fun
 b o=>aH (aM (gJ v) b o) (0<=(↑x.1:Int)) ((↑x.1:Int)<aG v.args) (∃(y:QV),aL (IY x) (Ew x) b (bK o x.1 21) y.enc/\∃(f:Nat×Nat×Nat),aL (IY x) (Ew x) D 0 (lJ (Value.func (Fn.func 38) tE (I7 f.1 f.2.1 f.2.2)))/\∃(R:hU->MH->PH->Prop),C5 38 97 (dG y::dM f.1::aX (dM f.2.1) (dM f.2.2)) (IY x) (Ew x) (λl n d=>∃(u:hU),l=u.enc/\R u n d)/\∀(u:hU),iG (λn d=>R u n d->aA (iK (mO (GF x) 1*328)) (mR (GF x)) (aA (Lw x.2.2.1) (mR (fS x.2.2.1)) (tT (fS (ED x)) 8 (∃(j:Nat×List hU×db×db×MH×PH),aA (I j) (H j<H x) (aA (dL D) (dL E) (aA (dL cb) iL (aA dU (eP 6) (aA (eL 34) (eL 39) (aA (aJ v.args) (qY v) (aA (fU
 (bC x.1 1)=bP j.1) (cV v) (aA (eQ (oQ 97 (fC gV gV (fC (mD 0) gV (Pz 0 (fC Ht Ht (fC (mD 0) gV (nR gV)))))))) (eQ (oQ 97 (fC (mD v.op) (A9 v) (pQ v.where_ (fC (E3 v) (nX v.on) (fC (nX v.group) (nX v.order) (fC (xJ v) (nX v.args) (fC (At.lst 28) gV (j9 gV gV))))))))) (aA (bW 97 25 (iT (GF x) u.enc)=bW 97 25 (GF j)) (uZ x.2.2.1 u.rows j.2.2.1) (aA (uZ (ED x) u.env (ED j)) (cN n j.2.2.2.2) (bQ d (Ew j)))))))))))))))))) (Lh (IY x) (Ew x) E (λy=>bN (Ew x) 25 (GF x) (λs d=>∃(J:cK)(F:hU)(A:jC),Ex (λo t w c o1 g o2 l a=>∃(p:List PN)(L:List hU),aA (aX (cL y) (yJ v v (yO v (aU (gP v.on) (oE v) (aU (oF v) (y7 v) (aU (zE
 v) (gP s) (aU dD dD CZ))))))=aX (cL J) (oC F)) (iC d A J) (aA (nY A) (cY d (Query.mk o t w c o1 g o2 l a) F.query) (aA (cO d F.args 25 (List.map hU.enc L)) (mC d p L) (aA ((↑p.length:Int)=arity o) (cF (arity o)) ((∀(G:PN),List.Mem G p->cF G.width/\G.width<=1000)/\bN d 1 (fS x.2.2.1) (λs3 B=>∃(M:QV)(O:Sl),Ex (λP Q S T U V W X a1=>∃(k:dq),aH (jJ (dG v) s3=jJ (dG M) O) (cY B (Query.mk P Q S T U V W X a1) M) (Ints B O (List.map (fun(z:Nat)=>(↑z:Int)) k)) (∀(Y:xU),vN B (Step.mk P Q S T U V W X (↑(List.getD k 0 0):Int) (↑(List.getD k 1 0):Int)) Y->Gg (aX (dM cb) (pZ Y)) B (IY x) (λZ t3 n h3=>∃(o6:Int),fT (kQ v.op=kQ o6) (B4 o6) (sC
 0 (mG (fS (ED x))) (λe=>(fS (ED x))[0]? =Option.some e/\∃(f:Int),List.take 1 (List.drop 0 e)=bM f/\K (yJ v v (yO v (aU (gP v.on) (oE v) (aU (oF v) (eH v.limit) (aU (zE v) (gP s) (aU (eH (↑(cC Z t3).2:Int)) (eH f) (bM (FM A o t c p)))))))) n h3)) (bN h3 1 (fS (ED x)) (λs5 C=>∃(v5:QV)(s6:Sl),Ex (λo7 t4 w2 c2 o8 g2 o9 l2 a2=>∃(z:dq),aH (jJ (dG v) s5=jJ (dG v5) s6) (cY C (Query.mk o7 t4 w2 c2 o8 g2 o9 l2 a2) v5) (Ints C s6 (List.map (fun(k2:Nat)=>(↑k2:Int)) z)) (∀(v6:xU),vN C (Step.mk o7 t4 w2 c2 o8 g2 o9 l2 (↑(List.getD z 0 0):Int) (↑(List.getD z 1 0):Int)) v6->Gg (aX (dM cb) (pZ v6)) C n (λt5 t6 m3 h5=>K (yJ v v (yO v (aU (gP v.on) (oE v) (aU (oF v) (eH
 v.limit) (aU (zE v) (gP s) (aU (eH (↑(cC Z t3).2:Int)) (eH (↑(cC t5 t6).2:Int)) (bM (FM A o t c p)))))))) m3 h5)))))))))))))))))
theorem Is s op ta w co on gr od li args ts:
 fO s (.mk op ta w co on gr od li args) ts=auX s op ta w co on gr od li args (eO s args ts).1 (eO s args ts).2:=by rw[fO]
theorem Kv(s:jC)(q:Query):∀(l:dl)(ts:dn),eO s (l++[q]) ts=((eO s l ts).1++[(fO s q (eO s l ts).2).1],(fO s q (eO s l ts).2).2)
 |[],ts=>by simp[eO]
 |p::l,ts=>by
  rw[cons_append,eO,Kv s q l,eO];rfl
theorem N3(s:jC):∀(l:dl)(ts:dn),(eO s l ts).1.length=l.length
 |[],ts=>by simp[eO]
 |p::l,ts=>by rw[eO,cu,cu,N3 s l]
theorem bXQ s op ta w co on gr od li args ps ts:(auX s op ta w co on gr od li args ps ts).2.length<=ts.length+2:=by
 unfold auX;have c:=eA (AV op ta w co on gr od li (ps.map PN.rows)) ts;have d:=eA (AV op ta w co on gr od li (ps.map PN.env)) (cC (AV op ta w co on gr od li (ps.map PN.rows)) ts).1
 grind
mutual
theorem D7(s:jC):∀(q:Query)(ts:dn),(fO s q ts).2.length<=ts.length+2*kF q
 |.mk op ta w co on gr od li args,ts=>by
  rw[Is];have c:=bXQ s op ta w co on gr od li args (eO s args ts).1 (eO s args ts).2;have d:=zZ s args ts;simp only[kF];omega
theorem zZ(s:jC):∀(l:dl)(ts:dn),(eO s l ts).2.length<=ts.length+2*kC l
 |[],ts=>by simp[eO]
 |q::l,ts=>by
  rw[eO];have c:=D7 s q ts;have d:=zZ s l (fO s q ts).2;simp only[kC];omega
end
theorem tZ(h:(mT l).2=0):(mT l).1=l:=by
 unfold mT at h⊢
 grind
theorem ZE{op w on args b ps}(h:(eV s [] (.mk op ta w co on gr od li args) a b).2=0)(o:op≠1->(ps.map PN.width).getD 0 0=(a.length:Int))(u:op=4->(ps.map PN.width).getD 1 0=(b.length:Int)):
 FM s op ta co ps=((eV s [] (.mk op ta w co on gr od li args) a b).1.length:Int):=by
 unfold FM;unfold eV at h⊢
 by_cases g:arity op<0\/¬dC (.mk op ta w co on gr od li args)
 .rw[if_pos g]at h;simp[eK]at h
 .rw[if_neg g]at h⊢
  dsimp only at h⊢
  by_cases d:op=1
  .simp only[if_pos d]at h⊢
   split
   .rename_i c;rw[if_pos c]at h;rw[tZ h]
   .rename_i c;rw[if_neg c]at h;simp[eK]at h
  .have e:=o d;simp only[if_neg d]at h⊢
   by_cases j:op=2
   .subst j;simp only[if_true,show((2:Int)=3)=False by simp,show((2:Int)=4)=False by simp,if_false]at h⊢
    split
    .rename_i c;rw[if_pos c]at h;rw[tZ h,e]
    .rename_i c;rw[if_neg c]at h;simp only[eK]at h;omega
   .simp only[if_neg j]at h⊢
    by_cases n:op=3
    .simp only[if_pos n]at h⊢
     split
     .rename_i c;rw[if_pos c]at h;rw[tZ h];simp
     .rename_i c;rw[if_neg c]at h;simp[eK]at h
    .simp only[if_neg n]at h⊢
     by_cases f:op=4
     .simp only[if_pos f]at h⊢
      split
      .rename_i c;rw[if_pos c]at h;rw[tZ h,e,u f];simp
      .rename_i c;rw[if_neg c]at h;simp[eK]at h
     .simp only[if_neg f]at h⊢
      rw[e]
      suffices x:∀R:db×Int,(R=mT a\/R=eK 100)->R.2=0->(a.length:Int)=(R.1.length:Int)by
       grind
      rintro R (rfl|rfl) h
      .rw[tZ h]
      .simp[eK]at h
mutual
theorem N4{s:jC}:∀(q:Query)(ts:dn),(aK s [] q).2=0->(fO s q ts).1.width=((aK s [] q).1.length:Int)
 |.mk op ta w co on gr od li args,ts,h=>by
  have c:=lO h;have f:=FN args ts c.1
  have e:(fO s (.mk op ta w co on gr od li args) ts).1.width=FM s op ta co (eO s args ts).1:=by
   rw[Is,auX];dsimp only;split<;>rfl
  rw[e];have d:=HW h;rw[d]at h⊢
  refine ZE h (λg=>?_) (λj=>?_)
  .grind
  grind
theorem FN{s:jC}:∀(l:dl)(ts:dn),(∀q∈l,(aK s [] q).2=0)->(eO s l ts).1.map PN.width=l.map λq=>((aK s [] q).1.length:Int)
 |[],ts,_=>by simp[eO]
 |q::l,ts,h=>by
  rw[eO,map_cons,map_cons,N4 q ts (h q bi),FN l _ (λp c=>h p (by simp[c]))]
end
theorem cVQ{q S U D m0}(V:cz 38 (b6Z N))(O:cY h q v)(hN:SizeOf.sizeOf q<N+1)(hk:(aK s [] q).2=0)(E:DX q)(F:cDZ m0 h s S U cb)(c:gO m0 m h cb D ts rs)(hl:ts.length+2*kF q<=90000)(Q:∀B m' h',PH.le h h'->oY h' (fO s q ts).1 B->gO m0 m' h' cb D (fO s q ts).2 rs->K (aPN B) m' h'):Rm N v S U cb m h K:=by
 dsimp only[Rm,push_cast];have G:=@vR q;obtain⟨op,ta,w,co,on,gr,od,li,args⟩:=q;simp only[Query.args]at G;have x:=O.parts;have a2:=x.args_.slen;obtain⟨W,b4,_⟩:=lO hk;rw[W0]at E;obtain⟨o,a3⟩:=E;have b3:=FG op;rw[Is]at Q;simp only[kF]at hl
 have a4:∀i,kC (args.take i)<=kC args:=λi=>by
  have key:∀(l:dl)(i:Nat),kC (l.take i)<=kC l:=by
   intro l
   induction l with
   |nil=>intro i;simp
   |cons a l ih=>
    intro i;cases i with
    |zero=>simp[kC]
    |succ i=>have:=ih i;simp only[take_succ_cons,kC];omega
  grind
 obtain⟨sc,X,Y⟩:=F.s_;refine⟨λ⟨i,H,rr,es,mx,Z⟩=>i<=args.length/\PH.le h Z/\mC Z (eO s (args.take i) ts).1 H/\rr=(eO s (args.take i) ts).1.map (λp=>(p.rows:Int))/\es=(eO s (args.take i) ts).1.map (λp=>(p.env:Int))/\gO m0 mx Z cb D (eO s (args.take i) ts).2 rs,λ⟨i,_,_,_,_,_⟩=>args.length-i,⟨(0,[],[],[],m,h),⟨aD,.refl _,by simp only[take_zero,eO];rfl,rfl,rfl,by simpa[eO]using c⟩,MT⟩,?_⟩;rintro⟨i,H,rr,es,mx,Z⟩ ⟨hi,g,n,rfl,rfl,cx⟩;dsimp only;have a5:=N3 s (args.take i) ts;have b5:(args.take i).length=i:=bn
 have b6:=n.length;refine aF (λa'=>?_) (λb7=>?_)
 .obtain⟨q,I⟩:=dW a2 a';have J:=ce I;obtain⟨b1,o1,u,e1,r1,a6⟩:=(x.args_.mono g).at I;have tk:args.take (i+1)=args.take i++[q]:=by rw[cq,I];rfl
  have vs:=Kv s q (args.take i) ts;have b8:=a4 (i+1)
  have b9:kC (args.take (i+1))=kC (args.take i)+kF q:=by
   rw[tk]
   have key:∀l:dl,kC (l++[q])=kC l+kF q:=by
    intro l
    induction l with
    |nil=>simp[kC]
    |cons a l ih=>simp only[cons_append,kC,ih];omega
   exact key _
  have a7:=zZ s (args.take i) ts;have c0:=sizeOf_lt_of_mem J;have a8:SizeOf.sizeOf q<N:=bo
  refine⟨b1,o1,e1,aD,a',u,.imm r1,(S,U,cb),.of_m (cx.sub _ _ F.v_) rfl,λy my R=>PH.le Z R/\oY R (fO s q (eO s (args.take i) ts).2).1 y/\gO m0 my R cb D (fO s q (eO s (args.take i) ts).2).2 rs,?_,λy my R⟨d,ry,cy⟩=>⟨bo,bo,bo,bo,bo,bo,(i+1,H++[y],(eO s (args.take (i+1)) ts).1.map (λp=>(p.rows:Int)),(eO s (args.take (i+1)) ts).1.map (λp=>(p.env:Int)),my,R),⟨aD,g.trans d,?_,rfl,rfl,?_⟩,aD,?_⟩⟩
  .have a0:Bc Tryz.prog 97=true:=bh
   refine Sound.fat (vs:=[.agg ⟨QV.enc u⟩,.pointer (some ⟨S,0,none⟩),.pointer (some ⟨U,0,none⟩),.pointer (some ⟨cb,0,none⟩)]) V ⟨u,q,s,S,U,cb,D,m0,_,rs,rfl,a6,a8,W q J,a3 q J,⟨F.v_,⟨sc,X.mono g,Y⟩,F.tab,F.small⟩,cx,aD,λB m' h' C rp c'=>⟨hU.enc B,?_,B,rfl,C,rp,c'⟩⟩;have e:Vc.valOf Tryz.prog 97 (hU.enc B)= .agg ⟨hU.enc B⟩:=by unfold Vc.valOf;rw[a0]
   rw[e];rfl
  .show mC R (eO s (args.take (i+1)) ts).1 (H++[y]);rw[tk,vs];exact mC.snoc ry (mC.mono d n)
  .grind
  .have e1:=ry.rows_;have e2:=ry.env_;rw[tk,vs,e1,e2];simp only[cj,map_cons,map_nil];exact MT
 .have a9:args.take i=args:=ci aD;rw[a9]at n cx a5⊢
  have a7:=zZ s args ts;have b':=FN args ts W;generalize hP:(eO s args ts).1=P at*
  generalize hT:(eO s args ts).2=T at*
  have eR:((P.map PN.rows).map fun(k:Nat)=>(k:Int)).map eI=(P.map λp=>(p.rows:Int)).map eI:=by simp[map_map,Function.comp_def]
  have eE:((P.map PN.env).map fun(k:Nat)=>(k:Int)).map eI=(P.map λp=>(p.env:Int)).map eI:=by simp[map_map,Function.comp_def]
  have kt:∀l r:Int,OT ⟨op,ta,w,co,on,gr,od,li,l,r⟩:=λl r=>⟨o.wher,o.columns,o.on,o.group,o.order⟩
  refine⟨sc,.of_m (cx.sub _ _ Y) rfl,λs1 h1 d L=>⟨sc,⟨v,s1,0,0,0⟩,s,op,ta,w,co,on,gr,od,li,args,P,H,rfl,X.mono (g.trans d),F.small,O.mono (g.trans d),L,mC.mono d n,aD,aD,?_,λs2 h2 j c1=>⟨v,s2,op,ta,w,co,on,gr,od,li,args,P.map PN.rows,rfl,O.mono ((g.trans d).trans j),⟨bo,bn⟩,λB b0=>⟨B,_,m0,cb,D,T,rs,rfl,b0,kt _ _,cx.mono (d.trans j),F.tab,aD,λm3 h3 z c3=>⟨op,by rw[x.op_],?_⟩⟩⟩⟩⟩
  .intro p hp;have:p.width∈P.map PN.width:=mem_map.2 ⟨p,hp,rfl⟩;rw[b']at this;obtain⟨q,_,e⟩:=mem_map.1 this;have:=jB s [] q;omega
  .have ha:=eA (AV op ta w co on gr od li (P.map PN.rows)) T;have c3:gO m0 m3 h3 cb D (cC (AV op ta w co on gr od li (P.map PN.rows)) T).1 rs:=c3;have le:=((g.trans d).trans j).trans z;unfold auX at Q;refine aC (λf=>?_) (λf s4 h4 A c2=>⟨v,s4,op,ta,w,co,on,gr,od,li,args,P.map PN.env,rfl,O.mono (le.trans A),⟨bo,bn⟩,λv2 b2=>⟨v2,_,m0,cb,D,_,rs,rfl,b2,kt _ _,c3.mono A,F.tab,aD,λm5 h5 M c5=>?_⟩⟩)
   .rw[if_pos f]at Q
    have a1:0<P.length:=by
     have:1<=arity op:=by
      unfold B4 at f;simp only[Bool.or_eq_true,beq_iff_eq]at f;rcases f with(rfl|rfl)|rfl<;>decide
     omega
    refine⟨aD,bo,eI (P[0].env:Int),by simp[a1],(P[0].env:Int),rfl,?_⟩;refine Q ⟨v,s1,_,_,_⟩ m3 h3 le ⟨O.mono le,rfl,?_,rfl,aD,H,L.mono (j.trans z),mC.mono ((d.trans j).trans z) n⟩ c3;simp[a1]
   .rw[if_neg (by simp[f])]at Q;have C:=(le.trans A).trans M;exact Q ⟨v,s1,_,_,_⟩ m5 h5 C ⟨O.mono C,rfl,rfl,rfl,aD,H,L.mono (((j.trans z).trans A).trans M),mC.mono ((((d.trans j).trans z).trans A).trans M) n⟩ c5
theorem VU:∀N,cz 38 (b6Z N)
 |0=>by
  refine eG (fn:=Tryz.f38) (c:=dQ Tryz.f38) func38 rfl bj ?_;rintro e m h K ⟨v,q,s,f,g,cb,n,o,ts,rs,rfl,_,j,_⟩;omega
 |N+1=>by
  refine gW func38 ?_;rintro e m h K ⟨v,q,s,f,g,cb,n,o,ts,rs,rfl,u,j,x,d,y,c,z,A⟩;refine⟨csZ N v f g cb,rfl,aE (VU N) (aE beX (aE FA (aE beQ (aE Tq aI)))),Rm N v f g cb m h K,bh,?_⟩;exact cVQ (VU N) u j x d y c z A
def cIJ:Vc.Spec:=λc m h K=>∃v q s e f cb g d ts rs,c=[aQ v,cP e,cP f,cP cb]/\cY h q v/\(aK s [] q).2=0/\DX q/\cDZ d h s e f cb/\gO d m h cb g ts rs/\ts.length+2*kF q<=90000/\
 ∀j m' h',PH.le h h'->oY h' (fO s q ts).1 j->gO d m' h' cb g (fO s q ts).2 rs->K (aPN j) m' h'
theorem Tr:cz 38 cIJ:=iE VU λ_ _ _ _⟨v,q,s,c,d,cb,f,g,ts,rs,e,j,n,o,u,x,y,z⟩=>⟨SizeOf.sizeOf q+1,v,q,s,c,d,cb,f,g,ts,rs,e,j,aD,n,o,u,x,y,z⟩
noncomputable def kN s q:=gA (fO s q []).1 ((fO s q []).1.env:Int) (fO s q []).2 []
def bqQ:Vc.Spec:=λc m h K=>∃sc v s q,c=[aS sc,aQ v]/\iC h s sc/\cY h q v/\sJ q=true/\gX m/\((fG s [] q).2=0->DX q/\JJ (fO s q []).1/\kU (fO s q []).1<=100/\kF q<=100)/\
 ((fG s [] q).2≠0->K (.tup [aPl cG cG,cI (fG s [] q).2]) m h)/\((fG s [] q).2=0->∀p r h',PH.le h h'->pM h' p r (kN s q).1 (kN s q).2->K (.tup [aPl p r,cI 0]) m h')
noncomputable def cBJ:=vO [(37,Im),(38,cIJ),(43,c6X)] [] [] [] [93,94,200002,510097] [] false
def RH(sc:cK)(v:QV)(m:MH)(h:PH)(K:da):=
  lG m h (λb o=>iR m o b (lE (pS sc) (pR sc)) 27) (λb o=>Lh o h b (λy=>∃(s:cK),Cn (λp J=>Cp (λA B=>∃(q:Query),aA (cL y::aX Dn (dG v)=cL s::aX (cM p) (dG J)) (iC h A s) (aA (Ints h p B) (cY h q J) (AY (sJ q)/\fB (λQ e=>bY h e (Ints e Q (fG A B q).1) (dH (fG A B q).2 0 (K (CV.tup (aX (qK (lE rU rU)) (CV.val (eH (fG A B q).2)))) o e) (Eg o e (λS L=>lG L e (λf C=>iR L C f (aU rU rU (lJ (Value.map Option.none))) 93) (λf C=>GU (λc E=>aA (Ze C f (B7 c E 0)) (3<=c.size) (∀(F:MH),iR C F f (aU rU rU (xP (Value.map (Option.some S)) 3 c.toList)) E->lG F e (λu G=>iR F G u (lJ Value.nilFunc) 94) (λu G=>oG G u
 (Value.func (Fn.func 38) tE (I7 u b f)) (λM=>∃(g:Nat×Nat×Nat),aL M e u 0 (lJ (Value.func (Fn.func 38) tE (I7 g.1 g.2.1 g.2.2)))/\∃(R:hU->MH->PH->Prop),C5 38 97 (dG v::dM g.1::aX (dM g.2.1) (dM g.2.2)) M e (λl D j=>∃(x:hU),l=x.enc/\R x D j)/\∀(x:hU),iG (λD j=>R x D j->∃(O:hU)(n:PN)(d:Int)(H:MH),bF (λI P=>E9 (λt r=>aA (dM f::cA (oC x) x.env=dM I::cA (oC O) d) (oY j n O) (aA (JJ n) (gO H D j I P t r) (aH (gX H) (t.length+5*kU n<=90000) (r.length+kU n<=90000) (iG (λa z=>bY j z (gO H a z I P (gA n d t r).1 (gA n d t r).2) (kW a z f 0 (λT=>kW a z f 1 (λU=>K (CV.tup (cA (sE T U) 0)) a
 z)))))))))))))))))))))))))
theorem Oj{q}(h:(fG s ps q).2=0):(aK s ps q).2=0/\eX s=0:=by
 unfold fG at h;split at h
 .rename_i e;refine⟨?_,e⟩;split at h
  .split at h
   .exact h
   .simp[eK]at h
  .simp[eK]at h
 .rename_i c;simp[eK]at h;omega
theorem aHQ m E sz:fA m cG E sz []:=⟨⟨λ_ h=>by simp at h,λ_ h=>by simp at h⟩,.inl ⟨rfl,rfl⟩⟩
theorem bkZ:cz 11 bqQ:=by
 refine VN func11 ?_;rintro b8 m h K ⟨sc,v,s,q,rfl,hs,hq,a6,ht,hv,hE,hK⟩;refine⟨cBJ,rfl,aE Rn (aE Tr (aE bdJ aI)),RH sc v m h (fV h K),bh,?_⟩;show RH sc v m h (fV h K);dsimp only[RH,push_cast];intro f m1 a7 z
 have H:Sub m m1:=λx o e=>by
  rw[z.other x (λL=>by rw[L,a7.m_]at e;cases e)];exact e
 refine⟨sc,.of_m z.at_ rfl,sc,cG,v,s,[],q,rfl,hs,Xm h,hq,a6,λsl h1 E _=>aC (λM=>?_) (λM=>?_)⟩
 .have M:(fG s [] q).2≠0:=bo
  exact fV.keep H E (hE M)
 have M:(fG s [] q).2=0:=bo
 obtain⟨S,a8,b9,b6⟩:=hv M;obtain⟨T,U⟩:=Oj M;have hK:=hK M;intro c m2 V g cb m3 O C;refine⟨_,_,⟨C.at_⟩,bi,λm4 d B m5 F P=>⟨_,_,⟨P.at_⟩,bi,λD A=>?_⟩⟩;have d:pO m3 m4 cb (.cells #[.slice none 0 0,.slice none 0 0,.map (some c)] 93 (0,0)):=d;have A:pO m5 D B (.cells #[c2Q B f cb] 94 (0,0)):=A;have n1:c≠f:=λe=>by have:=V.m_;rw[e,z.at_]at this;cases this
 have n2:cb≠c:=λe=>by have:=O.m_;rw[e,g.at_]at this;cases this
 have n3:cb≠f:=λe=>by have:=O.m_;rw[e,g.other f (Ne.symm n1),z.at_]at this;cases this
 have n4:B≠cb:=λe=>by have:=F.m_;rw[e,d.at_]at this;cases this
 have n5:B≠c:=λe=>by have:=F.m_;rw[e,d.other c (Ne.symm n2),C.other c (Ne.symm n2),g.at_]at this;cases this
 have n6:B≠f:=λe=>by have:=F.m_;rw[e,d.other f (Ne.symm n3),C.other f (Ne.symm n3),g.other f (Ne.symm n1),z.at_]at this;cases this
 have h6:∀x,x≠B->x≠cb->D x=m2 x:=λx Q G=>by rw[A.other x Q,P.other x Q,d.other x G,C.other x G]
 have W:D cb=some (.cells #[.slice none 0 0,.slice none 0 0,.map (some c)] 93 (0,0)):=by rw[A.other cb (Ne.symm n4),P.other cb (Ne.symm n4)];exact d.at_
 have X:D c=some (.map #[] 0):=by rw[h6 c (Ne.symm n5) (Ne.symm n2)];exact g.at_
 have b7:D f=some (.cells ⟨sc.enc⟩ 27 (0,0)):=by rw[h6 f (Ne.symm n6) (Ne.symm n3),g.other f (Ne.symm n1)];exact z.at_
 obtain⟨n,c1⟩:∃n:MH,n=λx=>if x=cb\/x=c then none else D x:=⟨_,rfl⟩
 have a9:∀x,x≠cb->x≠c->n x=D x:=λx Q G=>bo
 have Y:n cb=none:=bo
 have Z:n c=none:=bo
 have R:Sub n D:=λx o e=>by
  grind
 have j:Sub m n:=λx o e=>by
  have Q:=H x o e;have a1:x≠c:=λL=>by rw[L,V.m_]at Q;cases Q
  have G:m2 x=some o:=by rw[g.other x a1];exact Q
  have a2:x≠cb:=λL=>by rw[L,O.m_]at G;cases G
  have e3:m4 x=some o:=by rw[d.other x a2,C.other x a2];exact G
  have a3:x≠B:=λL=>by rw[L,F.m_]at e3;cases e3
  grind
 have c0:gO n D h1 cb c [] []:=⟨R,Y,Z,⟨#[],0,X,rfl⟩,bi,cG,cG,W,⟨[],aHQ D _ _,rfl,λi t e=>by simp at e⟩,aHQ D _ _,λb i e=>by simp[cG]at e,λb i e=>by simp[cG]at e⟩
 have I:cDZ n h1 s B f cb:=⟨by rw[a9 B n4 n5];exact A.at_,⟨sc,hs.mono E,bo⟩,ht.sub j,cYJ U⟩
 have b':=D7 s q [];simp only[length_nil,Nat.zero_add]at b';refine⟨(B,f,cb),.of_m A.at_ rfl,λy my hy=>PH.le h1 hy/\oY hy (fO s q []).1 y/\gO n my hy cb c (fO s q []).2 [],?_,λy m7 h7⟨b0,ry,c7⟩=>?_⟩
 .have a':Bc Tryz.prog 97=true:=bh
  refine Sound.fat (vs:=[.agg ⟨QV.enc v⟩,.pointer (some ⟨B,0,none⟩),.pointer (some ⟨f,0,none⟩),.pointer (some ⟨cb,0,none⟩)]) Tr ⟨v,q,s,B,f,cb,c,n,[],[],rfl,hq.mono E,T,S,I,c0,bn,λv' m' h' b1 rp c'=>⟨hU.enc v',?_,v',rfl,b1,rp,c'⟩⟩;have e:Vc.valOf Tryz.prog 97 (hU.enc v')= .agg ⟨hU.enc v'⟩:=by unfold Vc.valOf;rw[a']
  rw[e];rfl
 .refine⟨y,(fO s q []).1,y.env,n,cb,c,(fO s q []).2,[],rfl,ry,a8,c7,I.tab,aD,bn,λm8 h8 b2 c8=>?_⟩;rw[ry.env_]at c8;have c8:gO n m8 h8 cb c (kN s q).1 (kN s q).2:=c8;obtain⟨p,r,a0,⟨vs,hr,a4⟩,b3,b4,b5⟩:=c8.ex;refine⟨p,.of_m a0 rfl,r,.of_m a0 rfl,λa5=>?_⟩;have hd:Hf m8 h8:=⟨a5⟩
  have le:=(E.trans b0).trans b2
  have fr:∀b,n b=none->m b=none:=λb e=>by
   cases G:m b with
   |none=>rfl
   |some o=>rw[j b o G]at e;cases e
  have J:=iJ (fO s q []).1 ((fO s q []).1.env:Int) (fO s q []).2 [];have J:(kN s q).1.length<=(fO s q []).2.length+5*kU (fO s q []).1/\(kN s q).2.length<=0+kU (fO s q []).1:=J;refine⟨m,Cq m m8 h8,λb o e=>c8.sub b o (j b o e),le.trans (DM hd),λb i w e=>?_,hK p r _ (le.trans (DM hd)) ⟨⟨vs,v8.ice ⟨hr,λb i e=>fr b (b4 b i e)⟩,a4.1,λi t e=>let⟨u,k1,k2⟩:=a4.2 i t e;⟨u,k1,k2.mono (DM hd)⟩⟩,⟨v8.ice ⟨b3,λb i e=>fr b (b5 b i e)⟩,aD⟩,aD⟩⟩;unfold Cq at e
  grind
theorem J5:∀{l c:db}{r r':dr},(∀n∈l,xB n)->(∀n∈c,xB n)->l.length=c.length->i7 l++r=i7 c++r'->l=c/\r=r'
 |[],[],_,_,_,_,_,h=>⟨rfl,h⟩
 |[],_::_,_,_,_,_,d,_=>by simp at d
 |_::_,[],_,_,_,_,d,_=>by simp at d
 |m::l,n::c,r,r',f,g,d,h=>by
  rw[wF,wF,append_assoc,append_assoc,cons_append,cons_append]at h;obtain⟨a,h⟩:=iN (f m bi) (g n bi) h;obtain⟨b,h⟩:=J5 (λx e=>f x (by simp[e])) (λx e=>g x (by simp[e])) bo h
  grind
theorem KU:∀{l c:dh}{r r':dr},(∀p∈l,xB p.1/\xB p.2)->(∀p∈c,xB p.1/\xB p.2)->l.length=c.length->xG l++r=xG c++r'->l=c/\r=r'
 |[],[],_,_,_,_,_,h=>⟨rfl,h⟩
 |[],_::_,_,_,_,_,d,_=>by simp at d
 |_::_,[],_,_,_,_,d,_=>by simp at d
 |m::l,n::c,r,r',e,f,d,h=>by
  rw[Oq,Oq]at h;simp only[append_assoc,cons_append]at h;obtain⟨a,h⟩:=iN (e m bi).1 (f n bi).1 h;obtain⟨j,h⟩:=iN (e m bi).2 (f n bi).2 h;obtain⟨b,h⟩:=KU (λx g=>e x (by simp[g])) (λx g=>f x (by simp[g])) bo h
  grind
theorem KF:∀{l c:di}{r r':dr},(∀p∈l,xB p.1)->(∀p∈c,xB p.1)->l.length=c.length->xE l++r=xE c++r'->l=c/\r=r'
 |[],[],_,_,_,_,_,h=>⟨rfl,h⟩
 |[],_::_,_,_,_,_,d,_=>by simp at d
 |_::_,[],_,_,_,_,d,_=>by simp at d
 |m::l,n::c,r,r',f,g,d,h=>by
  rw[Oi,Oi]at h;simp only[append_assoc,cons_append]at h;have j:∀b:Bool,xB (if b then 1 else 0):=λb=>by cases b<;>exact⟨bj,bj⟩
  obtain⟨a,h⟩:=iN (f m bi) (g n bi) h;obtain⟨o,h⟩:=iN (j m.2) (j n.2) h;obtain⟨b,h⟩:=KF (λx e=>f x (by simp[e])) (λx e=>g x (by simp[e])) bo h
  grind
structure b1Q(t:Step):Prop where
 op_:xB t.op
 table_:xB t.table
 limit_:xB t.limit
 left_:xB t.left
 right_:xB t.right
 cols:t.columns.length<=8000000
 on_:t.on.length<=8000000
 group_:t.group.length<=8000000
 order_:t.order.length<=8000000
theorem aWJ{x}(e:b1X x)(f:b1X t)(c:b1Q x)(d:b1Q t)(h:stepB x=stepB t):x=t:=by
 obtain⟨op,ta,w,co,on,gr,od,li,le,T⟩:=x;obtain⟨D,E,U,F,G,H,I,J,L,M⟩:=t;have O:i7 []=[]:=rfl;simp only[stepB,wF,O,append_assoc,cons_append,nil_append]at h;obtain⟨j,h⟩:=iN c.op_ d.op_ h;obtain⟨n,h⟩:=iN c.table_ d.table_ h;obtain⟨o,h⟩:=iN c.limit_ d.limit_ h;obtain⟨u,h⟩:=iN c.left_ d.left_ h;obtain⟨y,h⟩:=iN c.right_ d.right_ h;obtain⟨z,h⟩:=Oo e.wher f.wher h;obtain⟨P,h⟩:=iN (yV c.cols) (yV d.cols) h;obtain⟨A,h⟩:=J5 e.cols f.cols (by simp only at P⊢;omega) h;obtain⟨Q,h⟩:=iN (yV c.on_) (yV d.on_) h;obtain⟨B,h⟩:=KU e.on_ f.on_ (by simp only at Q⊢;omega) h;obtain⟨R,h⟩:=iN (yV c.group_) (yV d.group_) h;obtain⟨C,h⟩:=J5 e.group_ f.group_ (by simp only at R⊢;omega) h;obtain⟨S,h⟩:=iN (yV c.order_) (yV d.order_) h;obtain⟨g,_⟩:=KF (r:=[]) (r':=[]) e.order_ f.order_ (by simp only at S⊢;omega) (bx h);simp only at j n o u y z A B C g;subst j n o u y z A B C g;rfl
structure dT(s:jC)(q:Query):Prop where
 kinds:(aK s [] q).2=0
 ints:QI q
 bnd:gM 4 q<=8000000
theorem dT.arg{op w on args}(g:dT s (.mk op ta w co on gr od li args)){a}(c:a∈args):dT s a:=
 ⟨(lO g.kinds).1 a c,(J1.1 g.ints).2 a c,cDX g.kinds g.bnd c⟩
theorem ZF{op w on args}(u:s.tables.length<=1000)(h:(aK s [] (.mk op ta w co on gr od li args)).2=0):xB op/\xB ta/\xB li:=by
 obtain⟨_,g,a,b,_,_,c⟩:=lO h;unfold eV at c;by_cases d:arity op<0\/¬dC (.mk op ta w co on gr od li args)
 .rw[if_pos d]at c;simp[eK]at c
 .rw[if_neg d]at c;rw[not_or]at d;obtain⟨j,_,_,_,n⟩:dC (.mk op ta w co on gr od li args):=Classical.not_not.1 d.2
  have o:1<=op/\op<=10:=by
   have f:=d.1;unfold arity at f;simp only[beq_iff_eq,Bool.or_eq_true]at f;omega
  refine⟨kG aD aD,?_,?_⟩
  .rcases j with rfl|rfl
   .dsimp only at c;simp only[if_true]at c;split at c
    .rename_i e;exact kG aD aD
    .simp[eK]at c
   .exact HZ
  .rcases n with rfl|rfl|⟨_,_,rfl⟩
   .dsimp only at c;simp only[show¬((9:Int)=1)by decide,show¬((9:Int)=2)by decide,show¬((9:Int)=3)by decide,show¬((9:Int)=4)by decide,show¬((9:Int)=5)by decide,if_false,if_true]at c;split at c
    .rename_i e;exact kG (by have:=e.low;omega) (by have:=e.high;omega)
    .simp[eK]at c
   .dsimp only at c;simp only[show¬((10:Int)=1)by decide,show¬((10:Int)=2)by decide,show¬((10:Int)=3)by decide,show¬((10:Int)=4)by decide,show¬((10:Int)=5)by decide,show¬((10:Int)=9)by decide,if_false,if_true]at c;split at c
    .rename_i e;exact kG (by have:=e.2.low;omega) (by have:=e.2.high;omega)
    .simp[eK]at c
   .exact HZ
structure Fi(s:jC)(ts:dn):Prop where
 ar:∀(i:Nat) t,ts[i]? =some t->0<=arity t.op
 fit:∀(i:Nat) t,ts[i]? =some t->qL i t
 nodup:(ts.map stepB).Nodup
 good:∀i,i<ts.length->dT s (aW ts i)
 short:∀t∈ts,t.columns.length<=1000/\t.on.length<=1000/\t.group.length<=1000/\t.order.length<=1000
theorem Fi.ok(v:Fi s ts):Dq ts:=λi t e=>⟨v.ar i t e,Mc (v.ar i t e) (v.fit i t e)⟩
theorem Fi.nil s:Fi s []:=⟨λi t e=>by simp at e,λi t e=>by simp at e,bi,λi c=>by simp at c,λt d=>by simp at d⟩
theorem Q8{a u}(h:Fc a u i=true)(c:i<=8000000):xB a:=by
 unfold Fc at h;split at h
 .simp only[cm,cr]at h;exact kG aD aD
 .have:a=0:=bx h
  rw[this];exact HZ
theorem P9{q args}(j:s.tables.length<=1000)(g:dT s q)(n:q= .mk t.op t.table t.wher t.columns t.on t.group t.order t.limit args)(d:qL i t)(e:i<=8000000)(D:t.columns.length<=1000/\t.on.length<=1000/\t.group.length<=1000/\t.order.length<=1000):b1X t/\b1Q t:=by
 have c:=g.ints;have f:=g.kinds;rw[n]at c f;rw[J1]at c;obtain⟨o,u,x,y,z⟩:=c.1;obtain⟨A,B,C⟩:=ZF j f;exact⟨⟨o,u,x,y,z⟩,⟨A,B,C,Q8 d.1 e,Q8 d.2 e,aD,aD,aD,aD⟩⟩
theorem bBZ{s ts t q}(H:s.tables.length<=1000)(v:Fi s ts)(I:ts.length<=100000)(J:0<=arity t.op)(D:qL ts.length t)(g:dT s q)(E:q= .mk t.op t.table t.wher t.columns t.on t.group t.order t.limit (DS ts t))(M:t.columns.length<=1000/\t.on.length<=1000/\t.group.length<=1000/\t.order.length<=1000):
 Fi s (cC t ts).1/\ts<+:(cC t ts).1/\(cC t ts).2<(cC t ts).1.length/\aW (cC t ts).1 (cC t ts).2=q:=by
 obtain⟨O,P⟩:=P9 H g E D aD M;by_cases y:∀x∈ts,stepB x≠stepB t
 .rw[Y5 y];dsimp only
  have c:∀(i:Nat) u,(ts++[t])[i]? =some u->ts[i]? =some u\/(i=ts.length/\u=t):=λi u e=>by
   grind
  have f:∀(i:Nat) u,(ts++[t])[i]? =some u->0<=arity u.op:=λi u e=>by
   rcases c i u e with e|⟨_,rfl⟩
   .exact v.ar i u e
   .exact J
  have d:∀(i:Nat) u,(ts++[t])[i]? =some u->qL i u:=λi u e=>by
   rcases c i u e with e|⟨rfl,rfl⟩
   .exact v.fit i u e
   .exact D
  have j:Dq (ts++[t]):=λi u e=>⟨f i u e,Mc (f i u e) (d i u e)⟩
  have F:ts<+:ts++[t]:=prefix_append _ _
  have n:aW (ts++[t]) ts.length=q:=by
   rw[rQ j (t:=t) bi,E]
   have:DS (ts++[t]) t=DS ts t:=map_congr_left λa L=>by
    have:=Mc J D a L;exact fD F j a.toNat aD
   rw[this]
  refine⟨⟨f,d,?_,λi o=>?_,λu B=>?_⟩,F,bi,n⟩
  .rw[cj,nodup_append];refine⟨v.nodup,bi,λa L b T=>?_⟩
   grind
  .by_cases z:i<ts.length
   .rw[fD F j i z];exact v.good i z
   grind
  .rcases mem_append.1 B with B|B
   .exact v.short u B
   grind
 .have:∃x∈ts,stepB x=stepB t:=Classical.byContradiction λQ=>y λx C e=>Q ⟨x,C,e⟩;obtain⟨x,C,e⟩:=this;obtain⟨i,o⟩:=mem_iff_getElem?.1 C;have A:=(bz o);obtain⟨R,S⟩:=P9 H (v.good i A) (rQ v.ok o) (v.fit i x o) aD (v.short x C);have G:x=t:=aWJ R O S P e;subst G;rw[Y4 v.nodup o rfl];exact⟨v,prefix_refl _,A,by rw[rQ v.ok o,E]⟩
theorem WH(v:Fi s ts)(d:ts[i]? =some t):D9 s ((List.range i).map λj=>(aK s [] (aW ts j)).1) t=((aK s [] (aW ts i)).1,0):=by
 have A:=(bz d);have g:=(v.good i A).kinds;have B:=rQ v.ok d;rw[B]at g⊢
 have C:=HW g;have E:=v.ar i t d;have F:=FG t.op;have x:=v.fit i t d;have c:=(v.ok i t d).2;have D:((List.range i).map λj=>(aK s [] (aW ts j)).1).length=i:=bi
 have y:D3 ((List.range i).map λj=>(aK s [] (aW ts j)).1) t.left (decide (arity t.op>0))=((DS ts t).map λq=>(aK s [] q).1).getD 0 []/\D3 ((List.range i).map λj=>(aK s [] (aW ts j)).1) t.right (decide (arity t.op>1))=((DS ts t).map λq=>(aK s [] q).1).getD 1 []:=by
  obtain⟨n,f⟩:∃n:Nat,arity t.op=n:=⟨(arity t.op).toNat,aD⟩
  unfold DS;unfold Cc at c⊢
  rw[f,Int.toNat_natCast]at c⊢
  match n,f,c with
  |0,_,_=>exact⟨rfl,rfl⟩
  |1,f,c=>
   have o:=c t.left bi;exact⟨RW o.1 o.2,rfl⟩
  |2,f,c=>
   have o:=c t.left bi;have z:=c t.right bi;exact⟨RW o.1 o.2,RW z.1 z.2⟩
  |n+3,f,_=>omega
 have u:eV s [] t.query (D3 ((List.range i).map λj=>(aK s [] (aW ts j)).1) t.left (decide (arity t.op>0))) (D3 ((List.range i).map λj=>(aK s [] (aW ts j)).1) t.right (decide (arity t.op>1)))=aK s [] (.mk t.op t.table t.wher t.columns t.on t.group t.order t.limit (DS ts t)):=by
  rw[C,y.1,y.2];rfl
 unfold D9;rw[u,D,if_neg,if_neg aD]
 .grind
 .rintro(e|e|e)
  .omega
  .rw[x.1]at e;cases e
  .rw[x.2]at e;cases e
theorem KD{s:jC}{ts:dn}(v:Fi s ts):∀(n i:Nat),i+n=ts.length->(DD s ((List.range i).map λj=>(aK s [] (aW ts j)).1) (ts.drop i)).2=0
 |0,i,d=>by
  rw[drop_of_length_le aD];rfl
 |n+1,i,d=>by
  have c:ts[i]? =some ts[i]:=cd aD;rw[Od c,WH v c,if_pos rfl];have:=KD v n (i+1) aD
  rwa [range_succ,cj]at this
theorem W4(v:Fi s ts)(c:eX s=0)(d:ts.length<=1024)(e:rs.length<=32)(f:∀r∈rs,0<=r/\r<ts.length):iF s ts rs=0:=by
 rw[JL c aD,if_neg,if_pos]
 .grind
 .have:=KD v ts.length 0 aD
  grind
mutual
def cE:Query->Query
 |.mk op ta w co on gr od li args=>if B4 op=true then(Hj args).getD 0 aCJ else .mk op ta w co on gr od li (Hj args)
def Hj:dl->dl
 |[]=>[]
 |q::qs=>cE q::Hj qs
end
theorem FC:∀l:dl,Hj l=l.map cE
 |[]=>by simp[Hj]
 |q::l=>by rw[Hj,FC l];rfl
def lD(a b:Query)(on:dh):Query:=.mk 5 0 fN [] on [] [] 0 [a,b]
def jE(a b:Query):Query:=.mk 8 0 fN [] [] [] [] 0 [a,b]
def Ec(a:Query)(co:db):Query:=.mk 3 0 fN co [] [] [] 0 [a]
def Cy(a b:Query)(gr:db)(od:di)(li:Int):Query:=.mk 10 0 fN [] [] gr od li [a,b]
def nW(wd:Query->Int)(q D:Query):dl:=
 match q with
 |.mk op _ _ co on gr od li args=>
  match args with
  |[]=>if op=1 then[D]else[]
  |[a]=>
   if op=2 then nW wd a D
   else if op=3 then nW wd a (lD (cE a) D (mJ co))
   else if op=9 then nW wd a (Cy (lD (cE a) D (rR gr)) a gr od li)
   else[]
  |a::b::_=>
   if op=4 then nW wd a (Ec (lD D b (AT (wd a) (wd b))) (fZ 0 (wd a)))++nW wd b (Ec D (fZ (wd a) (wd b)))
   else if op=5 then nW wd a (lD D b on)++nW wd b (lD (cE b) D (pP on))
   else if op=6 then nW wd a (jE (cE a) D)++nW wd b (jE (cE b) D)
   else if op=7\/op=8 then nW wd a D++nW wd b (jE (jE (cE b) D) a)
   else if op=10 then nW wd a D++nW wd b (Cy (lD (cE b) D (rR gr)) b gr od li)
   else[]
 termination_by SizeOf.sizeOf q
noncomputable def uL s q:=((aK s [] q).1.length:Int)
def cfZ(s:jC)(op ta:Int)(co a b:db):=if op=1 then jR s ta else if op=3 then co.map (λc=>a.getD c.toNat 0)else if op=4 then a++b else a
structure b5J(s:jC)(op ta:Int)(co:db)(on:dh)(gr:db)(od:di)(li:Int)(a b:db)(r:db):Prop where
 out:r=cfZ s op ta co a b
 len:r.length<=12
 tab:op=1->0<=ta/\ta<s.tables.length
 proj:op=3->co≠[]/\Good (λ_ c=>DZ a c=true) co
 pair:op=4\/op=5->Good (nH a b) on
 rank:op=9\/op=10->mW a gr od li
 same:op=6\/op=7\/op=8\/op=10->a=b
theorem uI(h:(mT l).2=0):l.length<=12:=by
 unfold mT at h
 grind
theorem Xd{op w on args b}(h:(eV s [] (.mk op ta w co on gr od li args) a b).2=0):
 b5J s op ta co on gr od li a b (eV s [] (.mk op ta w co on gr od li args) a b).1/\1<=op/\op<=10:=by
 unfold eV at h⊢
 by_cases d:arity op<0\/¬dC (.mk op ta w co on gr od li args)
 .rw[if_pos d]at h;simp[eK]at h
 rw[if_neg d]at h⊢
 rw[not_or]at d;have f:=d.1
 have e:op=1\/op=2\/op=3\/op=9\/op=4\/op=5\/op=6\/op=7\/op=8\/op=10:=by
  unfold arity at f
  grind
 refine⟨?_,aD,aD⟩;dsimp only at h⊢
 rcases e with rfl|rfl|rfl|rfl|rfl|rfl|rfl|rfl|rfl|rfl
 .simp only[if_true]at h⊢
  split at h
  .rename_i c;rw[if_pos c];rw[tZ h];exact⟨rfl,uI h,λ_=>c,bi,bi,bi,bi⟩
  .simp[eK]at h
 .simp only[show¬((2:Int)=1)by decide,if_true,if_false]at h⊢
  split at h
  .rename_i c;rw[if_pos c];rw[tZ h];exact⟨rfl,uI h,bi,bi,bi,bi,bi⟩
  .rename_i c;simp[eK]at h;omega
 .simp only[show¬((3:Int)=1)by decide,show¬((3:Int)=2)by decide,if_true,if_false]at h⊢
  split at h
  .rename_i c;rw[if_pos c];rw[tZ h];exact⟨rfl,uI h,bi,λ_=>c,bi,bi,bi⟩
  .simp[eK]at h
 .simp only[show¬((9:Int)=1)by decide,show¬((9:Int)=2)by decide,show¬((9:Int)=3)by decide,show¬((9:Int)=4)by decide,show¬((9:Int)=5)by decide,if_true,if_false]at h⊢
  split at h
  .rename_i c;rw[if_pos c];rw[tZ h];exact⟨rfl,uI h,bi,bi,bi,λ_=>c,bi⟩
  .simp[eK]at h
 .simp only[show¬((4:Int)=1)by decide,show¬((4:Int)=2)by decide,show¬((4:Int)=3)by decide,if_true,if_false]at h⊢
  split at h
  .rename_i c;rw[if_pos c];rw[tZ h];exact⟨rfl,uI h,bi,bi,λ_=>c,bi,bi⟩
  .simp[eK]at h
 .simp only[show¬((5:Int)=1)by decide,show¬((5:Int)=2)by decide,show¬((5:Int)=3)by decide,show¬((5:Int)=4)by decide,if_true,if_false]at h⊢
  split at h
  .rename_i c;rw[if_pos c];rw[tZ h];exact⟨rfl,uI h,bi,bi,λ_=>c,bi,bi⟩
  .simp[eK]at h
 .simp only[show¬((6:Int)=1)by decide,show¬((6:Int)=2)by decide,show¬((6:Int)=3)by decide,show¬((6:Int)=4)by decide,show¬((6:Int)=5)by decide,show¬((6:Int)=9)by decide,show¬((6:Int)=10)by decide,if_true,if_false]at h⊢
  split at h
  .rename_i c;rw[if_pos c];rw[tZ h];exact⟨rfl,uI h,bi,bi,bi,bi,λ_=>c⟩
  .simp[eK]at h
 .simp only[show¬((7:Int)=1)by decide,show¬((7:Int)=2)by decide,show¬((7:Int)=3)by decide,show¬((7:Int)=4)by decide,show¬((7:Int)=5)by decide,show¬((7:Int)=9)by decide,show¬((7:Int)=10)by decide,if_true,if_false]at h⊢
  split at h
  .rename_i c;rw[if_pos c];rw[tZ h];exact⟨rfl,uI h,bi,bi,bi,bi,λ_=>c⟩
  .simp[eK]at h
 .simp only[show¬((8:Int)=1)by decide,show¬((8:Int)=2)by decide,show¬((8:Int)=3)by decide,show¬((8:Int)=4)by decide,show¬((8:Int)=5)by decide,show¬((8:Int)=9)by decide,show¬((8:Int)=10)by decide,if_true,if_false]at h⊢
  split at h
  .rename_i c;rw[if_pos c];rw[tZ h];exact⟨rfl,uI h,bi,bi,bi,bi,λ_=>c⟩
  .simp[eK]at h
 .simp only[show¬((10:Int)=1)by decide,show¬((10:Int)=2)by decide,show¬((10:Int)=3)by decide,show¬((10:Int)=4)by decide,show¬((10:Int)=5)by decide,show¬((10:Int)=9)by decide,if_true,if_false]at h⊢
  split at h
  .rename_i c;rw[if_pos c];rw[tZ h];exact⟨rfl,uI h,bi,bi,bi,λ_=>c.2,λ_=>c.1⟩
  .simp[eK]at h
theorem L0(h:l.length<=12):mT l=(l,0):=by unfold mT;rw[if_pos h]
theorem a0J{on args b}(h:a.length<=12)(c:Good (nH a b) on):eV s [] (.mk 5 0 fN [] on [] [] 0 args) a b=(a,0):=by
 unfold eV;rw[if_neg (by simp[dC,arity])];simp only[show¬((5:Int)=1)by decide,show¬((5:Int)=2)by decide,show¬((5:Int)=3)by decide,show¬((5:Int)=4)by decide,if_true,if_false,if_pos c,L0 h]
theorem ZG{args}(h:a.length<=12):eV s [] (.mk 8 0 fN [] [] [] [] 0 args) a a=(a,0):=by
 unfold eV;rw[if_neg (by simp[dC,arity])];simp only[show¬((8:Int)=1)by decide,show¬((8:Int)=2)by decide,show¬((8:Int)=3)by decide,show¬((8:Int)=4)by decide,show¬((8:Int)=5)by decide,show¬((8:Int)=9)by decide,show¬((8:Int)=10)by decide,if_true,if_false,L0 h]
theorem a1Q{args b}(d:co≠[])(e:Good (λ_ c=>DZ a c=true) co)(h:co.length<=12):eV s [] (.mk 3 0 fN co [] [] [] 0 args) a b=(co.map (λc=>a.getD c.toNat 0),0):=by
 unfold eV;rw[if_neg (by simp[dC,arity])];simp only[show¬((3:Int)=1)by decide,show¬((3:Int)=2)by decide,if_true,if_false];rw[if_pos ⟨d,e⟩,L0 (bx h)]
theorem a1X{args}(h:a.length<=12)(c:mW a gr od li):eV s [] (.mk 10 0 fN [] [] gr od li args) a a=(a,0):=by
 unfold eV;rw[if_neg (by simp[dC,arity])];simp only[show¬((10:Int)=1)by decide,show¬((10:Int)=2)by decide,show¬((10:Int)=3)by decide,show¬((10:Int)=4)by decide,show¬((10:Int)=5)by decide,show¬((10:Int)=9)by decide,if_true,if_false];rw[if_pos ⟨rfl,c⟩,L0 h]
theorem dT.k{q}(g:dT s q):aK s [] q=((aK s [] q).1,0):=Prod.ext rfl g.kinds
theorem dT.two{op w on a b K}(c:dT s a)(d:dT s b)(g:arity op=2)(j:eV s [] (.mk op ta w co on gr od li [a,b]) (aK s [] a).1 (aK s [] b).1=(K,0))(n:ES w)(o:gM 4 (.mk op ta w co on gr od li [a,b])<=8000000):
 dT s (.mk op ta w co on gr od li [a,b])/\(aK s [] (.mk op ta w co on gr od li [a,b])).1=K:=by
 have e:aK s [] (.mk op ta w co on gr od li [a,b])=(K,0):=by
  rw[aK,vX (ks:=[(aK s [] a).1,(aK s [] b).1]) (by show[aK s [] a,aK s [] b]=[((aK s [] a).1,0),((aK s [] b).1,0)];rw[<-c.k, <-d.k])]
  grind
 refine⟨⟨by rw[e],J1.2 ⟨ZH (s:=s) (ps:=[]) (a:=(aK s [] a).1) (b:=(aK s [] b).1) (jB ..) (jB ..) bi n (by rw[j]),λq f=>?_⟩,o⟩,by rw[e]⟩;simp at f;rcases f with rfl|rfl
 .exact c.ints
 .exact d.ints
theorem dT.one{op w on a K}(c:dT s a)(f:arity op=1)(g:eV s [] (.mk op ta w co on gr od li [a]) (aK s [] a).1 []=(K,0))(j:ES w)(n:gM 4 (.mk op ta w co on gr od li [a])<=8000000):
 dT s (.mk op ta w co on gr od li [a])/\(aK s [] (.mk op ta w co on gr od li [a])).1=K:=by
 have d:aK s [] (.mk op ta w co on gr od li [a])=(K,0):=by
  rw[aK,vX (ks:=[(aK s [] a).1]) (by show[aK s [] a]=[((aK s [] a).1,0)];rw[<-c.k])]
  grind
 refine⟨⟨by rw[d],J1.2 ⟨ZH (s:=s) (ps:=[]) (a:=(aK s [] a).1) (b:=[]) (jB ..) bi bi j (by rw[g]),λq e=>?_⟩,n⟩,by rw[d]⟩;simp at e;subst e;exact c.ints
theorem Fm{s a b on}(c:dT s a)(d:dT s b)(e:Good (nH (aK s [] a).1 (aK s [] b).1) on)(f:gM 4 a+gM 4 b<=8000000):dT s (lD a b on)/\(aK s [] (lD a b on)).1=(aK s [] a).1:=
 dT.two c d rfl (a0J (jB ..) e) rH (by simpa[gM,vP]using f)
theorem Bd{a b}(c:dT s a)(d:dT s b)(e:(aK s [] a).1=(aK s [] b).1)(f:gM 4 a+gM 4 b<=8000000):dT s (jE a b)/\(aK s [] (jE a b)).1=(aK s [] a).1:=
 dT.two c d rfl (by rw[<-e];exact ZG (jB ..)) rH (by simpa[gM,vP]using f)
theorem S4{s a co}(d:dT s a)(e:co≠[])(f:Good (λ_ c=>DZ (aK s [] a).1 c=true) co)(g:co.length<=12)(j:gM 4 a<=8000000):dT s (Ec a co)/\(aK s [] (Ec a co)).1=co.map (λc=>(aK s [] a).1.getD c.toNat 0):=
 dT.one d rfl (a1Q e f g) rH (by simpa[gM,vP]using j)
theorem aZQ{s a b gr od li}(c:dT s a)(d:dT s b)(e:(aK s [] a).1=(aK s [] b).1)(f:mW (aK s [] a).1 gr od li)(g:gM 4 a+gM 4 b<=8000000):dT s (Cy a b gr od li)/\(aK s [] (Cy a b gr od li)).1=(aK s [] a).1:=
 dT.two c d rfl (by rw[<-e];exact a1X (jB ..) f) rH (by simpa[gM,vP]using g)
theorem dT.node{op w on args}(g:dT s (.mk op ta w co on gr od li args)):
 b5J s op ta co on gr od li ((args.map λq=>(aK s [] q).1).getD 0 []) ((args.map λq=>(aK s [] q).1).getD 1 []) (aK s [] (.mk op ta w co on gr od li args)).1/\(1<=op/\op<=10)/\(args.length:Int)=arity op/\∀a∈args,dT s a:=by
 have c:=HW g.kinds;have h:=g.kinds;rw[c]at h;have:=Xd h;rw[<-c]at this;exact⟨this.1,this.2,(lO g.kinds).2.1,λa d=>g.arg d⟩
theorem bAJ{op on args w}(g:dT s (.mk op ta w co on gr od li args)):co.length<=12/\on.length<=12/\gr.length<=12/\od.length<=12:=by
 obtain⟨_,_,a,b,D,_,h⟩:=lO g.kinds;have n:=(Xd h).1
 have u:dC (.mk op ta w co on gr od li args):=by
  unfold eV at h;by_cases z:arity op<0\/¬dC (.mk op ta w co on gr od li args)
  .rw[if_pos z]at h;simp[eK]at h
  grind
 obtain⟨_,_,A,B,C⟩:=u
 have d:Good (nH a b) on->on.length<=12:=λg=>by
  have:=Ma (f:=λp=>p.1) (n:=a.length) g (λc x t=>by have:=t.1;rw[eZ]at this;exact this) (λc x t y o=>(t.2.2.2 y o).1);omega
 have j:mW a gr od li->gr.length<=12/\od.length<=12:=λr=>by
  have:=Ma (f:=λp=>p) (n:=a.length) r.group_ (λc x t=>by have:=t.1;rw[eZ]at this;exact this) (λc x t y o e=>t.2 (by grind));exact⟨aD,r.len_⟩
 refine⟨?_,?_,?_⟩
 .rcases A with rfl|rfl
  .have:=n.len;rw[n.out]at this;simpa[cfZ]using this
  .simp
 .rcases B with rfl|rfl|rfl
  .exact d (n.pair (.inl rfl))
  .exact d (n.pair (.inr rfl))
  .simp
 .rcases C with rfl|rfl|⟨rfl,rfl,_⟩
  .exact j (n.rank (.inl rfl))
  .exact j (n.rank (.inr rfl))
  .simp
theorem JQ{s:jC}:∀{l c:dl},l.map (aK s [])=c.map (aK s [])->fH s [] l=fH s [] c
 |[],[],_=>rfl
 |[],_::_,h=>by simp at h
 |_::_,[],h=>by simp at h
 |q::l,d::c,h=>by
  simp only[map_cons,List.cons.injEq]at h;rw[fH,fH,h.1,JQ h.2]
theorem ZP{op w on args c}(h:c.map (aK s [])=args.map (aK s [])):aK s [] (.mk op ta w co on gr od li c)=aK s [] (.mk op ta w co on gr od li args):=by
 rw[aK,aK,JQ h];split;rename_i ks e _;rw[J6 s [] op ta w co on gr od li c,J6 s [] op ta w co on gr od li args]
theorem brZ{f:Query->Query}:∀{l:dl},(∀a∈l,gM 4 (f a)<=gM 4 a)->vP 4 (l.map f)<=vP 4 l/\yZ 4 (l.map f)<=yZ 4 l
 |[],_=>⟨Nat.le_refl _,Nat.le_refl _⟩
 |q::l,h=>by
  have c:=h q bi;have d:=brZ (l:=l) λa e=>h a (by simp[e]);simp only[map_cons,vP,yZ];exact⟨aD,Nat.mul_le_mul c d.2⟩
theorem aOZ{op w on args}(g:dT s (.mk op ta w co on gr od li args)){a}(d:a∈args):gM 4 a<=gM 4 (.mk op ta w co on gr od li args):=by
 obtain⟨j,f,n,_⟩:=zJ g.k;have o:=Mw (c:=4) aD f a d;rw[gM];split
 .rename_i e;subst e;rw[MQ f n]at d;cases d
 grind
theorem Vo{op}(h:B4 op=true):op=7\/op=9\/op=10:=by
 unfold B4 at h
 grind
theorem nT{s:jC}:∀q:Query,dT s q->dT s (cE q)/\(aK s [] (cE q)).1=(aK s [] q).1/\gM 4 (cE q)<=gM 4 q
 |.mk op ta w co on gr od li args,g=>by
  obtain⟨n,z,A,u⟩:=g.node;have j:∀a∈args,dT s (cE a)/\(aK s [] (cE a)).1=(aK s [] a).1/\gM 4 (cE a)<=gM 4 a:=λa d=>nT a (u a d);rw[cE];split
  .rename_i B;have C:=Vo B
   obtain⟨a,c,rfl⟩:∃a c,args=a::c:=by
    cases args with
    |nil=>
     exfalso;have:(1:Int)<=arity op:=by rcases C with rfl|rfl|rfl<;>decide
     grind
    |cons a c=>grind
   have o:=j a bi;have e:(Hj (a::c)).getD 0 aCJ=cE a:=by rw[Hj];rfl
   rw[e];refine⟨o.1,?_,cv o.2.2 (aOZ g bi)⟩;rw[o.2.1,n.out];unfold cfZ
   grind
  .rw[FC]
   have x:aK s [] (.mk op ta w co on gr od li (args.map cE))=aK s [] (.mk op ta w co on gr od li args):=ZP (by
    rw[map_map];refine map_congr_left λa d=>?_;show aK s [] (cE a)=aK s [] a;rw[(j a d).1.k,(u a d).k,(j a d).2.1])
   have y:gM 4 (.mk op ta w co on gr od li (args.map cE))<=gM 4 (.mk op ta w co on gr od li args):=by
    have:=brZ (l:=args) (f:=cE) λa d=>(j a d).2.2;simp only[gM]
    grind
   refine⟨⟨by rw[x];exact g.kinds,J1.2 ⟨(J1.1 g.ints).1,λq D=>?_⟩,cv y g.bnd⟩,by rw[x],y⟩;obtain⟨a,d,rfl⟩:=mem_map.1 D;exact(j a d).1.ints
 termination_by q=>SizeOf.sizeOf q
theorem btQ(h:eX s=0){t:Int}(e:0<=t)(f:t<s.tables.length):0<(jR s t).length:=by
 have c:MA s:=by
  unfold eX at h
  grind
 unfold jR;rw[if_neg aD];have d:t.toNat<s.tables.length:=by omega
 rw[cd d];have:=c.2.2.1 t.toNat _ (cd d);have g:=this.2.1;have j:=this.2.2.1
 grind
theorem WR(h:eX s=0):s.tables.length<=1000:=by
 unfold eX at h;split at h
 .rename_i e;have:=e.1;omega
 .cases h
theorem M8{s:jC}(f:eX s=0):∀q:Query,dT s q->0<(aK s [] q).1.length
 |.mk op ta w co on gr od li args,g=>by
  obtain⟨n,j,d,o⟩:=g.node;rw[n.out]
  have u:op≠1->∃a c,args=a::c:=λz=>by
   cases args with
   |nil=>
    exfalso;simp only[length_nil]at d;unfold arity at d
    grind
   |cons a c=>grind
  unfold cfZ;split
  .rename_i e;exact btQ f (n.tab e).1 (n.tab e).2
  .rename_i x;obtain⟨a,c,rfl⟩:=u x;have A:=M8 f a (o a bi);split
   .rename_i y;have:=(n.proj y).1
    grind
   grind
 termination_by q=>SizeOf.sizeOf q
theorem awQ{op w on ks}(h:(ks.length:Int)=arity op):DS ts (AV op ta w co on gr od li ks)=ks.map (aW ts):=by
 have c:=FG op;unfold DS Cc AV;dsimp only;rw[<-h,Int.toNat_natCast]
 match ks,h with
 |[],_=>rfl
 |[a],_=>simp
 |[a,b],_=>simp
 |_::_::_::_,h=>grind
theorem bDZ{n op w on ks}(h:(ks.length:Int)=arity op)(c:∀k∈ks,k<n):qL n (AV op ta w co on gr od li ks):=by
 have d:=FG op;unfold qL AV Fc;dsimp only;rw[<-h]
 match ks,h,c with
 |[],_,_=>simp
 |[a],_,c=>have:=c a bi;simp;omega
 |[a,b],_,c=>have:=c a bi;have:=c b bi;simp;omega
 |_::_::_::_,h,_=>grind
structure Cf(s:jC)(ts ts':dn)(k:Nat)(q:Query):Prop where
 inv:Fi s ts'
 pre:ts<+:ts'
 lt:k<ts'.length
 is:aW ts' k=q
theorem My{s:jC}{ts:dn}{op ta:Int}{w:Pred}{co on gr od li ks args}(d:s.tables.length<=1000)(v:Fi s ts)(e:ts.length<=100000)(c:(ks.length:Int)=arity op)(f:∀k∈ks,k<ts.length)(j:ks.map (aW ts)=args)(g:dT s (.mk op ta w co on gr od li args)):
 Cf s ts (cC (AV op ta w co on gr od li ks) ts).1 (cC (AV op ta w co on gr od li ks) ts).2 (.mk op ta w co on gr od li args):=by
 obtain⟨y,z,A,B⟩:=bAJ g;obtain⟨n,o,u,x⟩:=bBZ (t:=AV op ta w co on gr od li ks) d v e (by show 0<=arity op;omega) (bDZ c f) g (by rw[awQ c,j];rfl) ⟨by show co.length<=1000;omega,by show on.length<=1000;omega,by show gr.length<=1000;omega,by show od.length<=1000;omega⟩;exact⟨n,o,u,x⟩
def Ip(s:jC)(ts:dn)(p:PN):Prop:=
 match p with
 |.mk q args r e c=>r<ts.length/\e<ts.length/\aW ts r=q/\aW ts e=cE q/\c=uL s q/\dT s q/\q.args=args.map PN.q/\∀a∈args,Ip s ts a
 termination_by SizeOf.sizeOf p
theorem Ip.mono{s:jC}{ts c:dn}(d:ts<+:c)(ok:Dq c):∀p:PN,Ip s ts p->Ip s c p
 |.mk q args r e A,h=>by
  rw[Ip]at h⊢
  obtain⟨f,g,j,n,o,u,x,y⟩:=h;have B:=d.length_le;exact⟨aD,aD,by rw[fD d ok r f];exact j,by rw[fD d ok e g];exact n,o,u,x,λa z=>Ip.mono d ok a (y a z)⟩
 termination_by p=>SizeOf.sizeOf p
theorem Ip.get{p}(h:Ip s ts p):p.rows<ts.length/\p.env<ts.length/\aW ts p.rows=p.q/\aW ts p.env=cE p.q/\p.width=uL s p.q/\dT s p.q/\p.q.args=p.args.map PN.q/\∀a∈p.args,Ip s ts a:=by
 cases p;rw[Ip]at h;exact h
theorem bvQ{s:jC}{ts:dn}:∀p:PN,Ip s ts p->JJ p/\kU p=kF p.q
 |.mk (.mk op ta w co on gr od li c) args r e y,h=>by
  rw[Ip]at h;obtain⟨_,_,_,_,j,f,d,n⟩:=h;have d:c=args.map PN.q:=d;obtain⟨z,A,B,C⟩:=bAJ f;obtain⟨_,_,o,_⟩:=f.node;have g:∀a∈args,JJ a/\kU a=kF a.q:=λa u=>bvQ a (n a u);have D:=jB s [] (.mk op ta w co on gr od li c);unfold uL at j;refine⟨?_,?_⟩
  .rw[JJ]
   grind
  .have key:∀l:List PN,(∀a∈l,kU a=kF a.q)->sY l=kC (l.map PN.q):=by
    intro l
    induction l with
    |nil=>intro _;simp[sY,kC]
    |cons a l g=>intro h;simp only[sY,map_cons,kC,h a bi,g λb x=>h b (by simp[x])]
   simp only[kU,PN.q,kF,d]
   grind
 termination_by p=>SizeOf.sizeOf p
mutual
theorem Wx{s:jC}(u:s.tables.length<=1000):∀(q:Query)(ts:dn),dT s q->Fi s ts->ts.length+2*kF q<=100000->Fi s (fO s q ts).2/\ts<+:(fO s q ts).2/\Ip s (fO s q ts).2 (fO s q ts).1/\(fO s q ts).1.q=q
 |.mk op ta w co on gr od li args,ts,g,v,E=>by
  obtain⟨n,F,G,H⟩:=g.node;simp only[kF]at E;have f:=N4 (.mk op ta w co on gr od li args) ts g.kinds;obtain⟨I,z,x,j⟩:=SK u args ts H v aD;have Q:=zZ s args ts;rw[Is]at f⊢
  generalize R:(eO s args ts).1=P at*
  generalize S:(eO s args ts).2=T at*
  have B:P.length=args.length:=bo
  have J:(P.map PN.rows).map (aW T)=args:=by
   rw[map_map, <-j];exact map_congr_left λp d=>(x p d).get.2.2.1
  have A:=My u I aD bo (λk y=>by obtain⟨p,d,rfl⟩:=mem_map.1 y;exact(x p d).get.1) J g;have o:∀p∈P,Ip s (cC (AV op ta w co on gr od li (P.map PN.rows)) T).1 p:=λp d=>Ip.mono A.pre A.inv.ok p (x p d);have L:=eA (AV op ta w co on gr od li (P.map PN.rows)) T;unfold auX at f⊢
  dsimp only at f⊢
  split at f
  .rename_i c;rw[if_pos c];have M:=Vo c
   obtain⟨p,e,rfl⟩:∃a e,P=a::e:=by
    cases P with
    |nil=>
     exfalso;have:(1:Int)<=arity op:=by rcases M with rfl|rfl|rfl<;>decide
     grind
    |cons a e=>grind
   have C:=(o p bi).get;refine⟨A.inv,z.trans A.pre,?_,rfl⟩;rw[Ip];refine⟨A.lt,C.2.1,A.is,?_,f,g,j.symm,o⟩;show aW _ p.env=_;rw[C.2.2.2.1,cE,if_pos c, <-j,map_cons,Hj];rfl
  .rename_i c;rw[if_neg c]
   have O:(P.map PN.env).map (aW (cC (AV op ta w co on gr od li (P.map PN.rows)) T).1)=Hj args:=by
    rw[map_map,FC, <-j,map_map];exact map_congr_left λp d=>(o p d).get.2.2.2.1
   have D:=(nT _ g).1;rw[cE,if_neg c]at D;have A2:=My u A.inv aD bo (λk y=>by obtain⟨p,d,rfl⟩:=mem_map.1 y;exact(o p d).get.2.1) O D;refine⟨A2.inv,(z.trans A.pre).trans A2.pre,?_,rfl⟩;rw[Ip];refine⟨cw A.lt A2.pre.length_le,A2.lt,by rw[fD A2.pre A2.inv.ok _ A.lt];exact A.is,by rw[A2.is,cE,if_neg c],f,g,j.symm,λp d=>Ip.mono A2.pre A2.inv.ok p (o p d)⟩
theorem SK{s:jC}(c:s.tables.length<=1000):∀(l:dl)(ts:dn),(∀q∈l,dT s q)->Fi s ts->ts.length+2*kC l<=100000->Fi s (eO s l ts).2/\ts<+:(eO s l ts).2/\(∀p∈(eO s l ts).1,Ip s (eO s l ts).2 p)/\(eO s l ts).1.map PN.q=l
 |[],ts,_,v,_=>by simp only[eO];grind
 |q::l,ts,h,v,g=>by
  simp only[kC]at g;obtain⟨j,n,o,x⟩:=Wx c q ts (h q bi) v aD;have y:=D7 s q ts;obtain⟨d,e,z,A⟩:=SK c l (fO s q ts).2 (λa u=>h a (by simp[u])) j aD;rw[eO];refine⟨d,n.trans e,λp f=>?_,bo⟩;rcases mem_cons.1 f with rfl|f
  .exact Ip.mono e d.ok _ o
  grind
end
theorem Pg{b l}(h:∀x∈l,DZ a x.1=true/\DZ b x.2=true/\a.getD x.1.toNat 0=b.getD x.2.toNat 0)(d:(l.map Prod.fst).Nodup)(f:(l.map Prod.snd).Nodup):Good (nH a b) l:=by
 intro i x c;obtain⟨g,n,o⟩:=h x (ce c);refine⟨g,n,o,λq u=>?_⟩;obtain⟨j,A,e⟩:=mem_take_iff_getElem.1 u;obtain⟨y,z⟩:=List.getElem?_eq_some_iff.1 c;rw[nodup_iff_pairwise_ne,pairwise_iff_getElem]at d f
 grind
theorem Zy{b l}(h:Good (nH a b) l):(l.map Prod.fst).Nodup/\(l.map Prod.snd).Nodup:=by
 rw[nodup_iff_pairwise_ne,pairwise_iff_getElem,nodup_iff_pairwise_ne,pairwise_iff_getElem];refine⟨λi j e c d=>?_,λi j e c d=>?_⟩<;>
 .simp only[length_map]at e c;simp only[getElem_map];have:=(h j l[j] (cd c)).2.2.2 l[i] (mem_take_iff_getElem.2 ⟨i,aD,rfl⟩)
  first|exact this.1|exact this.2
theorem a0Q{b on}(h:Good (nH a b) on):Good (nH b a) (pP on):=by
 obtain⟨f,g⟩:=Zy h;refine Pg (λx c=>?_) ?_ ?_
 .obtain⟨p,d,rfl⟩:=mem_map.1 c;have:=Dw (P:=λp=>DZ a p.1=true/\DZ b p.2=true/\a.getD p.1.toNat 0=b.getD p.2.toNat 0) h (λe x t=>⟨t.1,t.2.1,t.2.2.1⟩) p d
  grind
 .unfold pP;grind
 .unfold pP;grind
theorem bvJ(h:Good (He a) gr):Good (nH a a) (rR gr):=by
 have u:gr.Nodup:=by
  rw[nodup_iff_pairwise_ne,pairwise_iff_getElem];intro i j y d f e;exact(h j gr[j] (cd d)).2 (by rw[<-e];exact mem_take_iff_getElem.2 ⟨i,aD,rfl⟩)
 refine Pg (λx g=>?_) ?_ ?_
 .obtain⟨c,n,rfl⟩:=mem_map.1 g;have:=Dw (P:=λc=>DZ a c=true) h (λo x t=>t.1) c n
  grind
 .unfold rR;grind
 .unfold rR;grind
theorem a1J{α β:Type}{f:α->β}:∀{l:List α},l.Nodup->(∀x∈l,∀y∈l,f x=f y->x=y)->(l.map f).Nodup
 |[],_,_=>bi
 |a::l,h,c=>by
  rw[nodup_cons]at h;rw[map_cons,nodup_cons];refine⟨λg=>?_,a1J h.2 λx d y e=>c x (by simp[d]) y (by simp[e])⟩
  grind
theorem Zz(h:Good (λ_ c=>DZ a c=true) co):Good (nH a (co.map λc=>a.getD c.toNat 0)) (mJ co):=by
 have g:((List.range co.length).filter λi=>decide (co.idxOf (co.getD i 0)=i)).Nodup:=List.Nodup.sublist filter_sublist nodup_range;refine Pg (λx e=>?_) ?_ ?_
 .obtain⟨i,j,rfl⟩:=mem_map.1 e;have d:i<co.length:=bo
  have f:co.getD i 0=co[i]:=by simp[d]
  have:=h i co[i] (cd d);dsimp only;rw[f];refine⟨this,eZ.2 ⟨aD,bn⟩,?_⟩
  grind
 .unfold mJ
  grind
 .unfold mJ
  grind
theorem Zx{b}:Good (nH (a++b) b) (AT (a.length:Int) (b.length:Int)):=by
 have e:(List.range b.length).Nodup:=nodup_range;refine Pg (λx c=>?_) ?_ ?_
 .unfold AT at c;rw[Int.toNat_natCast]at c;obtain⟨i,f,rfl⟩:=mem_map.1 c;have d:i<b.length:=bo
  refine⟨eZ.2 ⟨aD,bo⟩,eZ.2 ⟨aD,aD⟩,?_⟩
  grind
 .unfold AT
  grind
 .unfold AT
  grind
theorem aEQ{K:db}{a n}(h:a+n<=K.length):Good (λ_ c=>DZ K c=true) (fZ a n):=by
 intro i x d;have:=ce d;unfold fZ at this;obtain⟨j,e,rfl⟩:=mem_map.1 this;have:j<n:=bo
 exact eZ.2 ⟨aD,aD⟩
theorem WN{K:db}{a n}(h:a+n<=K.length):(fZ a n).map (λc=>K.getD c.toNat 0)=(K.drop a).take n:=by
 unfold fZ;rw[map_map,Int.toNat_natCast];apply ext_getElem?
 grind
theorem aXQ{K:db}{n}(h:n<=K.length):(fZ 0 n).map (λc=>K.getD c.toNat 0)=K.take n:=by
 have:=WN (K:=K) (a:=0) (n:=n) aD
 grind
theorem yX{s:jC}{ts:dn}{op on gr od li a b}(c:s.tables.length<=1000)(v:Fi s ts)(d:ts.length<=100000)(e:arity op=2)(f:a<ts.length)(j:b<ts.length)(g:dT s (.mk op 0 fN [] on gr od li [aW ts a,aW ts b])):
 Cf s ts (cC ⟨op,0,fN,[],on,gr,od,li,a,b⟩ ts).1 (cC ⟨op,0,fN,[],on,gr,od,li,a,b⟩ ts).2 (.mk op 0 fN [] on gr od li [aW ts a,aW ts b]):=
 My (ks:=[a,b]) c v d (by rw[e];rfl) (λk n=>bo) rfl g
theorem Y3{s ts co a}(c:s.tables.length<=1000)(v:Fi s ts)(d:ts.length<=100000)(e:a<ts.length)(g:dT s (Ec (aW ts a) co)):
 Cf s ts (cC (oS a co) ts).1 (cC (oS a co) ts).2 (Ec (aW ts a) co):=
 My (ks:=[a]) c v d rfl (λk f=>bo) rfl g
theorem Cf.keep{c k q}(x:Cf s ts c k q)(d:i<ts.length):i<c.length/\aW c i=aW ts i:=⟨cw d x.pre.length_le,fD x.pre x.inv.ok i d⟩
structure A1(s:jC)(ts:dn)(rs:db)(r:dn×db)(qs:dl):Prop where
 inv:Fi s r.1
 pre:ts<+:r.1
 ex:∃ds:dq,r.2=rs++ds.map (fun(d:Nat)=>(d:Int))/\(∀d∈ds,d<r.1.length)/\ds.map (aW r.1)=qs
theorem A1.comp{e z r f g}(x:A1 s ts rs z f)(j:z.1<+:e)(y:A1 s e z.2 r g):A1 s ts rs r (f++g):=by
 obtain⟨o,D,u,A⟩:=x.ex;obtain⟨B,E,F,C⟩:=y.ex;have c:=j.trans y.pre;refine⟨y.inv,(x.pre.trans j).trans y.pre,o++B,bo,λd n=>?_,?_⟩
 .grind
 .rw[cj,C, <-A];congr 1;exact map_congr_left λd n=>fD c y.inv.ok d (u d n)
theorem A1.shift{c r q}(d:ts<+:c)(y:A1 s c rs r q):A1 s ts rs r q:=⟨y.inv,d.trans y.pre,y.ex⟩
theorem OW{q p op w on}(c:op≠1)(d:op≠4):gM 4 (.mk op ta w co on gr od li [q,p])=gM 4 q+gM 4 p:=by
 rw[gM,if_neg c,if_neg d];simp[vP]
theorem cYZ{q w on}:gM 4 (.mk 3 ta w co on gr od li [q])=gM 4 q:=by
 rw[gM,if_neg bj,if_neg bj];simp[vP]
theorem aFJ{s:jC}{ts:dn}{p:PN}{gr:db}{od li B b k}(j:s.tables.length<=1000)(v:Fi s ts)(I:ts.length+5<=100000)(n:k<ts.length)(C:Ip s ts p)(e:(aK s [] (aW ts k)).1=(aK s [] p.q).1)(o:mW (aK s [] p.q).1 gr od li)(D:gM 4 p.q<=B)(J:gM 4 (aW ts k)<=b)(E:b+2*B<=8000000):
 Cf s ts (B6 p k gr od li ts).1 (B6 p k gr od li ts).2 (Cy (lD (cE p.q) (aW ts k) (rR gr)) p.q gr od li)/\(aK s [] (Cy (lD (cE p.q) (aW ts k) (rR gr)) p.q gr od li)).1=(aK s [] p.q).1/\gM 4 (Cy (lD (cE p.q) (aW ts k) (rR gr)) p.q gr od li)<=b+2*B:=by
 obtain⟨F,u,f,x,_,G,_⟩:=C.get;have ev:=nT _ G;have L:gM 4 (cE p.q)<=B:=cv ev.2.2 D;have g:(aK s [] (aW ts p.env)).1=(aK s [] p.q).1:=bo
 have y:=Fm (on:=rR gr) (v.good _ u) (v.good k n) (by rw[g,e];exact bvJ o.group_) bo;have A:=yX (on:=rR gr) (gr:=[]) (od:=[]) (li:=0) j v aD (show arity 5=2 from rfl) u n y.1;have H:=eA (dZ p.env k (rR gr)) ts;have A:Cf s ts (cC (dZ p.env k (rR gr)) ts).1 (cC (dZ p.env k (rR gr)) ts).2 (lD (cE p.q) (aW ts k) (rR gr)):=by rw[<-x];exact A
 rw[x]at y;have M:gM 4 (lD (cE p.q) (aW ts k) (rR gr))<=b+B:=by unfold lD;rw[OW bj bj];omega
 have c:=A.keep F;have d:(aK s [] (lD (cE p.q) (aW ts k) (rR gr))).1=(aK s [] p.q).1:=bo
 have z:=aZQ (gr:=gr) (od:=od) (li:=li) (A.inv.good _ A.lt) (A.inv.good _ c.1) (by rw[A.is,c.2,f,d]) (by rw[A.is,d];exact o) (by rw[A.is,c.2,f];omega);have A2:=yX (on:=[]) (gr:=gr) (od:=od) (li:=li) j A.inv aD (show arity 10=2 from rfl) A.lt c.1 z.1;rw[A.is,c.2,f]at z A2;refine⟨⟨A2.inv,A.pre.trans A2.pre,A2.lt,A2.is⟩,bo,?_⟩;unfold Cy;rw[OW bj bj];omega
set_option maxHeartbeats 32000000 in
theorem xT{s:jC}(o:eX s=0):∀(p:PN)(B W b k:Nat)(ts:dn)(rs:db),Ip s ts p->Fi s ts->k<ts.length->(aK s [] (aW ts k)).1=(aK s [] p.q).1->gM 4 p.q<=B->2*B<=W->gM 4 (aW ts k)<=b->b+W*kU p<=8000000->ts.length+5*kU p<=100000->
 A1 s ts rs (gA p k ts rs) (nW (uL s) p.q (aW ts k))
 |.mk (.mk op ta w co on gr od li a6) args r e wd,B,W,b,k,ts,rs,hp,v,E,f,hB,M,hb,H,hl=>by
  have R:=WR o;have b5:=hp;rw[Ip]at hp;obtain⟨_,_,_,_,_,g,ha,L⟩:=hp;have ha:a6=args.map PN.q:=ha;subst ha;have hB:gM 4 (.mk op ta w co on gr od li (args.map PN.q))<=B:=hB;have f:(aK s [] (aW ts k)).1=(aK s [] (.mk op ta w co on gr od li (args.map PN.q))).1:=f;show A1 s ts rs _ (nW (uL s) (.mk op ta w co on gr od li (args.map PN.q)) (aW ts k));obtain⟨n,b6,I,ga⟩:=g.node;have gD:=v.good k E;have J:∀a∈args,gM 4 a.q<=B:=λa h=>cv (aOZ g (mem_map.2 ⟨a,h,rfl⟩)) hB;have eB:∀a∈args,gM 4 (cE a.q)<=B:=λa h=>cv (nT _ (ga _ (mem_map.2 ⟨a,h,rfl⟩))).2.2 (J a h);have eg:∀a∈args,(aK s [] (cE a.q)).1=(aK s [] a.q).1:=λa h=>(nT _ (ga _ (mem_map.2 ⟨a,h,rfl⟩))).2.1;have X:∀a∈args,a.rows<ts.length/\a.env<ts.length/\aW ts a.rows=a.q/\aW ts a.env=cE a.q/\a.width=uL s a.q/\dT s a.q:=λa h=>let x:=(L a h).get;⟨x.1,x.2.1,x.2.2.1,x.2.2.2.1,x.2.2.2.2.1,x.2.2.2.2.2.1⟩
  rw[n.out]at f;rw[length_map]at I;rw[gA.eq_def,nW.eq_def];simp only[kU]at H hl;have a9:op=1\/op=2\/op=3\/op=9\/op=4\/op=5\/op=6\/op=7\/op=8\/op=10:=by omega
  rcases a9 with rfl|rfl|rfl|rfl|rfl|rfl|rfl|rfl|rfl|rfl
  .obtain rfl:args=[]:=eq_nil_of_length_eq_zero (by have:arity 1=0:=rfl;omega);exact⟨v,prefix_refl _,[k],rfl,λd hd=>by simp at hd;subst hd;exact E,rfl⟩
  .obtain⟨a,rfl⟩:=F1 (l:=args) (by rw[I];rfl);simp only[sY]at H hl;have e1:W*(1+(kU a+0))=W+W*kU a:=bo
   exact xT o a B W b k ts rs (L a bi) v E f (J a bi) M hb aD aD
  .obtain⟨a,rfl⟩:=F1 (l:=args) (by rw[I];rfl);simp only[sY]at H hl;have e1:W*(1+(kU a+0))=W+W*kU a:=bo
   obtain⟨_,g2,_,g4,_,g6⟩:=X a bi;have g1:=eB a bi;have gE:dT s (aW ts a.env):=v.good _ g2;have O:(aK s [] (aW ts a.env)).1=(aK s [] a.q).1:=bo
   have S:=Fm (on:=mJ co) gE gD (by rw[O,f];exact Zz (n.proj rfl).2) bo;have A:=yX (on:=mJ co) (gr:=[]) (od:=[]) (li:=0) R v aD (show arity 5=2 from rfl) g2 E S.1;have a2:=eA (dZ a.env k (mJ co)) ts;have A:Cf s ts (cC (dZ a.env k (mJ co)) ts).1 (cC (dZ a.env k (mJ co)) ts).2 (lD (cE a.q) (aW ts k) (mJ co)):=by rw[<-g4];exact A
   show A1 s ts rs (gA a (cC (dZ a.env k (mJ co)) ts).2 (cC (dZ a.env k (mJ co)) ts).1 rs) (nW (uL s) a.q (lD (cE a.q) (aW ts k) (mJ co)));have:=xT o a B W (b+2*B) _ _ rs (Ip.mono A.pre A.inv.ok a (L a bi)) A.inv A.lt (by rw[A.is, <-g4,S.2];exact O) (J a bi) M (by rw[A.is];unfold lD;rw[OW bj bj];omega) aD aD;rw[A.is]at this;exact this.shift A.pre
  .obtain⟨a,rfl⟩:=F1 (l:=args) (by rw[I];rfl);simp only[sY]at H hl;have e1:W*(1+(kU a+0))=W+W*kU a:=bo
   obtain⟨g0,g2,T,g4,_,g6⟩:=X a bi;have g1:=eB a bi;have a3:mW (aK s [] a.q).1 gr od li:=n.rank (.inl rfl);have f:(aK s [] (aW ts k)).1=(aK s [] a.q).1:=f;have P:=aFJ (gr:=gr) (od:=od) (li:=li) R v aD E (L a bi) f a3 (J a bi) hb aD;show A1 s ts rs (gA a (B6 a k gr od li ts).2 (B6 a k gr od li ts).1 rs) (nW (uL s) a.q (Cy (lD (cE a.q) (aW ts k) (rR gr)) a.q gr od li));have a2:=Dv a k gr od li ts;have:=xT o a B W (b+2*B) _ _ rs (Ip.mono P.1.pre P.1.inv.ok a (L a bi)) P.1.inv P.1.lt (by rw[P.1.is];exact P.2.1) (J a bi) M (by rw[P.1.is];exact P.2.2) aD aD;rw[P.1.is]at this;exact this.shift P.1.pre
  .obtain⟨a,c,rfl⟩:=sI (l:=args) (by rw[I];rfl);simp only[sY]at H hl;have e1:W*(1+(kU a+(kU c+0)))=W+W*kU a+W*kU c:=bo
   obtain⟨g0,g2,T,g4,g5,g6⟩:=X a bi;obtain⟨k0,Y,k3,U,k5,k6⟩:=X c bi;have f:(aK s [] (aW ts k)).1=(aK s [] a.q).1++(aK s [] c.q).1:=f;have pa:=M8 o _ g6;have pb:=M8 o _ k6;have b0:=jB s [] (aW ts k);rw[f,cg]at b0;have b1:=J c bi;have S:=Fm (on:=AT a.width c.width) gD (v.good _ k0) (by rw[f,k3,g5,k5];exact Zx) bo;have A:=yX (on:=AT a.width c.width) (gr:=[]) (od:=[]) (li:=0) R v aD (show arity 5=2 from rfl) E k0 S.1;have A:Cf s ts (cC (dZ k c.rows (AT a.width c.width)) ts).1 (cC (dZ k c.rows (AT a.width c.width)) ts).2 (lD (aW ts k) c.q (AT a.width c.width)):=by rw[<-k3];exact A
   have a2:=eA (dZ k c.rows (AT a.width c.width)) ts;rw[k3]at S;have b':(aK s [] (lD (aW ts k) c.q (AT a.width c.width))).1=(aK s [] a.q).1++(aK s [] c.q).1:=bo
   have b2:∀(K1 K2:db),0<K1.length->(fZ 0 (K1.length:Int))≠[]:=λK1 K2 h e=>by
    have:=congrArg List.length e;simp[fZ]at this
    grind
   have V:a.width=((aK s [] a.q).1.length:Int):=g5;have a4:c.width=((aK s [] c.q).1.length:Int):=k5;have bX:gM 4 (lD (aW ts k) c.q (AT a.width c.width))<=b+B:=by unfold lD;rw[OW bj bj];omega
   have pg:=S4 (a:=lD (aW ts k) c.q (AT a.width c.width)) (co:=fZ 0 a.width) S.1 (by rw[V];exact b2 _ [] pa) (by rw[b',V];exact aEQ (a:=0) bi) (by rw[V];simp[fZ];omega) aD;rw[<-A.is]at pg;have P:=Y3 (co:=fZ 0 a.width) R A.inv aD A.lt pg.1;have b7:=eA (oS (cC (dZ k c.rows (AT a.width c.width)) ts).2 (fZ 0 a.width)) (cC (dZ k c.rows (AT a.width c.width)) ts).1;have a5:=A.pre.trans P.pre;rw[A.is]at pg P;have R1:=xT o a B W (b+B) _ _ rs (Ip.mono a5 P.inv.ok a (L a bi)) P.inv P.lt (by rw[P.is,pg.2,b',V,aXQ bi];simp) (J a bi) M (by rw[P.is];unfold Ec;rw[cYZ];exact bX) aD aD;rw[P.is]at R1;have R1:=R1.shift a5;have a0:=iJ a (cC (oS (cC (dZ k c.rows (AT a.width c.width)) ts).2 (fZ 0 a.width)) (cC (dZ k c.rows (AT a.width c.width)) ts).1).2 (cC (oS (cC (dZ k c.rows (AT a.width c.width)) ts).2 (fZ 0 a.width)) (cC (dZ k c.rows (AT a.width c.width)) ts).1).1 rs;show A1 s ts rs (gA c _ _ _) (nW (uL s) a.q (Ec (lD (aW ts k) c.q (AT (uL s a.q) (uL s c.q))) (fZ 0 (uL s a.q)))++nW (uL s) c.q (Ec (aW ts k) (fZ (uL s a.q) (uL s c.q))));rw[<-g5, <-k5];generalize hZ:gA a (cC (oS (cC (dZ k c.rows (AT a.width c.width)) ts).2 (fZ 0 a.width)) (cC (dZ k c.rows (AT a.width c.width)) ts).1).2 (cC (oS (cC (dZ k c.rows (AT a.width c.width)) ts).2 (fZ 0 a.width)) (cC (dZ k c.rows (AT a.width c.width)) ts).1).1 rs=Z at*
   have j:k<Z.1.length/\aW Z.1 k=aW ts k:=⟨cw E R1.pre.length_le,fD R1.pre R1.inv.ok k E⟩
   have a7:=S4 (a:=aW Z.1 k) (co:=fZ a.width c.width) (R1.inv.good k j.1) (λe=>by
    have:=congrArg List.length e;rw[a4]at this;simp[fZ]at this
    grind) (by rw[j.2,f,V,a4];exact aEQ bi) (by rw[a4];simp[fZ];omega) bo
   have P2:=Y3 (co:=fZ a.width c.width) R R1.inv aD j.1 a7.1;have a1:=eA (oS k (fZ a.width c.width)) Z.1;have y:=R1.pre.trans P2.pre;rw[j.2]at a7 P2;have R2:=xT o c B W b _ _ Z.2 (Ip.mono y P2.inv.ok c (L c bi)) P2.inv P2.lt (by rw[P2.is,a7.2,f,V,a4,WN bi];simp) (J c bi) M (by rw[P2.is];unfold Ec;rw[cYZ];exact hb) aD aD;rw[P2.is]at R2;exact R1.comp P2.pre R2
  .obtain⟨a,c,rfl⟩:=sI (l:=args) (by rw[I];rfl);simp only[sY]at H hl;have e1:W*(1+(kU a+(kU c+0)))=W+W*kU a+W*kU c:=bo
   obtain⟨g0,g2,T,g4,g5,g6⟩:=X a bi;obtain⟨k0,Y,k3,U,k5,k6⟩:=X c bi;have f:(aK s [] (aW ts k)).1=(aK s [] a.q).1:=f;have b3:Good (nH (aK s [] a.q).1 (aK s [] c.q).1) on:=n.pair (.inr rfl);have b1:=J c bi;have a8:=eB c bi;have S:=Fm (on:=on) gD (v.good _ k0) bo bo;have A:=yX (on:=on) (gr:=[]) (od:=[]) (li:=0) R v aD (show arity 5=2 from rfl) E k0 S.1;have A:Cf s ts (cC (dZ k c.rows on) ts).1 (cC (dZ k c.rows on) ts).2 (lD (aW ts k) c.q on):=by rw[<-k3];exact A
   have a2:=eA (dZ k c.rows on) ts;rw[k3]at S;have bX:gM 4 (lD (aW ts k) c.q on)<=b+B:=by unfold lD;rw[OW bj bj];omega
   have R1:=xT o a B W (b+B) _ _ rs (Ip.mono A.pre A.inv.ok a (L a bi)) A.inv A.lt (by rw[A.is,S.2];exact f) (J a bi) M (by rw[A.is];exact bX) aD aD;rw[A.is]at R1;have R1:=R1.shift A.pre;have a0:=iJ a (cC (dZ k c.rows on) ts).2 (cC (dZ k c.rows on) ts).1 rs;show A1 s ts rs (gA c _ _ _) (nW (uL s) a.q (lD (aW ts k) c.q on)++nW (uL s) c.q (lD (cE c.q) (aW ts k) (pP on)));generalize hZ:gA a (cC (dZ k c.rows on) ts).2 (cC (dZ k c.rows on) ts).1 rs=Z at*
   have j:k<Z.1.length/\aW Z.1 k=aW ts k:=⟨cw E R1.pre.length_le,fD R1.pre R1.inv.ok k E⟩
   have u:c.env<Z.1.length/\aW Z.1 c.env=aW ts c.env:=⟨cw Y R1.pre.length_le,fD R1.pre R1.inv.ok _ Y⟩
   have O:(aK s [] (cE c.q)).1=(aK s [] c.q).1:=eg c bi;have z:=Fm (on:=pP on) (R1.inv.good _ u.1) (R1.inv.good k j.1) (by rw[u.2,j.2,U,O,f];exact a0Q b3) bo;have P2:=yX (on:=pP on) (gr:=[]) (od:=[]) (li:=0) R R1.inv aD (show arity 5=2 from rfl) u.1 j.1 z.1;have P2:Cf s Z.1 (cC (dZ c.env k (pP on)) Z.1).1 (cC (dZ c.env k (pP on)) Z.1).2 (lD (cE c.q) (aW ts k) (pP on)):=by rw[<-U, <-u.2, <-j.2];exact P2
   have a1:=eA (dZ c.env k (pP on)) Z.1;rw[u.2,j.2,U]at z;have y:=R1.pre.trans P2.pre;have R2:=xT o c B W (b+B) _ _ Z.2 (Ip.mono y P2.inv.ok c (L c bi)) P2.inv P2.lt (by rw[P2.is,z.2];exact O) (J c bi) M (by rw[P2.is];unfold lD;rw[OW bj bj];omega) aD aD;rw[P2.is]at R2;exact R1.comp P2.pre R2
  .obtain⟨a,c,rfl⟩:=sI (l:=args) (by rw[I];rfl);simp only[sY]at H hl;have e1:W*(1+(kU a+(kU c+0)))=W+W*kU a+W*kU c:=bo
   obtain⟨g0,g2,T,g4,g5,g6⟩:=X a bi;obtain⟨k0,Y,k3,U,k5,k6⟩:=X c bi;have f:(aK s [] (aW ts k)).1=(aK s [] a.q).1:=f;have C:(aK s [] a.q).1=(aK s [] c.q).1:=n.same (.inl rfl);have be:=eB a bi;have a8:=eB c bi;have O:(aK s [] (cE a.q)).1=(aK s [] a.q).1:=eg a bi;have F:(aK s [] (cE c.q)).1=(aK s [] c.q).1:=eg c bi;have S:=Bd (v.good _ g2) gD bo bo;have A:=yX (on:=[]) (gr:=[]) (od:=[]) (li:=0) R v aD (show arity 8=2 from rfl) g2 E S.1;have A:Cf s ts (cC (cQ a.env k) ts).1 (cC (cQ a.env k) ts).2 (jE (cE a.q) (aW ts k)):=by rw[<-g4];exact A
   have a2:=eA (cQ a.env k) ts;rw[g4]at S;have R1:=xT o a B W (b+B) _ _ rs (Ip.mono A.pre A.inv.ok a (L a bi)) A.inv A.lt (by rw[A.is,S.2];exact O) (J a bi) M (by rw[A.is];unfold jE;rw[OW bj bj];omega) aD aD;rw[A.is]at R1;have R1:=R1.shift A.pre;have a0:=iJ a (cC (cQ a.env k) ts).2 (cC (cQ a.env k) ts).1 rs;show A1 s ts rs (gA c _ _ _) (nW (uL s) a.q (jE (cE a.q) (aW ts k))++nW (uL s) c.q (jE (cE c.q) (aW ts k)));generalize hZ:gA a (cC (cQ a.env k) ts).2 (cC (cQ a.env k) ts).1 rs=Z at*
   have j:k<Z.1.length/\aW Z.1 k=aW ts k:=⟨cw E R1.pre.length_le,fD R1.pre R1.inv.ok k E⟩
   have u:c.env<Z.1.length/\aW Z.1 c.env=aW ts c.env:=⟨cw Y R1.pre.length_le,fD R1.pre R1.inv.ok _ Y⟩
   have z:=Bd (R1.inv.good _ u.1) (R1.inv.good k j.1) bo bo;have P2:=yX (on:=[]) (gr:=[]) (od:=[]) (li:=0) R R1.inv aD (show arity 8=2 from rfl) u.1 j.1 z.1;have P2:Cf s Z.1 (cC (cQ c.env k) Z.1).1 (cC (cQ c.env k) Z.1).2 (jE (cE c.q) (aW ts k)):=by rw[<-U, <-u.2, <-j.2];exact P2
   have a1:=eA (cQ c.env k) Z.1;rw[u.2,j.2,U]at z;have y:=R1.pre.trans P2.pre;have R2:=xT o c B W (b+B) _ _ Z.2 (Ip.mono y P2.inv.ok c (L c bi)) P2.inv P2.lt (by rw[P2.is,z.2];exact F) (J c bi) M (by rw[P2.is];unfold jE;rw[OW bj bj];omega) aD aD;rw[P2.is]at R2;exact R1.comp P2.pre R2
  .obtain⟨a,c,rfl⟩:=sI (l:=args) (by rw[I];rfl);simp only[sY]at H hl;have e1:W*(1+(kU a+(kU c+0)))=W+W*kU a+W*kU c:=bo
   obtain⟨g0,g2,T,g4,g5,g6⟩:=X a bi;obtain⟨k0,Y,k3,U,k5,k6⟩:=X c bi;have f:(aK s [] (aW ts k)).1=(aK s [] a.q).1:=f;have C:(aK s [] a.q).1=(aK s [] c.q).1:=n.same (.inr (.inl rfl));have ba:=J a bi;have a8:=eB c bi;have F:(aK s [] (cE c.q)).1=(aK s [] c.q).1:=eg c bi;have R1:=xT o a B W b k ts rs (L a bi) v E f ba M hb aD aD;have a0:=iJ a k ts rs;show A1 s ts rs (gA c _ _ _) (nW (uL s) a.q (aW ts k)++nW (uL s) c.q (jE (jE (cE c.q) (aW ts k)) a.q));generalize hZ:gA a k ts rs=Z at*
   have j:k<Z.1.length/\aW Z.1 k=aW ts k:=⟨cw E R1.pre.length_le,fD R1.pre R1.inv.ok k E⟩
   have u:c.env<Z.1.length/\aW Z.1 c.env=aW ts c.env:=⟨cw Y R1.pre.length_le,fD R1.pre R1.inv.ok _ Y⟩
   have G:a.rows<Z.1.length/\aW Z.1 a.rows=aW ts a.rows:=⟨cw g0 R1.pre.length_le,fD R1.pre R1.inv.ok _ g0⟩
   have z:=Bd (R1.inv.good _ u.1) (R1.inv.good k j.1) bo bo;have P2:=yX (on:=[]) (gr:=[]) (od:=[]) (li:=0) R R1.inv aD (show arity 8=2 from rfl) u.1 j.1 z.1;have P2:Cf s Z.1 (cC (cQ c.env k) Z.1).1 (cC (cQ c.env k) Z.1).2 (jE (cE c.q) (aW ts k)):=by rw[<-U, <-u.2, <-j.2];exact P2
   have a1:=eA (cQ c.env k) Z.1;rw[u.2,j.2,U]at z;have bX:gM 4 (jE (cE c.q) (aW ts k))<=b+B:=by unfold jE;rw[OW bj bj];omega
   have D:=P2.keep G.1;have Q:=Bd (P2.inv.good _ P2.lt) (P2.inv.good _ D.1) (by rw[P2.is,D.2,G.2,T,z.2,F,C]) (by rw[P2.is,D.2,G.2,T];omega);have P3:=yX (on:=[]) (gr:=[]) (od:=[]) (li:=0) R P2.inv aD (show arity 8=2 from rfl) P2.lt D.1 Q.1;have P3:Cf s (cC (cQ c.env k) Z.1).1 (cC (cQ (cC (cQ c.env k) Z.1).2 a.rows) (cC (cQ c.env k) Z.1).1).1 (cC (cQ (cC (cQ c.env k) Z.1).2 a.rows) (cC (cQ c.env k) Z.1).1).2 (jE (jE (cE c.q) (aW ts k)) a.q):=by rw[<-P2.is, <-T, <-G.2, <-D.2];exact P3
   have b4:=eA (cQ (cC (cQ c.env k) Z.1).2 a.rows) (cC (cQ c.env k) Z.1).1;rw[P2.is,D.2,G.2,T]at Q;have y:=(R1.pre.trans P2.pre).trans P3.pre;have R2:=xT o c B W (b+2*B) _ _ Z.2 (Ip.mono y P3.inv.ok c (L c bi)) P3.inv P3.lt (by rw[P3.is,Q.2,z.2];exact F) (J c bi) M (by rw[P3.is];unfold jE at bX⊢;rw[OW bj bj];omega) aD aD;rw[P3.is]at R2;exact R1.comp (P2.pre.trans P3.pre) R2
  .obtain⟨a,c,rfl⟩:=sI (l:=args) (by rw[I];rfl);simp only[sY]at H hl;have e1:W*(1+(kU a+(kU c+0)))=W+W*kU a+W*kU c:=bo
   obtain⟨g0,g2,T,g4,g5,g6⟩:=X a bi;obtain⟨k0,Y,k3,U,k5,k6⟩:=X c bi;have f:(aK s [] (aW ts k)).1=(aK s [] a.q).1:=f;have C:(aK s [] a.q).1=(aK s [] c.q).1:=n.same (.inr (.inr (.inl rfl)));have ba:=J a bi;have a8:=eB c bi;have F:(aK s [] (cE c.q)).1=(aK s [] c.q).1:=eg c bi;have R1:=xT o a B W b k ts rs (L a bi) v E f ba M hb aD aD;have a0:=iJ a k ts rs;show A1 s ts rs (gA c _ _ _) (nW (uL s) a.q (aW ts k)++nW (uL s) c.q (jE (jE (cE c.q) (aW ts k)) a.q));generalize hZ:gA a k ts rs=Z at*
   have j:k<Z.1.length/\aW Z.1 k=aW ts k:=⟨cw E R1.pre.length_le,fD R1.pre R1.inv.ok k E⟩
   have u:c.env<Z.1.length/\aW Z.1 c.env=aW ts c.env:=⟨cw Y R1.pre.length_le,fD R1.pre R1.inv.ok _ Y⟩
   have G:a.rows<Z.1.length/\aW Z.1 a.rows=aW ts a.rows:=⟨cw g0 R1.pre.length_le,fD R1.pre R1.inv.ok _ g0⟩
   have z:=Bd (R1.inv.good _ u.1) (R1.inv.good k j.1) bo bo;have P2:=yX (on:=[]) (gr:=[]) (od:=[]) (li:=0) R R1.inv aD (show arity 8=2 from rfl) u.1 j.1 z.1;have P2:Cf s Z.1 (cC (cQ c.env k) Z.1).1 (cC (cQ c.env k) Z.1).2 (jE (cE c.q) (aW ts k)):=by rw[<-U, <-u.2, <-j.2];exact P2
   have a1:=eA (cQ c.env k) Z.1;rw[u.2,j.2,U]at z;have bX:gM 4 (jE (cE c.q) (aW ts k))<=b+B:=by unfold jE;rw[OW bj bj];omega
   have D:=P2.keep G.1;have Q:=Bd (P2.inv.good _ P2.lt) (P2.inv.good _ D.1) (by rw[P2.is,D.2,G.2,T,z.2,F,C]) (by rw[P2.is,D.2,G.2,T];omega);have P3:=yX (on:=[]) (gr:=[]) (od:=[]) (li:=0) R P2.inv aD (show arity 8=2 from rfl) P2.lt D.1 Q.1;have P3:Cf s (cC (cQ c.env k) Z.1).1 (cC (cQ (cC (cQ c.env k) Z.1).2 a.rows) (cC (cQ c.env k) Z.1).1).1 (cC (cQ (cC (cQ c.env k) Z.1).2 a.rows) (cC (cQ c.env k) Z.1).1).2 (jE (jE (cE c.q) (aW ts k)) a.q):=by rw[<-P2.is, <-T, <-G.2, <-D.2];exact P3
   have b4:=eA (cQ (cC (cQ c.env k) Z.1).2 a.rows) (cC (cQ c.env k) Z.1).1;rw[P2.is,D.2,G.2,T]at Q;have y:=(R1.pre.trans P2.pre).trans P3.pre;have R2:=xT o c B W (b+2*B) _ _ Z.2 (Ip.mono y P3.inv.ok c (L c bi)) P3.inv P3.lt (by rw[P3.is,Q.2,z.2];exact F) (J c bi) M (by rw[P3.is];unfold jE at bX⊢;rw[OW bj bj];omega) aD aD;rw[P3.is]at R2;exact R1.comp (P2.pre.trans P3.pre) R2
  .obtain⟨a,c,rfl⟩:=sI (l:=args) (by rw[I];rfl);simp only[sY]at H hl;have e1:W*(1+(kU a+(kU c+0)))=W+W*kU a+W*kU c:=bo
   have f:(aK s [] (aW ts k)).1=(aK s [] a.q).1:=f;have C:(aK s [] a.q).1=(aK s [] c.q).1:=n.same (.inr (.inr (.inr rfl)));have a3:mW (aK s [] a.q).1 gr od li:=n.rank (.inr rfl);rw[C]at a3;have R1:=xT o a B W b k ts rs (L a bi) v E f (J a bi) M hb aD aD;have a0:=iJ a k ts rs;show A1 s ts rs (gA c _ _ _) (nW (uL s) a.q (aW ts k)++nW (uL s) c.q (Cy (lD (cE c.q) (aW ts k) (rR gr)) c.q gr od li));generalize hZ:gA a k ts rs=Z at*
   have j:k<Z.1.length/\aW Z.1 k=aW ts k:=⟨cw E R1.pre.length_le,fD R1.pre R1.inv.ok k E⟩
   have P:=aFJ (gr:=gr) (od:=od) (li:=li) (B:=B) (b:=b) R R1.inv aD j.1 (Ip.mono R1.pre R1.inv.ok c (L c bi)) bo a3 (J c bi) bo aD;rw[j.2]at P;have a1:=Dv c k gr od li Z.1;have y:=R1.pre.trans P.1.pre;have R2:=xT o c B W (b+2*B) _ _ Z.2 (Ip.mono y P.1.inv.ok c (L c bi)) P.1.inv P.1.lt (by rw[P.1.is];exact P.2.1) (J c bi) M (by rw[P.1.is];exact P.2.2) aD aD;rw[P.1.is]at R2;exact R1.comp P.1.pre R2
 termination_by p=>SizeOf.sizeOf p
def cJX:Vc.Spec:=λd m h K=>∃(s:Sl)(g:Nat)(c:dc)(l:de)(p:dj->Bool),d=[cS s,.val (.func (.func g) #[] ⟨c⟩)]/\Rows h s l/\l.length<=8000000/\(∀(u:Sl)(r:dj),r∈l->bR h u r->FAt Tryz.prog g 4 (cS u::c.map .val) m h (λx m' h'=>x=[.bool (p r)]/\m'=m/\h'=h))/\
 ∀e h',PH.le h h'->Rows h' e (l.filter p)->K (cS e) m h'
def cKX:Vc.Spec:=λc m h K=>∃s u l r,c=[cS s,cS u,.val (.func (.func 93) #[] #[])]/\Rows h s l/\fW l/\bR h u r/\l.length<=8000000/\K (.tup [cI ((l.countP λy=>decide (eC y r<0):Nat):Int),cB (Cg l r)]) m h
def cbQ:Vc.Spec:=λc m h K=>∃s u l r,c=[cS s,cS u]/\Rows h s l/\fW l/\bR h u r/\l.length<=8000000/\K (cB (Cg l r)) m h
def U1:Vc.Spec:=λc m h K=>∃s l,c=[cS s]/\Rows h s l/\l.length<=8000000/\(∀r∈l,r.length<=1000)/\∀d h',PH.le h h'->Rows h' d l->K (cS d) m h'
def rP(r:dj):ByteArray:=⟨(r.flatMap AR).toArray⟩
def U0:Vc.Spec:=λd m h K=>∃s t r c,d=[cS s,cS t]/\bR h s r/\Ints h t c/\Wf r/\fE r.length c/\gX m/\K (YT (rP (pick r c))) m h
def aUQ:Vc.Spec:=λc m h K=>∃n:Nat,c=[.val (.slice none 0 0),cI n]/\n<=32000000/\K (.lst 65 1 []) m h
def U2:Vc.Spec:=λc m h K=>∃f d e,c=[cS f]/\Leaves h f [d,e]/\d.length<=8000000/\e.length<=8000000/\∀g h',PH.le h h'->Rows h' g (d++e)->K (cS g) m h'
noncomputable def cjJ s g c m h:=
 vO [] [(3,{A:=Nat×dg,st:=λ⟨i,d⟩=>bS 23 25 [(1,vv (.func (.func g) #[] ⟨c⟩)),(5,.at (.lst 20)),(8,sv s),(9,iv s.len),(10,iv i)] [(20,.lst 65 1 (d.map eS))] m h})] [] [] [510004] [] false
noncomputable def bMZ s u m h:=
 cZ [(93,FL)] [(3,{A:=Nat×Nat,st:=λ⟨i,j⟩=>bS 49 52 [(0,sv s),(1,sv u),(2,vv (.func (.func 93) #[] #[])),(8,iv s.len),(9,iv i),(10,iv j)] [] m h})] [] [] false
noncomputable def f51_ctx s m:=
 cZ [(57,Wo)] [(3,{A:=Nat×dg×PH,st:=λ⟨i,c,h⟩=>bS 23 24 [(3,.at (.lst 8)),(9,sv s),(10,iv s.len),(11,iv i)] [(8,.lst 65 1 (c.map eS))] m h})] [] [] false
noncomputable def bWX s t m h:=
 vO [(162,cOQ)] [(3,{A:=Nat×dr,st:=λ⟨i,l⟩=>bS 23 25 [(0,sv s),(5,.at (.lst 19)),(8,sv t),(9,iv t.len),(10,iv i)] [(19,.lst 5 1 (bJ l))] m h})] [] [] [] [(162,[0])] false
noncomputable def bWQ c m h:=
 cZ [(163,aUQ)] [(3,{A:=Nat×Nat,st:=λ⟨i,n⟩=>bS 36 37 [(0,sv c),(3,iv n),(9,sv c),(10,iv c.len),(11,iv i)] [] m h}),
  (11,{A:=Nat×dg,st:=λ⟨i,l⟩=>bS 36 37 [(6,.at (.lst 24)),(25,sv c),(26,iv c.len),(27,iv i)] [(24,.lst 65 1 (l.map eS))] m h})] [] [] false
abbrev EB(a:(Nat×dg->Prop)->(Nat×dg)->Prop)(b:(Nat×dg->Prop)->(Nat×dg->Nat)->(Nat×dg)->Prop):=∃(x:Nat×dg->Prop)(d:Nat×dg->Nat),(∃(c:Nat×dg),a x c)/\∀(c:Nat×dg),b x d c
abbrev EA(a:Nat×dg):=oH 65 1 (Al a.2)
abbrev GK(a:Nat×dg)(b:(Nat×dg)->Prop):=aA (uP a.2 1) (Cj a.2) (∃(x:Nat×dg),b x)
abbrev Gm(a:Nat×dg)(b:Sl)(c:Nat×dg):=bW 65 1 (vU a.2 (vV b))=Al c.2
abbrev w8(a b:Nat×dg):=Al a.2=Al b.2
attribute [push_cast] EB EA GK Gm w8
def Xy(s:Sl)(g:Nat)(c:dc)(m:MH)(h:PH)(K:da):=
  EB (λI x=>aA (I x) (wQ g (Array.mk c)) (aA (eL 20) (aJ s) (aA (bG s) (bA x.1) (aA (EA x) (m=m) (bQ h h))))) (λI n x=>I x->aZ (↑x.1:Int) (aG s) (bF (λb o=>aH (aM s.a b o) (0<=(↑x.1:Int)) ((↑x.1:Int)<aG s) (∃(y:Sl),aL m h b (bK o x.1 1) (bH y)/\∃(R:Bool->MH->PH->Prop),C5 g 4 (EG (cM y) c) m h (λl f e=>∃(j:Bool),l=wZ j/\R j f e)/\∀(j:Bool),iG (λf e=>iB (R j f e) j (GK x (λd=>aA (I d) (n d<n x) (aA (wQ g (Array.mk c)) (eL 20) (aA (aJ s) (bG s) (aA (fU (bC x.1 1)=bP d.1) (Gm x y d) (bO (f=m) e h)))))) (∃(d:Nat×dg),aA (I d) (n d<n x) (aA (wQ g (Array.mk c)) (eL 20) (aA (aJ s) (bG s) (aA (fU (bC x.1 1)=bP d.1)
 (w8 x d) (bO (f=m) e h))))))))) (bN h 1 (List.map eS x.2) (λu e=>K (cM u) m e)))
noncomputable abbrev IE(a:Nat×Nat):=kE (Int.fdiv (QG (bC a.1 (↑a.2:Int))) 2)
attribute [push_cast] IE
def T0(s u:Sl)(m:MH)(h:PH)(K:da):=
  I9 (λI x=>aA (I x) (aJ s) (aA (aJ u) (wQ 93 tE) (aA (bG s) (bA x.1) (aA (bP s.len=bP x.2) (m=m) (bQ h h))))) (λI d x=>I x->aZ (↑x.1:Int) (↑x.2:Int) (bF (λb o=>aH (aM s.a b o) (0<=IE x) (IE x<aG s) (∃(y:Sl),aL m h b (fF o (IE x) 1) (bH y)/\wL y u h (λa e=>aZ (eC a e) 0 (∃(c:Nat×Nat),aA (I c) (d c<d x) (aA (aJ s) (aJ u) (aA (wQ 93 tE) (bG s) (aA (SV.at (At.val (eH (kE (IE x+1))))=bP c.1) (bV x.2 c.2) (bO (m=m) h h))))) (∃(c:Nat×Nat),aA (I c) (d c<d x) (aA (aJ s) (aJ u) (aA (wQ 93 tE) (bG s) (aA (bV x.1 c.1) (SV.at (At.val (eH (IE x)))=bP c.2) (bO (m=m) h h))))))))) (aZ (↑x.1:Int) (aG s) (bF (λb o=>aH (aM s.a b o) (0
 <=(↑x.1:Int)) ((↑x.1:Int)<aG s) (∃(y:Sl),aL m h b (bK o x.1 1) (bH y)/\wL y u h (λa e=>K (CV.tup (aX (fI (↑x.1:Int)) (yF (eC a e==0)))) m h)))) (K (CV.tup (aX (fI (↑x.1:Int)) bB)) m h)))
abbrev HJ(a:Sl->Sl->de->dj->Prop):=gL (λx c=>∃(d:de)(e:dj),a x c d e)
attribute [push_cast] HJ
def blX(s u:Sl)(m:MH)(h:PH)(K:da):=
  HJ (λc d l r=>aA (C0 s u 93=C0 c d 93) (Rows h c l) (aA (fW l) (bR h d r) (oU l/\K (yF (Cg l r)) m h)))
def am(s:Sl)(m:MH)(h:PH)(K:da):=
  aA (cF (aG s)) (nA (aG s) s) (aA (tQ s 24) (tR s) (Ja (λI x=>aA (I x) (eL 8) (aA (aJ s) (bG s) (aA (bA x.1) (bW 65 1 (vK (aG s) j5)=Al (j7 x)) (aA (m=m) (h=jH x) True)))) (λI g x=>I x->aZ (↑x.1:Int) (aG s) (bF (λb o=>aH (aM s.a b o) (0<=(↑x.1:Int)) ((↑x.1:Int)<aG s) (∃(y:Sl),aL m (jH x) b (bK o x.1 1) (bH y)/\Gi y (jH x) (λd f=>sC (↑x.1:Int) (wT (j7 x)) (λe=>aA (pY (jY (j7 x)) (↑x.1:Int) e) (0<e.length) (∃(c:Nat×dg×PH),aA (I c) (g c<g x) (aA (eL 8) (aJ s) (aA (bG s) (fU (bC x.1 1)=bP c.1) (aA (bW 65 1 (List.set (jY (j7 x)) (↑x.1:Int).toNat (xP (gP d) 1 e))=Al (j7 c)) (m=m) (bQ f (jH c))))))))))) (bN
 (jH x) 1 (List.map eS (j7 x)) (λd f=>K (cM d) m f)))))
def UG(s t:Sl)(m:MH)(h:PH)(K:da):=
  ∃(I:Nat×dr->Prop)(e:Nat×dr->Nat),(∃(x:Nat×dr),aA (I x) (aJ s) (aA (eL 19) (aJ t) (aA (bG t) (bA x.1) (aA (oH 5 1 (bW 5 1 (bJ x.2))) (m=m) (bQ h h)))))/\∀(x:Nat×dr),I x->aZ (↑x.1:Int) (aG t) (bF (λb o=>aH (aM t.a b o) (0<=(↑x.1:Int)) ((↑x.1:Int)<aG t) (∃(y:Int),aL m h b (bK o x.1 1) (bM y)/\bF (λf g=>aH (aM s.a f g) (0<=y) (y<aG s) (∃(j:VV),aL m h f (fF g y 3) j.enc/\∃(d:List dc)(v:VV),aH (wH (bJ x.2) (xO j)=wH d (xO v)) (gX m) (iK (mO d v.text.size+500)) (∃(c:Nat×dr),aA (I c) (e c<e x) (aA (aJ s) (eL 19) (aA (aJ t) (bG t) (aA (fU (bC x.1 1)=bP c.1) (bW 5 1 (kR d (AR v))=bW 5 1
 (bJ c.2)) (bO (m=m) h h)))))))))) (∃(b:dr),bJ x.2=bJ b/\K (lL (ByteArray.mk (Array.mk b))) m h)
def T1(n:Nat)(m:MH)(h:PH)(K:da):=
  fX (kE ((↑n:Int)-kE ((0:Int)-0))) 0 (aA (cF 0) (cF 0) (aA (0<wI n) (Ka (wI n*24)) (aH (Ka (wI n)) ((0:Int)<=0) (cF (mG (vK (wI n) j5))) (K (CV.lst 65 1 []) m h)))) (K (CV.lst 65 1 []) m h)
def UF(d:Sl)(m:MH)(h:PH)(K:da):=
  I9 (λI x=>aA (I x) (aJ d) (aA (bA x.2) (aJ d) (aA (bG d) (bA x.1) (aA (m=m) (h=h) True)))) (λI g x=>I x->aZ (↑x.1:Int) (aG d) (bF (λb o=>aH (aM d.a b o) (0<=(↑x.1:Int)) ((↑x.1:Int)<aG d) (∃(y:Sl),aL m h b (bK o x.1 1) (bH y)/\aZ (bC x.2 (aG y)) 0 False (∃(c:Nat×Nat),aA (I c) (g c<g x) (aA (aJ d) (fU (bC x.2 (aG y))=bP c.2) (aA (aJ d) (bG d) (aA (fU (bC x.1 1)=bP c.1) (m=m) (bQ h h)))))))) (∃(n:Nat),aA (cA Dn (↑x.2:Int)=cA Dn (↑n:Int)) (n<=32000000) (EB (λI1 c=>aA (I1 c) (eL 24) (aA (aJ d) (bG d) (aA (bA c.1) (EA c) (aA (m=m) (h=h) True)))) (λI1 j c=>I1 c->aZ (↑c.1:Int) (aG d) (bF (λb o=>aH (aM d.a b o) (0<=(↑c.1:Int))
 ((↑c.1:Int)<aG d) (∃(y:Sl),aL m h b (bK o c.1 1) (bH y)/\∃(e:List dc),aA (eU 1 e) (cO h (Sl.mk y.a y.len y.cap) 1 e) (aA (uP c.2 e.length) (iK (zF c.2+e.length)) (∃(f:Nat×dg),aA (I1 f) (j f<j c) (aA (eL 24) (aJ d) (aA (bG d) (fU (bC c.1 1)=bP f.1) (aA (bW 65 1 (vU c.2 e)=Al f.2) (m=m) (bQ h h))))))))) (bN h 1 (List.map eS c.2) (λs u=>K (cM s) m u))))))
theorem YQ{u v r r'}(e:VOk u)(f:VOk v)(h:AR u++r=AR v++r'):u=v/\r=r':=by
 have z:xB 0:=⟨bj,bj⟩
 have c:∀w:VV,VOk w->Zc ⟨0,0,w⟩:=λw d=>⟨z,z,d.kind,d.int,by have:=d.text;omega⟩
 have:=J4 (o:=⟨0,0,u⟩) (o':=⟨0,0,v⟩) (r:=r) (r':=r') (c u e) (c v f) (by simp only[D1,append_assoc,h])
 grind
theorem Xj:∀{a b:dj},a.length=b.length->(∀v∈a,VOk v)->(∀v∈b,VOk v)->a.flatMap AR=b.flatMap AR->a=b
 |[],[],_,_,_,_=>rfl
 |x::a,y::b,c,e,f,h=>by
  simp only[flatMap_cons]at h;obtain⟨g,j⟩:=YQ (e x (mem_cons_self ..)) (f y (mem_cons_self ..)) h;rw[g,Xj bo (λv d=>e v (mem_cons_of_mem _ d)) (λv d=>f v (mem_cons_of_mem _ d)) j]
 |[],_::_,c,_,_,_=>by simp at c
 |_::_,[],c,_,_,_=>by simp at c
theorem L8:bqZ rP:=⟨fun{a b} c d e=>⟨λh=>by
 simp only[rP,ByteArray.mk.injEq]at h;exact Xj c d e bo,λh=>by rw[h]⟩⟩
theorem bEQ{P f T c R R'}(x:FAt P f T c m h R)(d:∀l m' h',R l m' h'->R' l m' h'):FAt P f T c m h R':=
 ⟨x.fn,λg w e j=>(x.go g w e j).mono λ_ _⟨l,m',h',n,o,u⟩=>⟨l,m',h',n,d _ _ _ o,u⟩⟩
theorem a6X:cz 95 cJX:=by
 refine gW func95 ?_;rintro E m h K ⟨s,g,c,l,p,rfl,B,P,F,G⟩;refine⟨cjJ s g c m h,rfl,aI,Xy s g c m h K,bh,?_⟩;dsimp only[Xy,push_cast];have n:=bI.slen B;refine⟨λx=>x.1<=l.length/\x.2.length<=x.1/\dR h x.2 ((l.take x.1).filter p),λx=>l.length-x.1,⟨(0,[]),⟨bi,bi,bx (dR.nil h)⟩,MT⟩,?_⟩;rintro⟨i,C⟩ ⟨H,y,d⟩;dsimp only at H y d;refine aF (λf=>?_) (λz=>?_)
 .dsimp only at f⊢
  obtain⟨r,j⟩:=dW n f;obtain⟨b,o,u,I,rd,D⟩:=bI.at B j;refine⟨b,o,I,aD,aD,u,.imm rd,λt m' h'=>t=p r/\m'=m/\h'=h,bEQ (F u r (ce j) D) (λx m' h'⟨J,L,M⟩=>⟨p r,J,rfl,L,M⟩),?_⟩;rintro t m' h' ⟨rfl,rfl,rfl⟩;refine aC (λe=>⟨bo,bo,(i+1,C++[u]),⟨aD,bn,?_⟩,aD,?_⟩) (λe=>⟨(i+1,C),⟨aD,bo,?_⟩,aD,?_⟩)
  .rw[zR _ j,if_pos e];exact d.snoc D
  .rw[fR aD,cj];exact MT
  .rw[zR _ j,if_neg (by rw[e];simp),append_nil];exact d
  .rw[fR aD];exact MT
 .dsimp only at z⊢
  rw[ci aD]at d;intro O h' le A;exact G O h' le ((d.mono le).rows A bo)
theorem avX{l r}(f:fW l)(g:i<=l.length)(n:∀j y,j<i->l[j]? =some y->eC y r<0)(o:∀j y,i<=j->l[j]? =some y->¬eC y r<0):(l.countP λy=>decide (eC y r<0))=i:=by
 have e:l.countP (λy=>decide (eC y r<0))=(l.take i).countP (λy=>decide (eC y r<0))+(l.drop i).countP λy=>decide (eC y r<0):=by
  rw[<-countP_append,take_append_drop]
 have u:(l.take i).countP (λy=>decide (eC y r<0))=(l.take i).length:=countP_eq_length.2 λy c=>by
  obtain⟨j,d⟩:=getElem?_of_mem c
  grind
 have x:(l.drop i).countP (λy=>decide (eC y r<0))=0:=countP_eq_zero.2 λy c=>by
  obtain⟨j,d⟩:=getElem?_of_mem c
  grind
 grind
theorem MK{l}(d:fW l){j x y}(c:i<j)(e:l[i]? =some x)(f:l[j]? =some y):eC x y<0:=by
 obtain⟨g,rfl⟩:=List.getElem?_eq_some_iff.1 e;obtain⟨n,rfl⟩:=List.getElem?_eq_some_iff.1 f;exact pairwise_iff_getElem.1 d i j g n c
theorem bCX{j}(h:i+j<=32000000):IntKind.i64.wrap ((IntKind.u64.wrap (IntKind.i64.wrap ((i:Int)+(j:Int)))).fdiv 2)=(((i+j)/2:Nat):Int):=by
 rw[eM (n:=(i:Int)+j) aD aD,SI aD aD,Int.fdiv_eq_ediv_of_nonneg _ aD];have:((i:Int)+j)/2=(((i+j)/2:Nat):Int):=by omega
 rw[this,eM aD aD]
theorem akZ:cz 164 cKX:=by
 refine gW func164 ?_;rintro X m h K ⟨s,u,l,r,rfl,E,d,U,Z,B⟩;refine⟨bMZ s u m h,rfl,aE Fy aI,T0 s u m h K,bh,?_⟩;dsimp only[T0,push_cast];have Y:=bI.slen E;refine⟨λx=>x.1<=x.2/\x.2<=l.length/\(∀j y,j<x.1->l[j]? =some y->eC y r<0)/\∀j y,x.2<=j->l[j]? =some y->¬eC y r<0,λx=>x.2-x.1,⟨(0,l.length),⟨bi,bi,λj y C=>by omega,λj y C D=>bo⟩,?_⟩,?_⟩
 .grind
 rintro⟨i,j⟩ ⟨F,C,f,g⟩;dsimp only at F C f g;refine aF (λn=>?_) (λG=>?_)
 .dsimp only at n⊢
  have n:i<j:=by omega
  rw[bCX aD];have H:i<=(i+j)/2:=by omega
  have I:(i+j)/2<j:=by omega
  generalize (i+j)/2=k at H I;have c:l[k]? =some (l[k]'(by omega)):=cd _;generalize l[k]'(by omega)=x at c;obtain⟨b,o,e,J,rd,L⟩:=bI.at E c;refine⟨b,o,J,aD,aD,e,.imm rd,e,u,x,r,rfl,L,U,aF (λM=>⟨(k+1,j),⟨aD,C,λO y P D=>?_,g⟩,aD,?_⟩) (λM=>⟨(i,k),⟨aD,aD,f,λO y P D V=>?_⟩,aD,?_⟩)⟩
  .by_cases Q:O=k
   .grind
   .exact G8 (MK d aD D c) M
  .rw[fR aD];exact MT
  .by_cases Q:O=k
   .grind
   .exact M (G8 (MK d aD c D) V)
  .exact MT
 .dsimp only at G⊢
  have:i=j:=by omega
  subst this;rw[avX d C f g]at B
  have z:(∀y,l[i]? =some y->eC y r≠0)->Cg l r=false:=λV=>by
   rw[Bool.eq_false_iff];intro R;obtain⟨j,S⟩:=getElem?_of_mem (uA.1 R);have hz:eC r r=0:=iZ.2 rfl;rcases Nat.lt_trichotomy j i with T|T|T
   .grind
   .grind
   .have A:i<l.length:=bo
    have c:l[i]? =some l[i]:=cd A;have h3:=MK d T c S
    grind
  refine aF (λn=>?_) (λW=>?_)
  .have A:i<l.length:=by omega
   have c:l[i]? =some l[i]:=cd A;generalize l[i]=x at c;obtain⟨b,o,e,J,rd,L⟩:=bI.at E c;refine⟨b,o,J,aD,aD,e,.imm rd,e,u,x,r,rfl,L,U,?_⟩
   have:Cg l r=(eC x r==0):=by
    cases e2:eC x r==0 with
    |true=>
     have:=iZ.1 (by grind:eC x r=0);subst this;exact uA.2 (ce c)
    |false=>grind
   rw[this]at B;exact B
  .rw[z λy D=>by grind]at B;exact B
theorem RN:cz 104 cbQ:=by
 refine gW func104 ?_;rintro d m h K ⟨s,u,l,r,rfl,e,c,f,g,j⟩;refine⟨cZ [(164,cKX)] [] [] [] false,rfl,aE akZ aI,blX s u m h K,bh,?_⟩;exact⟨s,u,l,r,rfl,e,c,f,g,j⟩
theorem ax:cz 51 U1:=by
 refine gW func51 ?_;rintro E m h K ⟨s,l,rfl,C,L,F,G⟩;refine⟨f51_ctx s m,rfl,aE aj aI,am s m h K,bh,?_⟩;dsimp only[am,push_cast];have z:=bI.slen C;refine⟨aD,aD,aD,aD,λx=>x.1<=l.length/\PH.le h x.2.2/\∃j,j.length=x.1/\x.2.1=j++replicate (l.length-x.1) ⟨none,0,0⟩/\dR x.2.2 j (l.take x.1),λx=>l.length-x.1,⟨(0,replicate l.length ⟨none,0,0⟩,h),⟨bi,.refl _,[],rfl,bi,bx (dR.nil h)⟩,?_⟩,?_⟩
 .dsimp only;rw[map_replicate,show((s.len:Int)).toNat=l.length by omega];exact MT
 rintro⟨i,M,O⟩ ⟨H,le,j,f,D,g⟩;dsimp only at H le f D g;subst D;refine aF (λy=>?_) (λA=>?_)
 .dsimp only at y⊢
  obtain⟨r,c⟩:=dW z y;obtain⟨b,o,u,I,rd,J⟩:=bI.at C c;refine⟨b,o,I,aD,aD,u,.imm (rd.mono le),u,r,rfl,bR.mono J le,F r (ce c),λn h' d B=>⟨aD,bo,[rU],?_,bi,(i+1,(j++[n])++replicate (l.length-(i+1)) ⟨none,0,0⟩,h'),⟨aD,le.trans d,j++[n],by simp[f],rfl,?_⟩,aD,?_⟩⟩
  .rw[getElem?_map,Int.toNat_natCast,getElem?_append_right aD,getElem?_replicate,if_pos aD];rfl
  .dsimp only;rw[cq,c];exact(g.mono d).snoc B
  .dsimp only
   have e:((j++replicate (l.length-i) (⟨none,0,0⟩:Sl)).map eS).set ((i:Int)).toNat (gP n::List.drop 1 [rU])=((j++[n])++replicate (l.length-(i+1)) (⟨none,0,0⟩:Sl)).map eS:=by
    rw[Int.toNat_natCast,show l.length-i=(l.length-(i+1))+1 by omega,replicate_succ,cj,set_append,if_neg (by simp[f]),cj,cj,append_assoc];simp[f,eS]
   rw[e,fR aD];exact MT
 .dsimp only at A⊢
  have:i=l.length:=by omega
  subst this;rw[Nat.sub_self,replicate_zero,append_nil];rw[take_length]at g;intro n h' d c;exact G n h' (le.trans d) ((g.mono d).rows c aD)
theorem boX{v}(h:v.text.size<=64):(AR v).length<=200:=by
 have c:=gZ [v.kind];have e:=Bb v.int;have d:=gZ [(v.text.size:Int)];have f:v.text.data.toList.length=v.text.size:=Array.length_toList;simp only[AR,cg,cu,length_nil]at c d⊢
 omega
theorem a2J{r:dj}(h:∀v∈r,v.text.size<=64):(r.flatMap AR).length<=200*r.length:=by
 induction r with
 |nil=>simp
 |cons v l c=>
  have d:=boX (h v (mem_cons_self ..))
  grind
theorem DN:cz 100 U0:=by
 refine gW func100 ?_;rintro H m h K ⟨s,t,r,d,rfl,D,E,I,y,J,L⟩;refine⟨bWX s t m h,rfl,aE alQ aI,UG s t m h K,bh,?_⟩;dsimp only[UG,push_cast];have M:=bI.slen D;have z:=E.slen;have O:=y.len;have P:(pick r d).length=d.length:=by simp[pick]
 have g:∀v∈pick r d,v.text.size<=64:=λv Q=>(I.val v (W7 y Q)).text;refine⟨λx=>x.1<=d.length/\x.2=((pick r d).take x.1).flatMap AR,λx=>d.length-x.1,⟨(0,[]),⟨bi,bi⟩,MT⟩,?_⟩;rintro⟨i,l⟩ ⟨R,F⟩;dsimp only at R F;subst F;refine aF (λf=>?_) (λA=>?_)
 .dsimp only at f;obtain⟨c,j⟩:=dW z f;obtain⟨b,o,e,rd⟩:=E.at j;obtain⟨v,B,n,S,X⟩:=Vr y j;obtain⟨T,U,w,V,C,rfl⟩:=bI.at D B;have Y:=a2J (r:=(pick r d).take i) (λu W=>g u (mem_of_mem_take W));have G:=g v (ce n);refine⟨b,o,e,aD,f,c,.imm bo,T,U,V,S,aD,v,.imm C,_,v,rfl,J,?_,(i+1,((pick r d).take (i+1)).flatMap AR),⟨aD,rfl⟩,bo,?_⟩
  .rw[bD]
   grind
  .dsimp only;rw[cq,n,flatMap_append,dY];simp only[Option.toList_some,flatMap_cons,flatMap_nil,append_nil];exact MT
 .dsimp only at A⊢
  rw[ci aD];exact⟨_,rfl,L⟩
theorem akJ:cz 163 aUQ:=by
 refine gW func163 ?_;rintro d m h K ⟨n,rfl,f,c⟩;refine⟨cZ [] [] [] [] true,rfl,aI,T1 n m h K,bh,?_⟩;dsimp only[T1,push_cast];have e:IntKind.i64.wrap ((n:Int)-0)=n:=by rw[eM aD aD];omega
 have g:IntKind.i64.wrap ((n:Int)-IntKind.i64.wrap (0-0))=n:=by rw[show IntKind.i64.wrap (0-0)=0 from by rw[eM aD aD];rfl,e]
 exact aF (λj=>⟨aD,aD,aD,aD,aD,aD,aD,c⟩) (λ_=>c)
theorem atZ:cz 102 U2:=by
 refine gW func102 ?_;rintro V m h K ⟨z,R,S,rfl,G,h1,h2,W⟩;refine⟨bWQ z m h,rfl,aE akJ aI,UF z m h K,bh,?_⟩;dsimp only[UF,push_cast];have X:z.len=2:=bI.slen G
 have g:∀k∈[R,S],k.length<=8000000:=λk e=>by
  grind
 generalize A:[R,S]=ks at G g;have H:ks.length=2:=bo
 have f:∀i,i<=2->((ks.take i).map List.length).sum<=16000000:=λi j=>by
  rw[<-A]
  match i,j with
  |0,_=>simp
  |1,_=>simp;omega
  |2,_=>simp;omega
 refine⟨λx=>x.1<=2/\x.2=((ks.take x.1).map List.length).sum,λx=>2-x.1,⟨(0,0),⟨bi,bi⟩,MT⟩,?_⟩;rintro⟨i,n⟩ ⟨j,T⟩;dsimp only at j T⊢
 subst T;have Y:=f i j;refine aF (λd=>?_) (λB=>?_)
 .obtain⟨k,e⟩:=dW (l:=ks) (n:=z.len) aD d;obtain⟨b,o,y,I,r,u⟩:=bI.at G e;have H:=bI.slen u;have C:=g k (ce e)
  have Z:IntKind.i64.wrap (((((ks.take i).map List.length).sum:Nat):Int)+(y.len:Int))=((((ks.take (i+1)).map List.length).sum:Nat):Int):=by
   rw[CC e,eM aD aD];omega
  refine⟨b,o,I,aD,d,y,.imm r,?_⟩;rw[Z];exact aF (λU=>by omega) (λ_=>⟨(i+1,((ks.take (i+1)).map List.length).sum),⟨aD,rfl⟩,aD,by rw[fR aD];exact MT⟩)
 .refine⟨((ks.take i).map List.length).sum,rfl,aD,λx=>x.1<=2/\x.2.length<=16000000/\dR h x.2 (ks.take x.1).flatten,λx=>2-x.1,⟨(0,[]),⟨bi,bi,bx (dR.nil h)⟩,MT⟩,?_⟩;clear Y B j;rintro⟨i,us⟩ ⟨j,J,c⟩;dsimp only at j J c⊢
  have L:=c.len;rw[length_flatten]at L;refine aF (λd=>?_) (λB y h' D E=>W y h' D ?_)
  .obtain⟨k,e⟩:=dW (l:=ks) (n:=z.len) aD d;obtain⟨b,o,y,I,r,u⟩:=bI.at G e;obtain⟨⟨F,M,O,P⟩,_⟩:=u;have C:=g k (ce e);have Q:=f (i+1) aD;rw[CC e]at Q;refine⟨b,o,I,aD,d,y,.imm r,F.map eS,Ad _,M,bn,bn,(i+1,us++F),⟨aD,bn,?_⟩,aD,?_⟩
   .dsimp only;rw[cq,e,flatten_append];simp only[Option.toList_some,flatten_cons,flatten_nil,append_nil];exact c.app ⟨O.symm,P⟩
   .rw[fR aD,cj];exact MT
  .rw[ci aD, <-A]at c;simp only[flatten_cons,flatten_nil,append_nil]at c;exact(c.mono D).rows E bn
def Sk:Vc.Spec:=λc m h K=>∃s t d v od a b,c=[cS s,cS t,cP d]/\m d=some (.cells ⟨xU.enc v⟩ 101 (0,0))/\jW h v.order od/\bR h s a/\bR h t b/\K (cI (jT od a b)) m h
def aPX:Vc.Spec:=λd m h K=>∃(s:Sl)(e:Nat)(v:xU)(od:di)(w:Nat)(ps:dy),d=[cS s,.val (.func (.func 165) #[] #[.pointer (some ⟨e,0,none⟩)])]/\m e=some (.cells ⟨xU.enc v⟩ 101 (0,0))/\(∀i,s.a≠some ⟨e,i,none⟩)/\jW h v.order od/\fA m s 65 1 (ps.map λp=>eS p.1)/\(∀p∈ps,bR h p.1 p.2)/\(∀p∈ps,p.2.length=w)/\ps.length<=140737488355328/\
 ∀(c:dy)(m':MH),c.Perm ps->c.Pairwise (λp q=>¬jT od q.2 p.2<0)->fA m' s 65 1 (c.map λp=>eS p.1)->(∀b,(∀i,s.a≠some ⟨b,i,none⟩)->m' b=m b)->K (.tup []) m' h
def Zh:Vc.Spec:=λc m h K=>∃v s gr od l w,c=[aT v,cS s]/\Ints h v.group gr/\jW h v.order od/\Rows h s l/\iM w l/\fE w gr/\gX m/\
 ∀y d e f g,m y=none->(∀b,b≠y->d b=m b)->PH.le h e->zL rP d e y gr od l f g->K (.val (.map (some y))) d e
noncomputable def bVJ s:=vO [(100,U0),(135,aPX)] [(3,{A:=Nat×Nat×Nat×MH×PH,st:=λ⟨b,y,i,m,h⟩=>bS 41 43 [(2,pv b),(5,vv (.map (some y))),(12,sv s),(13,iv s.len),(14,iv i)] [] m h}),
 (9,{A:=Nat×Nat×Nat×MH×PH,st:=λ⟨b,y,r,m,h⟩=>bS 41 43 [(2,pv b),(5,vv (.map (some y))),(32,pv r)] [] m h})] [] [] [200002,1058,400000,0] [] false
abbrev F7(a:dj->dj->Prop):=∃(x c:dj),a x c
attribute [push_cast] F7
def bjX(s t:Sl)(f:Nat)(m:MH)(h:PH)(K:da):=
  kW m h f 18 (λy=>gL (λo c=>QJ (λd e=>F7 (λa b=>aA (cM y::aX (cM s) (cM t)=cM o::aX (cM c) (cM d)) (jW h o e) (aA (bR h c a) (bR h d b) (K (fI (jT e a b)) m h))))))
abbrev Vw(a:Prop)(b:(Nat×Nat×Nat×MH×PH)->Prop):=a/\∀(x:Nat×Nat×Nat×MH×PH),b x
abbrev QN(a:Sl->Sl->dj->db->Prop):=gL (λx c=>∃(d:dj)(e:db),a x c d e)
abbrev CM(a b:Sl)(c:Nat->Nat->Option Value)(d e:dj->db->Prop):=QN (λx j f g=>aA (iH a b=iH x j) (bR c x f) (aA (Ints c j g) (d f g) (e f g)))
noncomputable abbrev jQ a b:=Value.string (rP (pick a b))
abbrev IL(a b:Prop)(c:MH)(d:Nat)(e:dj)(g:db)(i:fb->Prop)(j:fb->Sl->Prop):=aA a b (∃(x:fb)(n:Value->Prop),aA (zW c d (List.map (fun(f:Value×Sl)=>(f.1,gP f.2)) x)) (GR n) (aA (n (jQ e g)) (∀(f:Value×Sl),List.Mem f x->n f.1) (i x/\∀(f:Sl),j x f)))
abbrev mH(a:dj)(b:db):=fE a.length b
abbrev IM(a:Nat->Option Obj)(b:Nat)(c:dj)(d:db)(e:dk->Prop)(g:dk->dk->Value->dk->Prop):=ZL (λx j=>aA (zX a b x) (GR j) (aA (j (jQ c d)) (AY (Instr.sameBits 10000 (jQ c d) (jQ c d))) (aA (∀(f:Value×Value),List.Mem f x->j f.1) ((∀(f:Value×Value),List.Mem f x->f.1=jQ c d->False)->e x) (∀(f:dk)(n:Value)(o:dk),g x f n o))))
abbrev Li(a:MH)(b:Nat×Nat×Nat×MH×PH)(c:MH->Prop)(d:MH->(Nat×Nat×Nat×MH×PH)->Prop):=∀(x:MH),tG a x (j6 b)->c x->∃(e:Nat×Nat×Nat×MH×PH),d x e
abbrev QK(a:Nat->dk->dk->Prop):=∃(x:Nat)(c d:dk),a x c d
attribute [push_cast] Vw QN CM jQ IL mH IM Li QK
def NL(v:xU)(s:Sl)(m:MH)(h:PH)(K:da):=
  lG m h (λb H=>iR m H b v.enc 101) (λb H=>Eg H h (λQ R=>∃(I:Nat×Nat×Nat×MH×PH->Prop)(A:Nat×Nat×Nat×MH×PH->Nat),Vw (∃(x:Nat×Nat×Nat×MH×PH),aA (I x) (dK b x.1) (aA (kP Q (j6 x)) (aJ s) (aA (bG s) (bA (kZ x)) (aA (cN R (qG x).2) (h=gT x) True)))) (λx=>I x->aZ (↑(kZ x):Int) (aG s) (bF (λG o=>aH (aM s.a G o) (0<=(↑(kZ x):Int)) ((↑(kZ x):Int)<aG s) (∃(y:Sl),aL (oT x) (gT x) G (bK o (kZ x) 1) (bH y)/\kW (oT x) (gT x) x.1 17 (λS=>CM y S (gT x) (λr _=>Wf r) (λr c=>IL (mH r c) (gX (oT x)) (oT x) (j6 x) r c (λk=>E5 (∀(e:Value×Sl),List.Mem e k->e.1=jQ r c->False) (λd=>aH (fA (oT x) (Sl.mk
 Option.none 0 0) 65 1 d) (iK (mO d 1*24)) (mR d) (qC (λj n=>kK (oT x) n (Sl.mk Option.none 0 0) j 65 1 (iT d (bH y))->IM n (j6 x) r c (λu=>Li n x (λg=>zX g (j6 x) (u++E0 (jQ r c) (gP j))) (λg f=>aA (I f) (A f<A x) (aA (dK x.1 f.1) (kP (j6 x) (j6 f)) (aA (aJ s) (bG s) (aA (fU (bC (kZ x) 1)=bP (kZ f)) (cN g (qG f).2) (bQ (gT x) (gT f))))))) (λu l E B=>u=l++(jQ r c,E)::B->Li n x (λg=>zX g (j6 x) (l++(jQ r c,gP j)::B)) (λg f=>aA (I f) (A f<A x) (aA (dK x.1 f.1) (kP (j6 x) (j6 f)) (aA (aJ s) (bG s) (aA (fU (bC (kZ x) 1)=bP (kZ f)) (cN g (qG f).2) (bQ (gT x) (gT f))))))))))) (λk
 C=>E5 (List.Mem (jQ r c,C) k) (λd=>aH (fA (oT x) (Sl.mk C.a C.len C.cap) 65 1 d) (iK (mO d 1*24)) (mR d) (qC (λj n=>kK (oT x) n (Sl.mk C.a C.len C.cap) j 65 1 (iT d (bH y))->IM n (j6 x) r c (λu=>Li n x (λg=>zX g (j6 x) (u++E0 (jQ r c) (gP j))) (λg f=>aA (I f) (A f<A x) (aA (dK x.1 f.1) (kP (j6 x) (j6 f)) (aA (aJ s) (bG s) (aA (fU (bC (kZ x) 1)=bP (kZ f)) (cN g (qG f).2) (bQ (gT x) (gT f))))))) (λu l E B=>u=l++(jQ r c,E)::B->Li n x (λg=>zX g (j6 x) (l++(jQ r c,gP j)::B)) (λg f=>aA (I f) (A f<A x) (aA (dK x.1 f.1) (kP (j6 x) (j6 f)) (aA (aJ s) (bG s) (aA (fU (bC (kZ x) 1)=
 bP (kZ f)) (cN g (qG f).2) (bQ (gT x) (gT f)))))))))))))))) (∃(k:dk),lB (zX (oT x) (j6 x) k) (λr=>∀(n:MH),rT (oT x) (gT x) r->tG (oT x) n r->oR n (j6 x) r k k->∃(I1:Nat×Nat×Nat×MH×PH->Prop)(g:Nat×Nat×Nat×MH×PH->Nat),Vw (∃(d:Nat×Nat×Nat×MH×PH),aA (I1 d) (dK x.1 d.1) (aA (kP (j6 x) (j6 d)) (dK r (kZ d)) (bO (cN n (qG d).2) (gT x) (gT d)))) (λd=>I1 d->QK (λG u l=>aA (oR (oT d) G (kZ d) u l) (l=[]->K (CV.val (Value.map (Option.some (j6 d)))) (oT d) (gT d)) (∀(B:dk)(f:Value×Value)(O:dk),l=B++f::O->∀(F:MH),tG (oT d) F (kZ d)->Hc F G (kZ d) u
 (B++O) f->QK (λT U V=>∃(P:Value×Value),Hc F T (kZ d) U V P/\∃(j:Sl)(J:Nat)(E:xU)(o:di)(w:Nat)(p:dy),aA (aX (CV.val P.2) (DI 165 (Array.mk (lJ (vQp d.1 0))))=aX (cM j) (DI 165 (Array.mk (lJ (vQp J 0))))) (F J=Option.some (B7 (Array.mk E.enc) 101 0)) (aA (∀(i:Nat),xH (aM j.a J i)) (jW (gT d) E.order o) (aA (Lj F j 1 p) (∀(z:Sl×dj),List.Mem z p->bR (gT d) z.1 z.2) (aA (∀(z:Sl×dj),List.Mem z p->z.2.length=w) (iK p.length) (∀(z:dy)(L:MH),List.Perm z p->List.Pairwise (fun(W:Sl×dj)=>fun(q:Sl×dj)=>¬(jT o q.2 W.2<0)) z->Lj L j 1 z->(∀(M:Nat),(∀(i:Nat),xH (aM j.a M i))->L M=F M)->∃(D:
 Nat×Nat×Nat×MH×PH),aA (I1 D) (g D<g d) (aA (dK d.1 D.1) (kP (j6 d) (j6 D)) (aH (dK (kZ d) (kZ D)) (cN L (qG D).2) (gT d=gT D) True)))))))))))))))
theorem akX:cz 165 Sk:=by
 refine gW func165 ?_;rintro c m h K ⟨s,t,d,v,od,a,b,rfl,e,f,g,j,n⟩;refine⟨vO [(110,Ir)] [] [] [] [0] [] false,rfl,aE RM aI,bjX s t d m h K,bh,?_⟩;exact⟨v.order,.of_m e rfl,v.order,s,t,od,a,b,rfl,f,g,j,n⟩
theorem Yu:cz 135 aPX:=by
 refine⟨⟨Tryz.f135,func135,rfl,bj⟩,?_⟩;rintro j f m h w K ⟨s,c,v,od,n,ps,rfl,I,u,z,A,B,C,D,E⟩ d
 obtain⟨F,e,rfl⟩:∃v e,f=[v,e]:=by
  have:=(uD d.args).1
  match f,this with
  |[v,e],_=>grind
 have G:F=s.val:=d.args.1;have H:e= .func (.func 165) #[] #[.pointer (some ⟨c,0,none⟩)]:=d.args.2.1;subst G H;refine SP (R:=λl=>l.length=n) (g:=165) (cb:=[.pointer (some ⟨c,0,none⟩)]) (m2:=λb=>if b=c then m c else none) (cf:=jT od) rfl d ⟨Tryz.f165,func165,rfl,bj⟩ A B C D (bYJ od) ⟨Sk,akX,λx y=>⟨x.s,y.s,c,v,od,x.l,y.l,rfl,bo,z,x.ok,y.ok,rfl,rfl,rfl⟩⟩ (λb o J=>?_) E
 grind
theorem uG.appV{m0 y kk us key s e}{Q:MH->Prop}(g:uG m0 m y kk us)(z:∃o,m0 y=some o)(D:(us key).length<=502633886983)(A:∀m' f,uG m0 m' y f (P5 us key e)->Q m')(n:Ho kk key s):
 ∃xs:List dc,fA m (Sl.mk s.a s.len s.cap) 65 1 xs/\(xs.length+1)*24<=140737488355328/\xs.length<140737488355328/\∀(j:Sl)(d:MH),kK m d (Sl.mk s.a s.len s.cap) j 65 1 (xs++[[gP e]])->
 ∃(c:dk)(Ok:Value->Prop),zX d y c/\KeyLaw Tryz.prog 9 Ok/\Ok (.string key)/\Instr.sameBits 10000 (Value.string key) (Value.string key)=true/\(∀e,List.Mem e c->Ok e.1)/\((∀e,List.Mem e c->e.1=Value.string key->False)->∀m':MH,tG d m' y->zX m' y (c++[(Value.string key,gP j)])->Q m')/\
  ∀(u:dk)(B:Value)(x:dk),c=u++(Value.string key,B)::x->∀m':MH,tG d m' y->zX m' y (u++(Value.string key,gP j)::x)->Q m':=
 ⟨_,(n.row g).1,bn,bn,λ_ _ C=>g.put z n C A⟩
theorem asJ:cz 106 Zh:=by
 refine VN func106 ?_;rintro b9 m h K ⟨v,s,gr,od,l,w,rfl,a7,a8,Z,c,H,hT,hK⟩;refine⟨bVJ s,rfl,aE DN (aE Yu aI),NL v s m h (fV h K),bh,?_⟩;show NL v s m h (fV h K);dsimp only[NL,push_cast];intro bq m1 a' B y I J C;obtain⟨s1,nq⟩:=yH (Sub.refl m) a' B;obtain⟨s2,ny⟩:=yH s1 J C;have D:bq≠y:=λe=>by have:=J.m_;rw[<-e,B.at_]at this;cases this
 have L:I bq=some (.cells ⟨xU.enc v⟩ 101 (0,0)):=by rw[C.other bq D];exact B.at_
 have n:I y=some (.map #[] 0):=C.at_;have a9:=bI.slen Z;have b':=c.len;clear B C a' J s1;have a0:∀{E kk us},uG I E y kk us->Sub m E:=λg z o j=>g.old z o (s2 z o j) (λF=>bo);refine⟨λx=>x.1=bq/\x.2.1=y/\x.2.2.1<=l.length/\x.2.2.2.2=h/\aBQ I x.2.2.2.1 h y (rC rP gr (l.take x.2.2.1)),λx=>l.length-x.2.2.1,⟨(bq,y,0,I,h),⟨rfl,rfl,Nat.zero_le _,rfl,⟨[],_,uG.new n,λk=>by simpa[rC]using dR.nil h⟩⟩,MT⟩,?_⟩;rintro⟨M,O,i,E,P⟩ ⟨Q,j,hi,F,⟨kk,uk,g,hg⟩⟩;dsimp only at Q j hi F g hg⊢
 subst Q j F;refine aF (λb0=>?_) (λc'=>?_)
 .obtain⟨r,hr⟩:=dW a9 b0;obtain⟨b,o,u,ea,rd,hv⟩:=bI.at Z hr;have a1:=ce hr;have rq:aL E P M 17 [gP v.group]:=.of_m (g.old M _ L D) rfl
  have hl:(uk (rP (pick r gr))).length<=502633886983:=by
   have h5:=(hg (rP (pick r gr))).len;have h6:(rC rP gr (l.take i) (rP (pick r gr))).length<=(l.take i).length:=length_filter_le _ _
   grind
  rw[fR aD];have nx:∀(m':MH)(d:ef),uG I m' O d (P5 uk (rP (pick r gr)) u)->aBQ I m' P O (rC rP gr (l.take (i+1))):=λm' d g'=>aBQ.upd g' hg hv (by rw[rC,zR _ hr,if_pos bi];rfl) (λk2 c0=>by rw[rC,zR _ hr,if_neg bo,append_nil];rfl);exact⟨b,o,ea,aD,aD,u,.imm rd,v.group,rq,u,v.group,r,gr,rfl,hv,a7,c.row r a1,by rw[c.wid r a1];exact H,hT.sub (a0 g),g.get2 (λZ=>g.appV ⟨_,n⟩ hl (λm' d g'=>⟨(M,O,i+1,m',P),⟨rfl,rfl,bo,rfl,nx m' d g'⟩,bo,MT⟩) Z) (λs Z=>g.appV ⟨_,n⟩ hl (λm' d g'=>⟨(M,O,i+1,m',P),⟨rfl,rfl,bo,rfl,nx m' d g'⟩,bo,MT⟩) Z)⟩
 .rw[ci aD]at hg;have mq:=g.old M _ L D;refine⟨_,g.map_,λr m5 b3 b4 it=>?_⟩;have b5:E r=none:=b3.m_
  have a2:∀{z o},E z=some o->m5 z=E z/\z≠r:=fun{z o} j=>by
   have:z≠r:=λF=>bo
   exact⟨b4.other z this,this⟩
  have R:∀p∈kk,∀x i,p.2.a=some ⟨x,i,none⟩->∃o,E x=some o:=λp hp x i j=>⟨_,((g.row p hp).blk j).choose_spec⟩
  refine⟨λz=>z.1=M/\z.2.1=O/\z.2.2.1=r/\z.2.2.2.2=P/\(∀b o,E b=some o->(∀p∈kk,∀i,p.2.a≠some ⟨b,i,none⟩)->z.2.2.2.1 b=some o)/\∃left,oR z.2.2.2.1 O r (kk.map λp=>(Value.string p.1,gP p.2)) left/\∀p∈kk,cEX z.2.2.2.1 P od p (rC rP gr l) ((Value.string p.1,gP p.2)∉left),λz=>leftOf z.2.2.2.1 z.2.2.1,⟨(M,O,r,m5,P),⟨rfl,rfl,rfl,rfl,λb o e _=>(a2 e).1.trans e,_,it,λp hp=>?_⟩,MT⟩,?_⟩
  .obtain⟨ps,Q,j,F⟩:=cYX (hg p.1);refine⟨ps,?_,F,by rw[j],λhn=>(hn (mem_map_of_mem (f:=λp:ByteArray×Sl=>(Value.string p.1,gP p.2)) hp)).elim⟩;have e5:(ps.map λq=>eS q.1)=(uk p.1).map eS:=by rw[<-Q,map_map];rfl
   rw[e5];exact fA.keep (g.row p hp) λb i e=>(a2 (R p hp b i e).choose_spec).1
  .rintro⟨c1,c2,c3,mz,hz⟩ ⟨Q,j,F,e4,S,left,G,A⟩;dsimp only at Q j F e4 S G A⊢
   subst Q j F e4;refine⟨c2,_,left,G,λT=>?_,λl1 x l2 b6 m6 b7 a3=>?_⟩
   .subst T;exact Xr s2 ny n g hg (.refl _) b' S G A hK
   .obtain⟨p0,ps,rfl,a4,a5,hv,hw,c4,U⟩:=Xq (m4y:=n) g c b5 S G A b6 b7 a3;have hb:=a4 c1 _ L D;refine⟨c2,_,_,_,a3,p0.2,c1,v,od,w,ps,rfl,hb.1,hb.2,a8,a5,hv,hw,aD,λb8 m7 V W X a6=>?_⟩;obtain⟨k1,⟨Y,k2,k3⟩,k4⟩:=U b8 m7 V W X a6;exact⟨(c1,c2,c3,m7,hz),⟨rfl,rfl,rfl,rfl,k1,Y,k2,k3⟩,k4,rfl,rfl,rfl,rfl,rfl,trivial⟩
def b7J:Vc.Spec:=λe m h K=>∃v on f g c d,e=[aT v,cS f,cS g]/\gS h v.on on/\Rows h f c/\Rows h g d/\gX m/\bxJ on [c,d]/\c.length*d.length<=8000000/\∀j h',PH.le h h'->Rows h' j (c.flatMap (jS on d))->K (cS j) m h'
noncomputable def cjX:=vO [(99,ayJ),(100,U0),(160,Zk),(161,Zi)] [(4,{A:=Nat×Nat×Sl×Sl×Sl×Sl×MH×PH,st:=λ⟨i,y,l,a,b,r,m,h⟩=>bS 76 79 [(1,sv l),(7,sv a),(8,sv b),(9,vv (.map (some y))),(25,sv r),(26,iv r.len),(27,iv i)] [] m h}),
 (12,{A:=Nat×Nat×Sl×Sl×dg×MH×PH,st:=λ⟨i,y,l,a,c,m,h⟩=>bS 76 79 [(7,sv a),(9,vv (.map (some y))),(13,.at (.lst 72)),(46,sv l),(47,iv l.len),(48,iv i)] [(72,.lst 65 1 (c.map eS))] m h}),
 (16,{A:=Nat×Nat×Nat×Sl×Sl×Sl×Sl×dg×MH×PH,st:=λ⟨j,i,y,l,a,e,g,c,m,h⟩=>bS 76 79 [(7,sv a),(9,vv (.map (some y))),(13,.at (.lst 72)),(15,sv e),(46,sv l),(47,iv l.len),(48,iv i),(60,sv g),(61,iv g.len),(62,iv j)] [(72,.lst 65 1 (c.map eS))] m h})] [] [] [1058,400000,0] [] false
noncomputable abbrev u6(a:Nat×Nat×Sl×Sl×Sl×Sl×MH×PH):=a.2.2.1
noncomputable abbrev wR(a:Nat×Nat×Sl×Sl×Sl×Sl×MH×PH):=a.2.2.2.1
noncomputable abbrev u0(a:Nat×Nat×Sl×Sl×Sl×Sl×MH×PH):=a.2.2.2.2.1
noncomputable abbrev rL(a:Nat×Nat×Sl×Sl×Sl×Sl×MH×PH):=a.2.1
noncomputable abbrev lX(a:Nat×Nat×Sl×Sl×Sl×Sl×MH×PH):=a.2.2.2.2.2
abbrev Lk(a:MH)(b:Nat×Nat×Sl×Sl×Sl×Sl×MH×PH)(c:MH->Prop)(d:MH->(Nat×Nat×Sl×Sl×Sl×Sl×MH×PH)->Prop):=∀(x:MH),tG a x (rL b)->c x->∃(e:Nat×Nat×Sl×Sl×Sl×Sl×MH×PH),d x e
abbrev IZ a b:=aY (lX a).1 (lX b).1
abbrev I0 a b:=bZ (lX a).1 (lX b).1
abbrev I6 a b c:=aH (fU (bC a.1 1)=bP b.1) (jZ c (lX b)) (dP (lX a)=dP (lX b)) True
noncomputable abbrev xN(a:Nat×Nat×Sl×Sl×dg×MH×PH):=a.2.2
noncomputable abbrev BB a:=(xN a).2.1
noncomputable abbrev pG a:=(xN a).1
noncomputable abbrev C3 a:=(xN a).2.2.1
noncomputable abbrev mI(a:Sl×Sl×dg×MH×PH):=a.2.2.2
noncomputable abbrev yR a:=(mI (xN a)).2
abbrev C6 a b:=cN (mI a).1 (mI b)
abbrev Lm a b c d:=(∀(x:Value×Sl),List.Mem x a->x.1=jQ b c->False)->d
noncomputable abbrev C1(a:Nat×Nat×Nat×Sl×Sl×Sl×Sl×dg×MH×PH):=a.2.2.2.2.1
noncomputable abbrev C2(a:Nat×Nat×Nat×Sl×Sl×Sl×Sl×dg×MH×PH):=a.2.2.1
noncomputable abbrev qD(a:Nat×Nat×Nat×Sl×Sl×Sl×Sl×dg×MH×PH):=a.2.2.2.2.2
noncomputable abbrev qU(a:Nat×Nat×Nat×Sl×Sl×Sl×Sl×dg×MH×PH):=a.2.2.2.1
noncomputable abbrev oK a:=(qD a).2.1
noncomputable abbrev AE a:=(qD a).2.2.1
noncomputable abbrev Ay a:=(mI (qD a)).2
abbrev DH(a:dj)(b:de)(c:Prop):=List.Mem a b->c
attribute [push_cast] u6 wR u0 rL lX Lk IZ I0 I6 xN BB pG C3 mI yR C6 Lm C1 C2 qD qU oK AE Ay DH
def Rc(v:xU)(W U:Sl)(m:MH)(h:PH)(K:da):=
  AD (λs o=>yT v.on s (gS h s o) (∀(a:Sl),fB (λb H=>bY h H (Ints H a (fY o)) (Ints H b (fK o)->Eg m H (λX Y=>∃(I:Nat×Nat×Sl×Sl×Sl×Sl×MH×PH->Prop)(C:Nat×Nat×Sl×Sl×Sl×Sl×MH×PH->Nat),(∃(x:Nat×Nat×Sl×Sl×Sl×Sl×MH×PH),aA (I x) (aY W (u6 x)) (aA (aY a (wR x)) (aY b (u0 x)) (aA (kP X (rL x)) (aY U (lX x).1) (aA (bZ U (lX x).1) (bA x.1) (bO (jZ Y (lX x)) H (dP (lX x)))))))/\∀(x:Nat×Nat×Sl×Sl×Sl×Sl×MH×PH),I x->aZ (↑x.1:Int) (aG (lX x).1) (bF (λJ L=>aH (aM (lX x).1.a J L) (0<=(↑x.1:Int)) ((↑x.1:Int)<aG (lX x).1) (∃(y:Sl),aL (eT (lX x)) (dP (lX x)) J (bK L x.1 1) (bH y)/\CM y (u0 x) (dP
 (lX x)) (λr c=>mH r c) (λr c=>branch (List.all (pick r c) kM) (CM y (u0 x) (dP (lX x)) (λj _=>Wf j) (λj u=>IL (mH j u) (gX (eT (lX x))) (eT (lX x)) (rL x) j u (λk=>E5 (∀(e:Value×Sl),List.Mem e k->e.1=jQ j u->False) (λf=>aH (fA (eT (lX x)) (Sl.mk Option.none 0 0) 65 1 f) (iK (mO f 1*24)) (mR f) (qC (λB z=>kK (eT (lX x)) z (Sl.mk Option.none 0 0) B 65 1 (iT f (bH y))->IM z (rL x) j u (λE=>Lk z x (λn=>zX n (rL x) (E++E0 (jQ j u) (gP B))) (λn d=>aA (I d) (C d<C x) (aA (aY (u6 x) (u6 d)) (aY (wR x) (wR d)) (aA (aY (u0 x) (u0 d)) (kP (rL x) (rL d)) (aA (IZ x d) (I0 x d)
 (I6 x d n)))))) (λE l T M=>E=l++(jQ j u,T)::M->Lk z x (λn=>zX n (rL x) (l++(jQ j u,gP B)::M)) (λn d=>aA (I d) (C d<C x) (aA (aY (u6 x) (u6 d)) (aY (wR x) (wR d)) (aA (aY (u0 x) (u0 d)) (kP (rL x) (rL d)) (aA (IZ x d) (I0 x d) (I6 x d n)))))))))) (λk A=>E5 (List.Mem (jQ j u,A) k) (λf=>aH (fA (eT (lX x)) (Sl.mk A.a A.len A.cap) 65 1 f) (iK (mO f 1*24)) (mR f) (qC (λB z=>kK (eT (lX x)) z (Sl.mk A.a A.len A.cap) B 65 1 (iT f (bH y))->IM z (rL x) j u (λE=>Lk z x (λn=>zX n (rL x) (E++E0 (jQ j u) (gP B))) (λn d=>aA (I d) (C d<C x) (aA (aY (u6 x) (u6 d)) (aY
 (wR x) (wR d)) (aA (aY (u0 x) (u0 d)) (kP (rL x) (rL d)) (aA (IZ x d) (I0 x d) (I6 x d n)))))) (λE l T M=>E=l++(jQ j u,T)::M->Lk z x (λn=>zX n (rL x) (l++(jQ j u,gP B)::M)) (λn d=>aA (I d) (C d<C x) (aA (aY (u6 x) (u6 d)) (aY (wR x) (wR d)) (aA (aY (u0 x) (u0 d)) (kP (rL x) (rL d)) (aA (IZ x d) (I0 x d) (I6 x d n)))))))))))) (∃(f:Nat×Nat×Sl×Sl×Sl×Sl×MH×PH),aA (I f) (C f<C x) (aA (aY (u6 x) (u6 f)) (aY (wR x) (wR f)) (aA (aY (u0 x) (u0 f)) (kP (rL x) (rL f)) (aA (IZ x f) (I0 x f) (I6 x f (eT (lX x))))))))))) (∃(I1:Nat×Nat×Sl×Sl×dg×MH×PH->Prop)
 (z:Nat×Nat×Sl×Sl×dg×MH×PH->Nat),(∃(f:Nat×Nat×Sl×Sl×dg×MH×PH),aA (I1 f) (aY (wR x) (BB f)) (aA (kP (rL x) f.2.1) (eL 72) (aA (aY (u6 x) (pG f)) (bZ (u6 x) (pG f)) (aA (bA f.1) (vA (C3 f)) (bO (cN (eT (lX x)) (mI (xN f))) (dP (lX x)) (yR f))))))/\∀(f:Nat×Nat×Sl×Sl×dg×MH×PH),I1 f->aZ (↑f.1:Int) (aG (pG f)) (bF (λJ L=>aH (aM (pG f).a J L) (0<=(↑f.1:Int)) ((↑f.1:Int)<aG (pG f)) (∃(y:Sl),aL (mI (xN f)).1 (yR f) J (bK L f.1 1) (bH y)/\CM y (BB f) (yR f) (λr c=>mH r c) (λr c=>branch (!(List.all (pick r c) kM)) (∃(d:Nat×Nat×Sl×Sl×dg×MH×PH),aA (I1 d) (z d<z f)
 (aA (aY (BB f) (BB d)) (kP f.2.1 d.2.1) (aA (eL 72) (aY (pG f) (pG d)) (aA (bZ (pG f) (pG d)) (fU (bC f.1 1)=bP d.1) (aH (pW (C3 f) (C3 d)) (C6 (xN f) (xN d)) (yR f=yR d) True))))) (CM y (BB f) (yR f) (λj _=>Wf j) (λj u=>IL (mH j u) (gX (mI (xN f)).1) (mI (xN f)).1 f.2.1 j u (λk=>Lm k j u (∃(I2:Nat×Nat×Nat×Sl×Sl×Sl×Sl×dg×MH×PH->Prop)(n:Nat×Nat×Nat×Sl×Sl×Sl×Sl×dg×MH×PH->Nat),(∃(d:Nat×Nat×Nat×Sl×Sl×Sl×Sl×dg×MH×PH),aA (I2 d) (aY (BB f) (C1 d)) (aA (kP f.2.1 (C2 d)) (eL 72) (aA (aY y (qD d).1) (aY (pG f) (qU d)) (aA (bZ (pG f) (qU d)) (bV
 f.1 d.2.1) (aA (sQn=sQs (oK d)) (bA (oK d).len) (aA (bA d.1) (pW (C3 f) (AE d)) (bO (C6 (xN f) (qD d)) (yR f) (Ay d))))))))/\∀(d:Nat×Nat×Nat×Sl×Sl×Sl×Sl×dg×MH×PH),I2 d->aZ (↑d.1:Int) (aG (oK d)) (bF (λO P=>aH (aM (oK d).a O P) (0<=(↑d.1:Int)) ((↑d.1:Int)<aG (oK d)) (∃(A:Sl),aL (mI (qD d)).1 (Ay d) O (bK P d.1 1) (bH A)/\bN (Ay d) 1 (bH (qD d).1::vV A) (λB F=>KY (λQ D=>aA (gK B=gK Q) (Rows F Q D) (aA (E8 D 10) (∀(R:dj),DH R D (R.length<=12)) (fB (λS G=>bY F G (bR G S D.flatten) (vB (AE d) (∃(g:Nat×Nat×Nat×Sl×Sl×Sl×Sl×dg×MH×PH),aA (I2 g) (n g<n
 d) (aA (aY (C1 d) (C1 g)) (kP (C2 d) (C2 g)) (aA (eL 72) (aY (qD d).1 (qD g).1) (aA (aY (qU d) (qU g)) (bZ (qU d) (qU g)) (aA (bV d.2.1 g.2.1) (aY (oK d) (oK g)) (aA (bZ (oK d) (oK g)) (fU (bC d.1 1)=bP g.1) (aH (lN (AE d) S (AE g)) (C6 (qD d) (qD g)) (G=Ay g) True)))))))))))))))) (∃(g:Nat×Nat×Sl×Sl×dg×MH×PH),aA (I1 g) (z g<z f) (aA (aY (C1 d) (BB g)) (kP (C2 d) g.2.1) (aA (eL 72) (aY (qU d) (pG g)) (aA (bZ (qU d) (pG g)) (fU (bC d.2.1 1)=bP g.1) (aH (pW (AE d) (C3 g)) (C6 (qD d) (xN g)) (Ay d=yR g) True))))))) (λk A=>List.Mem (jQ j u,A) k->∃(I2:
 Nat×Nat×Nat×Sl×Sl×Sl×Sl×dg×MH×PH->Prop)(n:Nat×Nat×Nat×Sl×Sl×Sl×Sl×dg×MH×PH->Nat),(∃(d:Nat×Nat×Nat×Sl×Sl×Sl×Sl×dg×MH×PH),aA (I2 d) (aY (BB f) (C1 d)) (aA (kP f.2.1 (C2 d)) (eL 72) (aA (aY y (qD d).1) (aY (pG f) (qU d)) (aA (bZ (pG f) (qU d)) (bV f.1 d.2.1) (aA (aY A (oK d)) (bZ A (oK d)) (aA (bA d.1) (pW (C3 f) (AE d)) (bO (C6 (xN f) (qD d)) (yR f) (Ay d))))))))/\∀(d:Nat×Nat×Nat×Sl×Sl×Sl×Sl×dg×MH×PH),I2 d->aZ (↑d.1:Int) (aG (oK d)) (bF (λO P=>aH (aM (oK d).a O P) (0<=(↑d.1:Int)) ((↑d.1:Int)<aG (oK d)) (∃(V:Sl),aL (mI (qD d)).1 (Ay d) O (bK
 P d.1 1) (bH V)/\bN (Ay d) 1 (bH (qD d).1::vV V) (λB F=>KY (λQ D=>aA (gK B=gK Q) (Rows F Q D) (aA (E8 D 10) (∀(R:dj),DH R D (R.length<=12)) (fB (λS G=>bY F G (bR G S D.flatten) (vB (AE d) (∃(g:Nat×Nat×Nat×Sl×Sl×Sl×Sl×dg×MH×PH),aA (I2 g) (n g<n d) (aA (aY (C1 d) (C1 g)) (kP (C2 d) (C2 g)) (aA (eL 72) (aY (qD d).1 (qD g).1) (aA (aY (qU d) (qU g)) (bZ (qU d) (qU g)) (aA (bV d.2.1 g.2.1) (aY (oK d) (oK g)) (aA (bZ (oK d) (oK g)) (fU (bC d.1 1)=bP g.1) (aH (lN (AE d) S (AE g)) (C6 (qD d) (qD g)) (G=Ay g) True)))))))))))))))) (∃(g:Nat×Nat×Sl×Sl×List
 Sl×MH×PH),aA (I1 g) (z g<z f) (aA (aY (C1 d) (BB g)) (kP (C2 d) g.2.1) (aA (eL 72) (aY (qU d) (pG g)) (aA (bZ (qU d) (pG g)) (fU (bC d.2.1 1)=bP g.1) (aH (pW (AE d) (C3 g)) (C6 (qD d) (xN g)) (Ay d=yR g) True)))))))))))) (bN (yR f) 1 (List.map eS (C3 f)) (λB F=>K (cM B) (mI (xN f)).1 F))))))))
theorem Tk:cz 99 ayJ:=by
 refine gW func99 ?_;rintro c m h K ⟨s,on,rfl,d,e⟩;refine⟨bHZ s m h,rfl,aI,Nt s m h K,bh,?_⟩;exact cvQ d e
theorem alZ:cz 160 Zk:=by
 refine gW func160 ?_;rintro d m h K ⟨s,t,r,c,rfl,e,f,g,j⟩;refine⟨bHX s t m h,rfl,aE Kf aI,Ns s t m h K,bh,?_⟩;exact cuJ e f g j
theorem uG.get1{m0 y kk us key K0}{K:Sl->Prop}(g:uG m0 m y kk us)(d:∀s,Ho kk key s->K s)(e:K ⟨none,0,0⟩=K0):
 ∃(c:fb)(Ok:Value->Prop),zW m y (c.map λp=>(p.1,gP p.2))/\KeyLaw Tryz.prog 9 Ok/\Ok (.string key)/\(∀e,List.Mem e c->Ok e.1)/\((∀e,List.Mem e c->e.1=Value.string key->False)->K0)/\∀t,List.Mem (Value.string key,t) c->K t:=g.get2 (λf=>e▸d _ f) d
theorem a5Z:cz 98 b7J:=by
 refine VN func98 ?_;rintro c9 m h K ⟨v,on,s1,s2,D,f,rfl,ho,L,M,hT,c',d',hK⟩;refine⟨cjX,rfl,aE Tk (aE DN (aE alZ (aE alX aI))),Rc v s1 s2 m h (fV h K),bh,?_⟩;show Rc v s1 s2 m h (fV h K);dsimp only[Rc,push_cast];obtain⟨-,wa,wb,n,c,c0,a8⟩:=c';have n:iM wa D:=n;have c:iM wb f:=c;have d0:=n.len;have c6:=c.len;refine⟨v.on,on,rfl,ho,λsa sb h1 B O a9 y m2 b' a0=>?_⟩;obtain⟨st,ny⟩:=yH (Sub.refl m) b' a0;have b0:m2 y=some (.map #[] 0):=a0.at_;have U:∀{mx kk us},uG m2 mx y kk us->Sub m mx:=λg z o J=>g.old z o (st z o J) (λP=>bo);clear a0 b';have L:=bI.mono L B (λ_ _ h=>bR.mono h B);have M:=bI.mono M B (λ_ _ h=>bR.mono h B);have b1:=bI.slen L;have b2:=bI.slen M;refine⟨λx=>x.1<=f.length/\x.2.1=y/\x.2.2.1=s1/\x.2.2.2.1=sa/\x.2.2.2.2.1=sb/\x.2.2.2.2.2.1=s2/\x.2.2.2.2.2.2.2=h1/\aBQ m2 x.2.2.2.2.2.2.1 h1 y (under rP (fK on) (f.take x.1)),λx=>f.length-x.1,⟨(0,y,s1,sa,sb,s2,m2,h1),⟨Nat.zero_le _,rfl,rfl,rfl,rfl,rfl,rfl,⟨[],_,uG.new b0,λk=>by simpa[under]using dR.nil h1⟩⟩,MT⟩,?_⟩;rintro⟨i,y',t1,ta,tb,t2,mx,hx⟩ ⟨hi,V,J,P,W,e5,e6,⟨kk,uk,g,hg⟩⟩;dsimp only at hi V J P W e5 e6 g hg⊢
 subst V J P W e5 e6;refine aF (λa1=>?_) (λb3=>?_)
 .obtain⟨r,E⟩:=dW b2 a1;obtain⟨b,o,u,ea,rd,Q⟩:=bI.at M E;have A:=ce E;have C:fE r.length (fK on):=by rw[c.wid r A];exact a8
  rw[fR aD];refine⟨b,o,ea,aD,aD,u,.imm rd,u,tb,r,fK on,rfl,Q,a9,C,aC (λd=>?_) (λd=>?_)⟩
  .have hl:(uk (rP (pick r (fK on)))).length<=502633886983:=by
    have h5:=(hg (rP (pick r (fK on)))).len;have h6:(under rP (fK on) (f.take i) (rP (pick r (fK on)))).length<=(f.take i).length:=length_filter_le _ _
    grind
   exact⟨u,tb,r,fK on,rfl,Q,a9,c.row r A,C,hT.sub (U g),g.get1 (λs hs=>g.appV ⟨_,b0⟩ hl (λm' d1 g'=>⟨(i+1,y',t1,ta,tb,t2,m',hx),⟨aD,rfl,rfl,rfl,rfl,rfl,rfl,aBQ.upd g' hg Q (by rw[JS E,if_pos];simpa[kO]using d) (λk2 d2=>by rw[JS E,if_neg,append_nil];grind)⟩,aD,MT⟩) hs) rfl⟩
  .refine⟨(i+1,y',t1,ta,tb,t2,mx,hx),⟨aD,rfl,rfl,rfl,rfl,rfl,rfl,⟨kk,uk,g,λk2=>?_⟩⟩,aD,MT⟩;dsimp only;rw[JS E,if_neg,append_nil]
   .exact hg k2
   .simp[kO,d]
 .rw[ci aD]at hg;have gx:∀{X},PH.le hx X->∀key,dR X (uk key) (under rP (fK on) f key):=λle key=>(hg key).mono le;have sx:=U g;refine⟨λx=>x.1<=D.length/\x.2.1=y'/\x.2.2.1=t1/\x.2.2.2.1=ta/\x.2.2.2.2.2.1=mx/\PH.le hx x.2.2.2.2.2.2/\dR x.2.2.2.2.2.2 x.2.2.2.2.1 ((D.take x.1).flatMap (jS on f)),λx=>D.length-x.1,⟨(0,y',t1,ta,[],mx,hx),⟨Nat.zero_le _,rfl,rfl,rfl,rfl,.refl _,bx (dR.nil hx)⟩,MT⟩,?_⟩;rintro⟨k,y2,a2,F,us,my,hy⟩ ⟨hk,V,J,P,W,le,R⟩;dsimp only at hk V J P W le R⊢
  subst V J P W;refine aF (λa1=>?_) (λb3=>?_)
  .obtain⟨r,E⟩:=dW b1 a1;obtain⟨b,o,u,ea,rd,Q⟩:=bI.at L E;have A:=ce E;have C:fE r.length (fY on):=by rw[n.wid r A];exact c0
   have Q:=bR.mono Q le;have O:=O.mono le;rw[fR aD];refine⟨b,o,ea,aD,aD,u,.imm (rd.mono le),u,F,r,fY on,rfl,Q,O,C,aC (λd=>?_) (λd=>?_)⟩
   .refine⟨(k+1,y2,a2,F,us,my,hy),⟨aD,rfl,rfl,rfl,rfl,le,?_⟩,aD,MT⟩;have:jS on f r=[]:=if_neg (by simpa[kO]using d);dsimp only;rw[G1 _ E,this,append_nil];exact R
   .have d:(pick r (fY on)).all kM=true:=bo
    have c1:under rP (fK on) f (rP (pick r (fY on)))=f.filter λy=>kO (fK on) y&&agree on r y:=by
     refine filter_congr λz X=>?_;congr 1;have h5:=Nd L8 (n.row r A) (c.row z X) C (by rw[c.wid z X];exact a8)
     grind
    have a3:jS on f r=(under rP (fK on) f (rP (pick r (fY on)))).map (r++ ·):=by rw[c1];exact if_pos (by simpa[kO]using d)
    have b4:((D.take k).flatMap (jS on f)).length+(under rP (fK on) f (rP (pick r (fY on)))).length<=8000000:=by
     have h5:((D.take (k+1)).flatMap (jS on f)).length<=(D.take (k+1)).length*f.length:=zO λx _=>B8;rw[G1 _ E,cg,a3,length_map]at h5;have h6:(D.take (k+1)).length*f.length<=D.length*f.length:=Nat.mul_le_mul_right _ bo;omega
    have a4:=gx le (rP (pick r (fY on)));generalize hG:under rP (fK on) f (rP (pick r (fY on)))=G at a3 b4 a4;have c2:=a4.len;refine⟨u,F,r,fY on,rfl,Q,O,n.row r A,C,hT.sub sx,g.get1 (λs hs=>?_) rfl⟩;refine⟨λz=>z.1<=G.length/\z.2.1=k/\z.2.2.1=y2/\z.2.2.2.1=a2/\z.2.2.2.2.1=F/\z.2.2.2.2.2.1=u/\z.2.2.2.2.2.2.1=s/\z.2.2.2.2.2.2.2.2.1=my/\PH.le hy z.2.2.2.2.2.2.2.2.2/\dR z.2.2.2.2.2.2.2.2.2 z.2.2.2.2.2.2.2.1 ((D.take k).flatMap (jS on f)++(G.take z.1).map (r++ ·)),λz=>G.length-z.1,⟨(0,k,y2,a2,F,u,s,us,my,hy),⟨Nat.zero_le _,rfl,rfl,rfl,rfl,rfl,rfl,rfl,.refl _,bo⟩,MT⟩,?_⟩;rintro⟨j,k',y3,Y,Z,ee,gg,b5,mz,X⟩ ⟨S,V,J,P,W,e5,e6,e7,H,a5⟩;dsimp only at S V J P W e5 e6 e7 H a5⊢
    subst V J P W e5 e6 e7;have a':=(hs.row g).1;have c3:=a'.slen;rw[length_map,c2]at c3;refine aF (λc7=>?_) (λb3=>?_)
    .have b6:j<G.length:=by omega
     obtain⟨w,hw,c4⟩:=a4.at_ j _ (cd b6);obtain⟨b8,e8,d3⟩:=a'.rd (h:=X) (i:=j) (e:=[gP w]) (by rw[getElem?_map,hw];rfl);have b7:=a5.len;simp only[cg,length_map,length_take]at b7;rw[fR aD];refine⟨b8,0,e8,aD,aD,w,bo,λc5 h3 T a6=>⟨c5,[r,G[j]],rfl,?_,bi,?_,λsl h4 b9 c8=>⟨bo,bo,(j+1,k',y3,Y,Z,ee,gg,b5++[sl],mz,h4),⟨aD,rfl,rfl,rfl,rfl,rfl,rfl,rfl,H.trans (T.trans b9),?_⟩,aD,?_⟩⟩⟩
     .refine dR.rows (us:=[ee,w]) ?_ a6 bi;refine⟨rfl,λj z S=>?_⟩
      match j,S with
      |0,S=>
       simp at S;subst S;exact⟨ee,rfl,bR.mono Q (H.trans T)⟩
      |1,S=>
       simp at S;subst S;exact⟨w,rfl,bR.mono c4 (H.trans T)⟩
     .intro z I;have I:z∈[r,G[j]]:=I;rcases mem_cons.1 I with rfl|I
      .exact(n.row _ A).len
      .have e7:=mem_singleton.1 I
       have:z∈f:=by
        have h9:z∈under rP (fK on) f (rP (pick r (fY on))):=bo
        grind
       exact(c.row _ this).len
     .have e7:(G.take (j+1)).map (r++ ·)=(G.take j).map (r++ ·)++[r++G[j]]:=by rw[cq,cd b6,cj];rfl
      dsimp only;rw[e7, <-append_assoc];exact(a5.mono (T.trans b9)).snoc bo
     .dsimp only;rw[cj];exact MT
    .have:j=G.length:=by omega
     subst this;rw[fR aD];refine⟨(k'+1,y3,Y,Z,b5,mz,X),⟨aD,rfl,rfl,rfl,rfl,le.trans H,?_⟩,aD,MT⟩;dsimp only;rw[G1 _ E,a3]
     grind
  .rw[ci aD]at R
   refineλs h' a7 a6=>fV.sub sx (B.trans (le.trans a7)) (hK s h' (B.trans (le.trans a7)) ((R.mono a7).rows a6 ?_))
   have h5:(D.flatMap (jS on f)).length<=D.length*f.length:=zO λx _=>B8;omega
def aBX:Vc.Spec:=λc m h K=>∃u b v w r,c=[cS u,cP b]/\m b=some (.cells ⟨xU.enc v⟩ 101 (0,0))/\fJ h w v.where_/\bR h u r/\K (cB (iX r w)) m h
def b8X(t:Bool):Vc.Spec:=λc m h K=>∃u b s l r,c=[cS u,cP b]/\m b=some (.cells #[.slice s.a s.len s.cap] 58 (0,0))/\Rows h s l/\fW l/\bR h u r/\l.length<=8000000/\K (cB (Cg l r==t)) m h
def b2Z:Vc.Spec:=λe m h K=>∃u d f y s r c ks,e=[cS u,cP d,cP f]/\m d=some (.cells #[.map (some y)] 157 (0,0))/\m f=some (.cells #[.slice s.a s.len s.cap] 36 (0,0))/\Ff m y ks/\Ints h s c/\bR h u r/\Wf r/\fE r.length c/\gX m/\∀t:Bool,(t=true↔rP (pick r c)∈ks)->K (cB t) m h
def ccX:Vc.Spec:=λc m h K=>∃i:Nat,∃d e f v od g s rs r x,c=[cI i,cP d,cP e,cP f]/\m d=some (.cells ⟨xU.enc v⟩ 101 (0,0))/\m e=some (.cells #[Sl.val g] 58 (0,0))/\m f=some (.cells #[Sl.val s] 65 (0,0))/\jW h v.order od/\Rows h g rs/\bR h s r/\rs[i]? =some x/\
 K (cB (decide (jT od x r>=0))) m h
def Y8:Vc.Spec:=λc m h K=>∃(n d e f:Nat)(v:xU)(od:di)(g s:Sl)(rs:de)(r:dj)(w:Nat),c=[cI n,.val (.func (.func 109) #[] #[.pointer (some ⟨d,0,none⟩),.pointer (some ⟨e,0,none⟩),.pointer (some ⟨f,0,none⟩)])]/\
 m d=some (.cells ⟨xU.enc v⟩ 101 (0,0))/\m e=some (.cells #[Sl.val g] 58 (0,0))/\m f=some (.cells #[Sl.val s] 65 (0,0))/\jW h v.order od/\Rows h g rs/\bR h s r/\rs.length=n/\xA od rs/\(∀x∈rs,x.length=w)/\r.length=w/\
 K (cI ((rs.countP λy=>decide (jT od y r<0):Nat):Int)) m h
def aAX:Vc.Spec:=λc m h K=>∃u d e v y gr od l f g r w,c=[cS u,cP d,cP e]/\m d=some (.cells #[.map (some y)] 160 (0,0))/\m e=some (.cells ⟨xU.enc v⟩ 101 (0,0))/\zL rP m h y gr od l f g/\iM w l/\fE w gr/\Ints h v.group gr/\jW h v.order od/\bR h u r/\Wf r/\r.length=w/\gX m/\
 K (cB (decide (((l.countP λy=>jL gr r y&&decide (jT od y r<0):Nat):Int)<v.limit))) m h
def Y9:Vc.Spec:=λe m h K=>∃v t f g c d,e=[aT v,cS f,cS g]/\vN h t v/\Rows h f c/\Rows h g d/\gX m/\2<=t.op/\t.op<=10/\OX t.op t.query [c,d]/\c.length<=8000000/\d.length<=8000000/\∀j h',PH.le h h'->Rows h' j (F0 t.op t.query [c,d])->K (cS j) m h'
noncomputable def bVZ:=vO [(100,U0),(108,Y8)] [] [(2,{A:=Nat×Nat×Nat×MH×PH,st:=λ⟨q,e,g,m,h⟩=>bS 21 24 [(2,pv q),(3,pv e),(5,pv g)] [] m h})] [] [200003,200005,0] [] false
noncomputable def f50_ctx:=vO [(95,cJX),(71,c2Z),(98,b7J),(99,ayJ),(100,U0),(102,U2),(106,Zh)] [(7,{A:=Nat×Nat×Sl×dg×MH×PH,st:=λ⟨i,b,s,c,m,h⟩=>bS 140 143 [(3,pv b),(7,.at (.lst 33)),(34,sv s),(35,iv s.len),(36,iv i)] [(33,.lst 65 1 (c.map eS))] m h}),
 (11,{A:=Nat×Nat×Nat×Sl×Sl×Sl×dg×dj×MH×PH,st:=λ⟨k,i,b,s,u,co,c,l,m,h⟩=>bS 140 143 [(3,pv b),(7,.at (.lst 33)),(9,sv u),(10,.at (.lst 43)),(34,sv s),(35,iv s.len),(36,iv i),(45,sv co),(46,iv co.len),(47,iv k)] [(33,.lst 65 1 (c.map eS)),(43,.lst 30 3 (l.map VV.enc))] m h}),
 (24,{A:=Nat×Nat×Nat×Sl×Sl×Sl×MH×PH,st:=λ⟨i,a,b,s,t,r,m,h⟩=>bS 140 143 [(1,sv s),(13,pv a),(14,sv t),(15,pv b),(82,sv r),(83,iv r.len),(84,iv i)] [] m h}),
 (38,{A:=Nat×dg×Nat×MH×PH,st:=λ⟨b,c,r,m,h⟩=>bS 140 143 [(3,pv b),(18,.at (.lst 131)),(118,pv r)] [(131,.lst 65 1 (c.map eS))] m h})] [] [] [200003,200005,200013,200015,200021,400000,410000,0] [] false
def bEZ(u:Sl)(b:Nat)(m:MH)(h:PH)(K:da):=
  ∃(y:PV),aL m h b 2 y.enc/\GP (λv s p r=>aH (Jg y u=Jg v s) (fJ h p v) (bR h s r) (K (yF (iX r p)) m h))
def blJ(u:Sl)(a b:Nat)(m:MH)(h:PH)(K:da):=
  ∃(y:Nat),aL m h a 0 (pH y)/\∃(d:Sl),aA (aL m h b 0 (bH d)) (aL m h a 0 (pH y)) (QN (λs t r c=>aA (iH u d=iH s t) (bR h s r) (aA (Ints h t c) (Wf r) (aA (mH r c) (gX m) (aA (aL m h a 0 (pH y)) (aL m h b 0 (bH d)) (Ll m y (λO=>O (jQ r c)) (λe=>e.1=jQ r c) (K bB m h) (λk f=>List.Mem (jQ r c,f) k->K (yF f) m h)))))))
def blZ(u:Sl)(b:Nat)(m:MH)(h:PH)(K:da):=
  kW m h b 0 (λy=>HJ (λs c l r=>aA (iH y u=iH s c) (Rows h s l) (aA (fW l) (bR h c r) (oU l/\K (CV.val (Value.bool (!(Cg l r)))) m h))))
def blQ(u:Sl)(b:Nat)(m:MH)(h:PH)(K:da):=
  kW m h b 0 (λy=>HJ (λs c l r=>aA (iH y u=iH s c) (Rows h s l) (aA (fW l) (bR h c r) (oU l/\K (yF (Cg l r)) m h))))
def UE(i u d x:Nat)(m:MH)(h:PH)(K:da):=
  kW m h u 18 (λy=>kW m h d 0 (λc=>bF (λb o=>aH (aM c.a b o) (0<=(↑i:Int)) ((↑i:Int)<aG c) (∃(e:Sl),aL m h b (bK o i 1) (bH e)/\∃(f:Sl),aA (aL m h x 0 (bH f)) (aL m h d 0 (bH c)) (gL (λg s=>QJ (λt j=>F7 (λa n=>aA (cM y::aX (cM e) (cM f)=cM g::aX (cM s) (cM t)) (jW h g j) (aA (bR h s a) (bR h t n) (aL m h d 0 (bH c)/\K (yF (decide (jT j a n>=0))) m h))))))))))
abbrev Gb(a:MH)(b:Nat)(c:Value)(d:MH->(Nat×Nat×Nat×MH×PH)->Prop):=GU (λx e=>aA (Ze a b (B7 x e 0)) (0<x.size) (∀(f:MH),iR a f b (xP c 1 x.toList) e->∃(g:Nat×Nat×Nat×MH×PH),d f g))
attribute [push_cast] Gb
def NK(u:Sl)(a b:Nat)(m:MH)(h:PH)(K:da):=
  lG m h (λz d=>iR m d z (bH u) 65) (λz d=>∃(I:Nat×Nat×Nat×MH×PH->Prop),Vw (∃(y:Nat),aL d h a 0 (pH y)/\kW d h z 0 (λA=>∃(B:Sl),aA (aL d h b 17 (bH B)) (aL d h a 0 (pH y)/\QN (λs t r c=>aA (iH A B=iH s t) (bR h s r) (aA (Ints h t c) (Wf r) (aA (mH r c) (gX d) (aA (aL d h a 0 (pH y)) (IL (aL d h z 0 (bH A)) (aL d h b 17 (bH B)) d y r c (λk=>Lm k r c (aH (aL d h a 0 (pH y)) (aL d h z 0 (bH A)) (aL d h b 17 (bH B)) (lG d h (λf j=>iR d j f j5 58) (λf j=>Gb j f rU (λC x=>aA (I x) (dK b x.1) (aA (dK z (j6 x)) (dK f (kZ x)) (bO (cN C (qG x).2) h (gT x)))))))) (λk D=>List.Mem (jQ r c,D) k->aH (aL
 d h a 0 (pH y)) (aL d h z 0 (bH A)) (aL d h b 17 (bH B)) (lG d h (λf j=>iR d j f j5 58) (λf j=>Gb j f (gP D) (λC x=>aA (I x) (dK b x.1) (aA (dK z (j6 x)) (dK f (kZ x)) (bO (cN C (qG x).2) h (gT x)))))))) (aH (aL d h a 0 (pH y)) (aL d h z 0 (bH A)) (aL d h b 17 (bH B)) (lG d h (λf j=>iR d j f j5 58) (λf j=>IL (aL j h z 0 (bH A)) (aL j h b 17 (bH B)) j y r c (λk=>Lm k r c (Gb j f rU (λC x=>aA (I x) (dK b x.1) (aA (dK z (j6 x)) (dK f (kZ x)) (bO (cN C (qG x).2) h (gT x)))))) (λk D=>List.Mem (jQ r c,D) k->Gb j f (gP D) (λC x=>aA (I x) (dK b x.1) (aA (dK z (j6 x)) (dK f (kZ x)) (bO
 (cN C (qG x).2) h (gT x))))))))))))) (aA (aL d h a 0 (pH y)) (aL d h z 0 (bH A)) (aL d h b 17 (bH B)/\lG d h (λf j=>iR d j f j5 58) (λf j=>aL j h a 0 (pH y)/\QN (λs t r c=>aA (iH A B=iH s t) (bR h s r) (aA (Ints h t c) (Wf r) (aA (mH r c) (gX j) (aA (aL j h a 0 (pH y)) (aL j h z 0 (bH A)) (aL j h b 17 (bH B)/\∃(k:fb)(O:Value->Prop),aA (zW j y (List.map (fun(p:Value×Sl)=>(p.1,gP p.2)) k)) (GR O) (aA (O (jQ r c)) (∀(e:Value×Sl),List.Mem e k->O e.1) (Lm k r c (Gb j f rU (λC x=>aA (I x) (dK b x.1) (aA (dK z (j6 x)) (dK f (kZ x)) (bO (cN C (qG x).2) h (gT x)))))/\∀(D:Sl),List.Mem (jQ r c,D) k->Gb j f (gP D)
 (λC x=>aA (I x) (dK b x.1) (aA (dK z (j6 x)) (dK f (kZ x)) (bO (cN C (qG x).2) h (gT x)))))))))))))))) (λx=>I x->kW (oT x) (gT x) (kZ x) 0 (λy=>bF (λn f=>bF (λF G=>∃(v:xU)(o:di),HJ (λg s r E=>∃(w:Nat),aA (aX (fI (aG y)) (DI 109 (I7 x.1 (kZ x) (j6 x)))=aX (fI (↑n:Int)) (DI 109 (I7 f F G))) ((qG x).2.1 f=Option.some (B7 (Array.mk v.enc) 101 0)) (aA ((qG x).2.1 F=Option.some (B7 (Array.mk (bH g)) 58 0)) ((qG x).2.1 G=Option.some (B7 (Array.mk (bH s)) 65 0)) (aA (jW (gT x) v.order o) (Rows (gT x) g r) (aA (bR (gT x) s E) (r.length=n) (aH (xA o r) (∀(H:dj),DH H r (H.length=w)) (E.length=w) (∃(A:Int),aL (oT x) (gT
 x) x.1 19 (bM A)/\K (CV.val (Value.bool (decide ((↑(countP (fun(B:dj)=>decide (jT o B E<0)) r):Int)<A)))) (oT x) (gT x))))))))))))
abbrev IN(a:Sl)(b:Nat)(c:dc)(d:PH)(e:Nat->dc->de->(dj->Bool)->Sl->dj->Prop)(g:da)(i:MH):=∃(x:Sl)(o:Nat)(u:dc)(j:de)(y:dj->Bool),aA (aX (cM a) (DI b (Array.mk c))=aX (cM x) (DI o (Array.mk u))) (Rows d x j) (aA (oU j) (∀(n:Sl)(f:dj),e o u j y n f) (fB (λn f=>bY d f (Rows f n (filter y j)) (g (cM n) i f))))
noncomputable abbrev BD(a:Nat×Nat×Sl×dg×MH×PH):=a.2.2.1
noncomputable abbrev sA(a:Nat×Nat×Sl×dg×MH×PH):=a.2.2.2.2
noncomputable abbrev I8(a:Nat×Nat×Nat×Sl×Sl×Sl×dg×dj×MH×PH):=a.2.2.2.2.1
noncomputable abbrev C4(a:Nat×Nat×Nat×Sl×Sl×Sl×dg×dj×MH×PH):=a.2.2.2.1
noncomputable abbrev BC(a:Nat×Nat×Nat×Sl×Sl×Sl×dg×dj×MH×PH):=a.2.2.2.2.2.1
noncomputable abbrev Jd(a:Nat×Nat×Nat×Sl×Sl×Sl×dg×dj×MH×PH):=a.2.2.2.2.2.2.1
noncomputable abbrev GG(a:Nat×Nat×Nat×Sl×Sl×Sl×dg×dj×MH×PH):=uT a.2.2.2.2.2.2.2.1
noncomputable abbrev wS(a:Nat×Nat×Nat×Sl×Sl×Sl×dg×dj×MH×PH):=a.2.2.2.2.2.2.2.2
abbrev E7(a:de->de->Prop):=∃(x c:de),a x c
noncomputable abbrev GI(a:Nat×Nat×Nat×Sl×Sl×Sl×MH×PH):=a.2.2.2.1
noncomputable abbrev GH(a:Nat×Nat×Nat×Sl×Sl×Sl×MH×PH):=a.2.2.2.2.1
noncomputable abbrev BE(a:Nat×Nat×Nat×Sl×Sl×Sl×MH×PH):=a.2.2.1
noncomputable abbrev lH(a:Nat×Nat×Nat×Sl×Sl×Sl×MH×PH):=a.2.2.2.2.2
noncomputable abbrev tX a:=dP (lH a)
noncomputable abbrev Ey(a:Nat×dg×Nat×MH×PH):=a.2.2.1
attribute [push_cast] IN BD sA I8 C4 BC Jd GG wS E7 GI GH BE lH tX Ey
def ae(v:xU)(J s2:Sl)(m:MH)(h:PH)(K:da):=
  lG m h (λb Z=>iR m Z b v.enc 101) (λb Z=>lG Z h (λU j=>iR Z j U (bH s2) 58) (λU j=>∃(y:Int),aL j h b 0 (bM y)/\cW (y==2) (IN J 96 (lJ (vQp b 0)) h (λg c l p u r=>List.Mem r l->bR h u r->C5 g 4 (EG (cM u) c) j h (λx z f=>aA (x=wZ (p r)) (z=j) (f=h))) K j) (y==3) (aA (cF 0) (cF (aG J)) (aA (tQ J 24) (tR J) (∃(I:Nat×Nat×Sl×dg×MH×PH->Prop)(z:Nat×Nat×Sl×dg×MH×PH->Nat),(∃(x:Nat×Nat×Sl×dg×MH×PH),aA (I x) (dK b x.2.1) (aA (eL 33) (aY J (BD x)) (aA (bZ J (BD x)) (bA x.1) (aA (vA x.2.2.2.1) (cN j (sA x)) (bQ h (sA x).2)))))/\∀(x:Nat×Nat×Sl×dg×MH×PH),I x->aZ (↑x.1:Int) (aG (BD x)) (bF (λA o
 =>aH (aM (BD x).a A o) (0<=(↑x.1:Int)) ((↑x.1:Int)<aG (BD x)) (∃(G:Sl),aL (sA x).1 (sA x).2 A (bK o x.1 1) (bH G)/\∃(B:Sl),aA (aL (sA x).1 (sA x).2 x.2.1 15 (bH B)) (cF (aG B)) (aA (nA (aG B) B) (tQ B 32) (tR B/\kW (sA x).1 (sA x).2 x.2.1 15 (λH=>∃(I1:Nat×Nat×Nat×Sl×Sl×Sl×dg×dj×MH×PH->Prop)(L:Nat×Nat×Nat×Sl×Sl×Sl×dg×dj×MH×PH->Nat),(∃(d:Nat×Nat×Nat×Sl×Sl×Sl×dg×dj×MH×PH),aA (I1 d) (dK x.2.1 d.2.2.1) (aA (eL 33) (aY G (I8 d)) (aA (eL 43) (aY (BD x) (C4 d)) (aA (bZ (BD x) (C4 d)) (bV x.1 d.2.1) (aA (aY H (BC d)) (bZ H (BC d)) (aA (bA d.1) (pW x.2.2.2.1 (Jd d)) (aH
 (bW 30 3 (vK (aG B) AL)=bW 30 3 (GG d)) (cN (sA x).1 (wS d)) ((sA x).2=(wS d).2) True)))))))/\∀(d:Nat×Nat×Nat×Sl×Sl×Sl×dg×dj×MH×PH),I1 d->aZ (↑d.1:Int) (aG (BC d)) (bF (λR X=>aH (aM (BC d).a R X) (0<=(↑d.1:Int)) ((↑d.1:Int)<aG (BC d)) (∃(C:Int),aL (wS d).1 (wS d).2 R (bK X d.1 1) (bM C)/\bF (λb4 o2=>aH (aM (I8 d).a b4 o2) (0<=C) (C<aG (I8 d)) (∃(y5:VV),aH (aL (wS d).1 (wS d).2 b4 (fF o2 C 3) y5.enc) (0<=(↑d.1:Int)) ((↑d.1:Int)<mG (GG d)) (∃(e:dc),aA (pY (GG d) (↑d.1:Int) e) (3<=e.length) (∃(n:Nat×Nat×Nat×Sl×Sl×Sl×dg×dj×MH×PH),aA (I1 n) (L n<L d) (aA (dK
 d.2.2.1 n.2.2.1) (eL 33) (aA (aY (I8 d) (I8 n)) (eL 43) (aA (aY (C4 d) (C4 n)) (bZ (C4 d) (C4 n)) (aA (bV d.2.1 n.2.1) (aY (BC d) (BC n)) (aA (bZ (BC d) (BC n)) (fU (bC d.1 1)=bP n.1) (aA (pW (Jd d) (Jd n)) (bW 30 3 (List.set (GG d) (↑d.1:Int).toNat (aU (eH y5.kind) (eH y5.int) (xP (Value.string y5.text) 3 e)))=bW 30 3 (GG n)) (aA (cN (wS d).1 (wS n)) ((wS d).2=(wS n).2) True)))))))))))))) (bN (wS d).2 3 (GG d) (λs f=>vB (Jd d) (∃(n:Nat×Nat×Sl×dg×MH×PH),aA (I n) (z n<z x) (aA (dK d.2.2.1 n.2.1) (eL 33) (aA (aY (C4 d) (BD n)) (bZ (C4 d) (BD n)) (aA (fU (bC d.2.1 1)=bP n.1) (lN (Jd d) s
 n.2.2.2.1) (bO (cN (wS d).1 (sA n)) f (sA n).2))))))))))))) (bN (sA x).2 1 (List.map eS x.2.2.2.1) (λs f=>∃(D:Sl)(u:dg)(l:de),aA (gK s=gK D) (sV (sA x).1 f D 1 (jY u)) (aA (dR f u l) (E8 l 502633886983) (fB (λP E=>bY f E (Rows E P (sK l)) (K (cM P) (sA x).1 E))))))))) (cW (y==4) (∃(G:xU),aL j h b 0 G.enc/\kW j h U 0 (λB=>∃(M:xU)(o:dh),gL (λs D=>E7 (λl F=>aA (pZ G::aX (cM J) (cM B)=pZ M::aX (cM s) (cM D)) (gS h M.on o) (aA (Rows h s l) (Rows h D F) (aH (gX j) (bxJ o [l,F]) (l.length*F.length<=8000000) (fB (λP f=>bY h f (Rows f P (flatMap (jS o F) l)) (K (cM P) j f))))))))) (y==5) (kW j h b 16
 (λG=>AD (λs o=>yT G s (gS h s o) (∀(a:Sl),fB (λA f=>bY h f (Ints f a (fY o)) (Ints f A (fK o)->lG j f (λR z=>iR j z R j5 36) (λR z=>oG z R (gP a) (λL=>Eg L f (λb4 S=>lG S f (λb5 O=>iR S O b5 (lJ (Value.map Option.none)) 157) (λb5 O=>oG O b5 (Value.map (Option.some b4)) (λm7=>kW m7 f U 0 (λB=>∃(I:Nat×Nat×Nat×Sl×Sl×Sl×MH×PH->Prop)(m8:Nat×Nat×Nat×Sl×Sl×Sl×MH×PH->Nat),(∃(x:Nat×Nat×Nat×Sl×Sl×Sl×MH×PH),aA (I x) (aY J (GI x)) (aA (dK R x.2.1) (aY A (GH x)) (aA (dK b5 (BE x)) (aY B (lH x).1) (aA (bZ B (lH x).1) (bA x.1) (bO (jZ m7 (lH x)) f (tX x))))))/\∀(x:Nat×Nat×Nat×Sl×Sl×Sl×MH×PH),
 I x->aZ (↑x.1:Int) (aG (lH x).1) (bF (λb6 X=>aH (aM (lH x).1.a b6 X) (0<=(↑x.1:Int)) ((↑x.1:Int)<aG (lH x).1) (∃(H:Sl),aL (eT (lH x)) (tX x) b6 (bK X x.1 1) (bH H)/\∃(C:Nat),aA (aL (eT (lH x)) (tX x) (BE x) 0 (pH C)) (aL (eT (lH x)) (tX x) (BE x) 0 (pH C)) (CM H (GH x) (tX x) (λr _=>Wf r) (λr c=>aH (mH r c) (gX (eT (lH x))) (aL (eT (lH x)) (tX x) (BE x) 0 (pH C)) (IM (eT (lH x)) C r c (λk=>∀(T:MH),tG (eT (lH x)) T C->zX T C (k++E0 (jQ r c) Ck)->∃(d:Nat×Nat×Nat×Sl×Sl×Sl×MH×PH),aA (I d) (m8 d<m8 x) (aA (aY (GI x) (GI d)) (dK x.2.1 d.2.1) (aA (aY (GH x) (GH d)) (dK
 (BE x) (BE d)) (aA (aY (lH x).1 (lH d).1) (bZ (lH x).1 (lH d).1) (aH (fU (bC x.1 1)=bP d.1) (jZ T (lH d)) (tX x=tX d) True))))) (λk l M F=>k=l++(jQ r c,M)::F->∀(T:MH),tG (eT (lH x)) T C->zX T C (l++(jQ r c,Ck)::F)->∃(d:Nat×Nat×Nat×Sl×Sl×Sl×MH×PH),aA (I d) (m8 d<m8 x) (aA (aY (GI x) (GI d)) (dK x.2.1 d.2.1) (aA (aY (GH x) (GH d)) (dK (BE x) (BE d)) (aA (aY (lH x).1 (lH d).1) (bZ (lH x).1 (lH d).1) (aH (fU (bC x.1 1)=bP d.1) (jZ T (lH d)) (tX x=tX d) True))))))))))) (IN (GI x) 101 (lE (vQp (BE x) 0) (vQp x.2.1 0)) (tX x) (λg c l p u r=>List.Mem r l->bR (tX x) u r->C5 g 4
 (EG (cM u) c) (eT (lH x)) (tX x) (λd T E=>aA (d=wZ (p r)) (jZ T (lH x)) (E=tX x))) K (eT (lH x))))))))))))))) (cW (y==6) (kW j h U 0 (λG=>bN h 1 (bH J::vV G) (λs f=>KY (λD l=>∃(F:de),aA (gK s=gK D) (Leaves f D [l,F]) (aA (oU l) (oU F) (fB (λP E=>bY f E (Rows E P (l++F)) (∃(Y:Sl)(u:dg)(Q:de),aA (gK P=gK Y) (sV j E Y 1 (jY u)) (aA (dR E u Q) (E8 Q 502633886983) (fB (λs6 V=>bY E V (Rows V s6 (sK Q)) (K (cM s6) j V)))))))))))) (y==7) (IN J 103 (lJ (vQp U 0)) h (λg c l p u r=>List.Mem r l->bR h u r->C5 g 4 (EG (cM u) c) j h (λx z f=>aA (x=wZ (p r)) (z=j) (f=h))) K j) (cW (y==
 8) (IN J 105 (lJ (vQp U 0)) h (λg c l p u r=>List.Mem r l->bR h u r->C5 g 4 (EG (cM u) c) j h (λx z f=>aA (x=wZ (p r)) (z=j) (f=h))) K j) (y==9) (∃(G:xU),aL j h b 0 G.enc/\∃(M:xU),QH (λs g o=>∃(l:de)(w:Nat),aA (jJ (pZ G) J=jJ (pZ M) s) (Ints h M.group g) (aA (jW h M.order o) (Rows h s l) (aH (iM w l) (fE w g) (gX j) (∀(B:Nat),iG (λz f=>∀(k:ef)(g1:ByteArray->de),j B=Option.none->(∀(A:Nat),xH (A=B)->z A=j A)->bY h f (zL rP z f B g o l k g1) (∃(k1:dk),lB (zX z B k1) (λr=>∀(L:MH),rT z f r->tG z L r->oR L B r k1 k1->∃(I:Nat×dg×Nat×MH×PH->Prop)(S:Nat×dg×Nat×MH×
 PH->Nat),(∃(x:Nat×dg×Nat×MH×PH),aA (I x) (dK b x.1) (aA (eL 131) (dK r (Ey x)) (aH (vA x.2.1) (cN L x.2.2.2) (f=jI x.2.2) True)))/\∀(x:Nat×dg×Nat×MH×PH),I x->QK (λA k2 F=>aA (oR (oD x.2.2) A (Ey x) k2 F) (F=[]->bN (jI x.2.2) 1 (List.map eS x.2.1) (λD E=>∃(P:Sl)(u:dg)(Q:de),aA (gK D=gK P) (sV (oD x.2.2) E P 1 (jY u)) (aA (dR E u Q) (E8 Q 502633886983) (fB (λY V=>bY E V (Rows V Y (sK Q)) (K (cM Y) (oD x.2.2) V)))))) (∀(Q:dk)(d:Value×Value)(l3:dk),F=Q++d::l3->∀(O:MH),tG (oD x.2.2) O (Ey x)->Hc O A (Ey x) k2 (Q++l3) d->QK (λR k3 l4=>∃(n:Value×Value),Hc O R
 (Ey x) k3 l4 n/\∃(D:Sl),n.2=gP D/\∃(H:Int),aH (aL O (jI x.2.2) x.1 19 (bM H)) (0<=sB D H) (Da (sB D H) D) (∃(C:List dc),aA (eU 1 C) (sV O (jI x.2.2) (Sl.mk D.a (sB D H).toNat D.cap) 1 C) (aA (uP x.2.1 C.length) (iK (zF x.2.1+C.length)) (∃(W:Nat×dg×Nat×MH×PH),aA (I W) (S W<S x) (aA (dK x.1 W.1) (eL 131) (aA (dK (Ey x) (Ey W)) (bW 65 1 (vU x.2.1 C)=Al W.2.1) (aA (cN O W.2.2.2) (jI x.2.2=jI W.2.2) True))))))))))))))))) (∃(G:xU),aL j h b 0 G.enc/\kW j h U 0 (λB=>∃(M:xU),QH (λs g o=>∃(l:de)(w:Nat),aA (jJ (pZ G) B=jJ (pZ M) s) (Ints h M.group g) (aA (jW h M.order o) (Rows h s l) (aH (iM w l) (fE w
 g) (gX j) (∀(H:Nat),iG (λz f=>∀(k:ef)(g1:ByteArray->de),j H=Option.none->(∀(A:Nat),xH (A=H)->z A=j A)->bY h f (zL rP z f H g o l k g1) (lG z f (λA L=>iR z L A (lJ (Value.map Option.none)) 160) (λA L=>oG L A (Value.map (Option.some H)) (λS=>IN J 107 (lE (vQp A 0) (vQp b 0)) f (λg2 c F p u r=>List.Mem r F->bR f u r->C5 g2 4 (EG (cM u) c) S f (λx O E=>aA (x=wZ (p r)) (O=S) (E=f))) K S)))))))))))))))
theorem a6Q:cz 96 aBX:=by
 refine gW func96 ?_;rintro c m h K ⟨u,b,v,w,r,rfl,d,e,f,g⟩;refine⟨vO [(97,Wi)] [] [] [] [0] [] false,rfl,aE a5J aI,bEZ u b m h K,bh,?_⟩;exact⟨v.where_,.of_m d rfl,v.where_,u,w,r,rfl,e,f,g⟩
theorem atJ:cz 101 b2Z:=by
 refine gW func101 ?_;rintro j m h K ⟨u,e,n,y,s,r,c,ks,rfl,f,g,o,x,z,A,d,B,C⟩;refine⟨vO [(100,U0)] [] [] [] [0] [] false,rfl,aE DN aI,blJ u e n m h K,bh,?_⟩;exact⟨y,.of_m f rfl,s,.of_m g rfl,.of_m f rfl,u,s,r,c,rfl,z,x,A,d,B,.of_m f rfl,.of_m g rfl,o.get C⟩
theorem atX:cz 103 (b8X false):=by
 refine gW func103 ?_;rintro e m h K ⟨u,b,s,l,r,rfl,f,g,c,j,n,d⟩;refine⟨vO [(104,cbQ)] [] [] [] [0] [] false,rfl,aE RN aI,blZ u b m h K,bh,?_⟩;exact⟨s,.of_m f rfl,s,u,l,r,rfl,g,c,j,n,by rw[show(Cg l r==false)= !Cg l r by grind]at d;exact d⟩
theorem atQ:cz 105 (b8X true):=by
 refine gW func105 ?_;rintro e m h K ⟨u,b,s,l,r,rfl,f,g,c,j,n,d⟩;refine⟨vO [(104,cbQ)] [] [] [] [0] [] false,rfl,aE RN aI,blQ u b m h K,bh,?_⟩;exact⟨s,.of_m f rfl,s,u,l,r,rfl,g,c,j,n,by rw[show(Cg l r==true)=Cg l r by grind]at d;exact d⟩
theorem asX:cz 109 ccX:=by
 refine gW func109 ?_;rintro j m h K ⟨i,n,e,o,v,od,g,s,rs,r,x,rfl,y,z,A,B,c,C,f,D⟩;refine⟨vO [(110,Ir)] [] [] [] [0] [] false,rfl,aE RM aI,UE i n e o m h K,bh,?_⟩;dsimp only[UE,push_cast];have J:=bI.slen c;have L:=(bz f);obtain⟨E,F,u,G,H,I⟩:=bI.at c f;have d:aL m h e 0 [gP g]:=.of_m z rfl;exact⟨v.order,.of_m y rfl,g,d,E,F,G,aD,aD,u,.imm H,s,.of_m A rfl,d,v.order,u,s,od,x,r,rfl,B,I,C,d,D⟩
theorem YG:cz 108 Y8:=Zr asX λy m h K⟨n,j,o,u,v,od,g,s,rs,r,z,e,A,B,C,D,c,E,F,d,G,f,H⟩=>⟨n,j,o,u,z,od,rs,r,e,by have:=c.len;omega,F,d,G,f,λi x I=>⟨i,j,o,u,v,od,g,s,rs,r,x,rfl,A,B,C,D,c,E,I,rfl,rfl,rfl⟩,H⟩
structure cHZ(m:MH)(h:PH)(v:xU)(bq be:Nat)(e:Sl)(Gk:de)(c:Nat×Nat×Nat×MH×PH):Prop where
 c1:c.1=bq
 c2:c.2.1=be
 c3:c.2.2.2.2=h
 sub:Sub m c.2.2.2.1
 q_:c.2.2.2.1 bq=some (.cells ⟨xU.enc v⟩ 101 (0,0))
 e_:c.2.2.2.1 be=some (.cells #[Sl.val e] 65 (0,0))
 g_:∃s,c.2.2.2.1 c.2.2.1=some (.cells #[Sl.val s] 58 (0,0))/\Rows h s Gk
theorem asZ:cz 107 aAX:=by
 refine VN func107 ?_;rintro a9 m h K ⟨u,ba,L,v,y,gr,od,l,kk,G,r,w,rfl,W,F,X,J,M,Y,a6,hu,hr,Z,hT,hK⟩;refine⟨bVZ,rfl,aE DN (aE YG aI),NK u ba L m h (fV h K),bh,?_⟩;show NK u ba L m h (fV h K);dsimp only[NK,push_cast];intro S C a7 a';obtain⟨D,n1⟩:=yH (Sub.refl m) a7 a';have H:C S=some (.cells #[Sl.val u] 65 (0,0)):=a'.at_;have a0:fE r.length gr:=bo
 have g1:=X.keep (λo e=>D _ o e) (.refl _)
 have a1:∀{g j},rT C h g->pO C j g (.cells #[rU] 58 (0,0))->∀z o,C z=some o->j z=some o:=fun{g j} f d z o A=>by
  have:z≠g:=λT=>by rw[T,f.m_]at A;cases A
  rw[d.other z this];exact A
 have fin:∀s,Ho kk (rP (pick r gr)) s->∀g j,rT C h g->pO C j g (.cells #[rU] 58 (0,0))->∃(cs:Array Value)(E:TypeId),Ze j g (.cells cs E (0,0))/\0<cs.size/\∀m9,pO j m9 g (.cells (Array.mk (gP s::cs.toList.drop 1)) E (0,0))->
  ∃c:Nat×Nat×Nat×MH×PH,cHZ m h v L S u (G (rP (pick r gr))) c/\sQo L 0=sQo c.1 0/\sQo S 0=sQo c.2.1 0/\sQo g 0=sQo c.2.2.1 0/\m9=c.2.2.2.1/\h=c.2.2.2.2/\True:=λs x g j f d=>by
  refine⟨_,_,⟨d.at_⟩,bi,λm9 a2=>⟨(L,S,g,m9,h),?_,MT⟩⟩
  have O:∀z o,C z=some o->m9 z=some o:=λz o A=>by
   have:z≠g:=λT=>by rw[T,f.m_]at A;cases A
   rw[a2.other z this,d.other z this];exact A
  exact⟨rfl,rfl,rfl,λz o A=>O z o (D z o A),O _ _ (D _ _ F),O _ _ H,s,a2.at_,X.at_ x⟩
 have P:aL C h ba 0 [Value.map (some y)]:=.of_m (D _ _ W) rfl;have U:aL C h S 0 [gP u]:=.of_m H rfl;have V:aL C h L 17 [gP v.group]:=.of_m (D _ _ F) rfl;refine⟨cHZ m h v L S u (G (rP (pick r gr))),⟨y,P,u,U,v.group,V,⟨P,u,v.group,r,gr,rfl,hu,Y,hr,a0,hT.sub D,P,⟨U,V,g1.get2 (λx=>⟨P,U,V,fin _ x⟩) (λs x=>⟨P,U,V,fin _ x⟩)⟩,P,U,V,λg j f d=>?_⟩,P,U,V,λg j f d=>?_⟩,?_⟩
 .have I:=a1 f d;exact⟨.of_m (I _ _ H) rfl,.of_m (I _ _ (D _ _ F)) rfl,(g1.keep (I y) (.refl _)).get2 (λx=>fin _ x g j f d) (λs x=>fin _ x g j f d)⟩
 .have I:=a1 f d;have a3:aL j h ba 0 [Value.map (some y)]:=.of_m (I _ _ (D _ _ W)) rfl;exact⟨a3,u,v.group,r,gr,rfl,hu,Y,hr,a0,(hT.sub D).sub I,a3,.of_m (I _ _ H) rfl,.of_m (I _ _ (D _ _ F)) rfl,(g1.keep (I y) (.refl _)).get2 (λx=>fin _ x g j f d) (λs x=>fin _ x g j f d)⟩
 .rintro⟨c1,c2,g,mz,hz⟩ ⟨e1,A,T,a4,Q,a5,s,R,B⟩;dsimp only at e1 A T a4 Q a5 R⊢
  subst e1 A T;have n:=OE L8 (od:=od) J M hr Z;rw[<-(X.perm _).countP_eq]at n;refine⟨s,.of_m R rfl,s.len,c1,g,c2,v,od,s,u,G (rP (pick r gr)),r,w,rfl,Q,R,a5,a6,B,hu,B.slen.symm,X.sort _,λz a8=>?_,Z,v.limit,.of_m Q rfl,?_⟩
  .have:=(X.perm _).mem_iff.1 (show z∈_ from a8);exact J.wid z (mem_filter.1 this).1
  .rw[n];exact fV.keep a4 (.refl _) hK
end Go.Ps
