/- Own work. -/
import Derived.Test.YtafjlhgalgfiaaaGreatDoorCi
set_option linter.unusedVariables false
set_option linter.unusedSimpArgs false
namespace Go.Ps
open Go Go.Vc Go.Proofs List Tryz
variable{K:bo}{m:MH}{h:PH}{s:jQ}{ps:bn}{ts:cg}{cb:Nat}{sc:bZ}{v:QV}{t:Step}{p:Pred}{l:bn}{i:Nat}{N:Nat}{m':MH}{h':PH}{co:bn}{gr:bn}{od:bz}{ta:Int}{li:Int}{xs:List bt}{sz:Nat}{ks:List bn}{rs:bn}{r:Sl}{a:bn}{b:Nat}
def RD:Vc.Spec:=λc m h K=>∃s t d v od a b,c=[cS s,cS t,cP d]/\m d=some (.cells ⟨wQ.enc v⟩ 101 (0,0))/\jB h v.order od/\bS h s a/\bS h t b/\K (cI (lE od a b)) m h
def aGJ:Vc.Spec:=λd m h K=>∃(s:Sl)(e:Nat)(v:wQ)(od:bz)(w:Nat)(ps:cu),d=[cS s,.val (.func (.func 165) #[] #[.pointer (some ⟨e,0,none⟩)])]/\m e=some (.cells ⟨wQ.enc v⟩ 101 (0,0))/\(∀i,s.a≠some ⟨e,i,none⟩)/\jB h v.order od/\cT m s 65 1 (ps.map λp=>eS p.1)/\(∀p∈ps,bS h p.1 p.2)/\(∀p∈ps,p.2.length=w)/\ps.length<=140737488355328/\
 ∀(c:cu)(m':MH),c.Perm ps->c.Pairwise (λp q=>¬lE od q.2 p.2<0)->cT m' s 65 1 (c.map λp=>eS p.1)->(∀b,(∀i,s.a≠some ⟨b,i,none⟩)->m' b=m b)->K (.tup []) m' h
def YK:Vc.Spec:=λc m h K=>∃v s gr od l w,c=[aT v,cS s]/\Ints h v.group gr/\jB h v.order od/\Rows h s l/\iG w l/\jM w gr/\eA m/\
 ∀y d e f g,m y=none->(∀b,b≠y->d b=m b)->PH.le h e->sB qR d e y gr od l f g->K (.val (.map (some y))) d e
noncomputable def bNQ(s:Sl):Ctx:=qV [(100,Ui),(135,aGJ)] [(3,{A:=Nat×Nat×Nat×MH×PH,st:=λ⟨b,y,i,m,h⟩=>bU 41 43 [(2,pv b),(5,vv (.map (some y))),(12,sv s),(13,iv s.len),(14,iv i)] [] m h}),
 (9,{A:=Nat×Nat×Nat×MH×PH,st:=λ⟨b,y,r,m,h⟩=>bU 41 43 [(2,pv b),(5,vv (.map (some y))),(32,pv r)] [] m h})] [] [] [200002,1058,400000,0] [] false
def bcZ(s t:Sl)(c:Nat)(m:MH)(h:PH)(K:bo):Prop:=
  kS m h c 18 (λy=>Kt y s t h (λo a b=>K (iR (lE o a b)) m h))
abbrev iL(a:ca)(b:bn):Value:=Value.string (qR (pick a b))
abbrev Kq(a:MH)(b:Nat×Nat×Nat×MH×PH)(c:cd)(d:MH->(Nat×Nat×Nat×MH×PH)->Prop):Prop:=∀(x:MH),bG (jY a x (gR b)) (pH x (gR b) c) (∃(e:Nat×Nat×Nat×MH×PH),d x e)
attribute [push_cast] iL Kq
def M5(v:wQ)(s:Sl)(m:MH)(h:PH)(K:bo):Prop:=
  ∀(b:Nat)(J:MH),bG (cF m h b) (bK m J b v.enc 101) (w9 J h (λP Q=>OX (λI x=>aA (I x) (dM b x.1) (aA (kW P (gR x)) (aJ s) (aA (bI s) (bA (gQ x)) (aA (dJ Q (iJ x)) (fC h (iJ x)) True)))) (λI n x=>I x->aY (↑(gQ x):Int) (aH s) (bJ (λD o=>aI (aW s.a D o) (0<=(↑(gQ x):Int)) ((↑(gQ x):Int)<aH s) (∃(y:Sl),aK (lH x) (jS x) D (o+bM (gQ x) 1) (aR y)/\∃(L:Sl),aK (lH x) (jS x) x.1 17 (aR L)/\∃(u:Sl),Av (λt r c=>aA (cJ y L=cJ u t) (bS (jS x) u r) (aA (Ints (jS x) t c) (Ot r) (aA (As r c) (eA (lH x)) (sV (lH x) (gR x) (λO=>O (iL r c)) (iL r c) (∃(e:List bt),Fy (lH x) e y (λB f=>qZ f (gR x)
 (λO=>O (iL r c)) (iL r c) (λk=>Kq f x (gV k (iL r c) (dP B) []) (λg d=>aA (I d) (n d<n x) (aA (zB x d) (kW (gR x) (gR d)) (aA (aJ s) (bI s) (aA (gK (bE (gQ x) 1)=bO (gQ d)) (dJ g (iJ d)) (kZ (dA (iJ x) (iJ d)))))))) (λl C z=>gV l (iL r c) C z) (λl z=>Kq f x (gV l (iL r c) (dP B) z) (λg d=>aA (I d) (n d<n x) (aA (zB x d) (kW (gR x) (gR d)) (aA (aJ s) (bI s) (aA (gK (bE (gQ x) 1)=bO (gQ d)) (dJ g (iJ d)) (kZ (dA (iJ x) (iJ d)))))))))) (λM=>∃(e:List bt),aI (cT (lH x) (dN M) 65 1 e) (kB e) (dO e) (jU (λB f=>fY (lH x) f (dN M) B 65 1 (dL e (aR y))->qZ f (gR
 x) (λO=>O (iL r c)) (iL r c) (λk=>Kq f x (gV k (iL r c) (dP B) []) (λg d=>aA (I d) (n d<n x) (aA (zB x d) (kW (gR x) (gR d)) (aA (aJ s) (bI s) (aA (gK (bE (gQ x) 1)=bO (gQ d)) (dJ g (iJ d)) (kZ (dA (iJ x) (iJ d)))))))) (λl C z=>gV l (iL r c) C z) (λl z=>Kq f x (gV l (iL r c) (dP B) z) (λg d=>aA (I d) (n d<n x) (aA (zB x d) (kW (gR x) (gR d)) (aA (aJ s) (bI s) (aA (gK (bE (gQ x) 1)=bO (gQ d)) (dJ g (iJ d)) (kZ (dA (iJ x) (iJ d)))))))))))))))))) (Kw (lH x) (gR x) (jS x) (λr f=>OX (λI1 e=>aA (I1 e) (zB x e) (aA (kW (gR x) (gR e)) (dM r (gQ e)) (aA (dJ f (iJ e)) (dA
 (iJ x) (iJ e)) True))) (λI1 g e=>Kv (I1 e) (lH e) (gQ e) (K (CV.val (C8 (gR e))) (lH e) (jS e)) (λE=>Qb (λD k l d=>D8 E D (gQ e) k l d/\∃(u:Sl)(F:Nat)(C:wQ)(o:bz)(w:Nat)(p:cu),aA (tO (CV.val d.2) (mJ 165 (BS e.1))=fZ u (mJ 165 (BS F))) (E F=Option.some (gG (Array.mk C.enc) 101 0)) (aA (∀(i:Nat),mK (aW u.a F i)) (jB (jS e) C.order o) (aA (Fx E u p) (∀(j:Sl×ca),List.Mem j p->bS (jS e) j.1 j.2) (aA (∀(j:Sl×ca),List.Mem j p->j.2.length=w) (nT p.length) (∀(j:cu)(G:MH),bG (List.Perm j p) (List.Pairwise (fun(R:Sl×ca)=>fun(q:Sl×ca)=>¬(lE o q.2 R.2<0)) j) (bG (Fx G u j) (∀(H
 :Nat),(∀(i:Nat),mK (aW u.a H i))->G H=E H) (∃(A:Nat×Nat×Nat×MH×PH),aA (I1 A) (g A<g e) (aA (zB e A) (kW (gR e) (gR A)) (aI (dM (gQ e) (gQ A)) (dJ G (iJ A)) (dA (iJ e) (iJ A)) True))))))))))))))))
theorem adX:bm 165 RD:=by
 refine iQ func165 ?_;rintro c m h K ⟨s,t,d,v,od,a,b,rfl,e,f,g,j,n⟩;refine⟨qV [(110,HA)] [] [] [] [0] [] false,rfl,aE Gn aG,bcZ s t d m h K,ax,?_⟩;exact⟨v.order,.of_m e rfl,v.order,s,t,od,a,b,rfl,f,g,j,n⟩
theorem X2:bm 135 aGJ:=by
 refine⟨⟨Tryz.f135,func135,rfl,az⟩,?_⟩;rintro j f m h w K ⟨s,c,v,od,n,ps,rfl,I,u,z,A,B,C,D,E⟩ d
 obtain⟨F,e,rfl⟩:∃v e,f=[v,e]:=by
  have:=(qW d.args).1
  match f,this with
  |[v,e],_=>grind
 have G:F=s.val:=d.args.1;have H:e= .func (.func 165) #[] #[.pointer (some ⟨c,0,none⟩)]:=d.args.2.1;subst G H;refine L0 (R:=λl=>l.length=n) (g:=165) (cb:=[.pointer (some ⟨c,0,none⟩)]) (m2:=λb=>if b=c then m c else none) (cf:=lE od) rfl d ⟨Tryz.f165,func165,rfl,az⟩ A B C D (Ym od) ⟨RD,adX,λx y=>⟨x.s,y.s,c,v,od,x.l,y.l,rfl,bg,z,x.ok,y.ok,rfl,rfl,rfl⟩⟩ (λb o J=>?_) E
 grind
theorem nB.appV{m0:MH}{y:Nat}{kk:cj}{us:ByteArray->bx}{key:ByteArray}{s e:Sl}{Q:MH->Prop}(g:nB m0 m y kk us)(A:∃o,m0 y=some o)(E:(us key).length<=502633886983)
 (B:∀m' f,nB m0 m' y f (Og us key e)->Q m')(n:Dl kk key s):
 ∃xs:List bt,cT m (Sl.mk s.a s.len s.cap) 65 1 xs/\(xs.length+1)*24<=140737488355328/\xs.length<140737488355328/\∀(j:Sl)(d:MH),fY m d (Sl.mk s.a s.len s.cap) j 65 1 (xs++[[dP e]])->
 ∃(c:cd)(Ok:Value->Prop),pH d y c/\KeyLaw Tryz.prog 9 Ok/\Ok (.string key)/\Instr.sameBits 10000 (Value.string key) (Value.string key)=true/\(∀e,List.Mem e c->Ok e.1)/\((∀e,List.Mem e c->e.1=Value.string key->False)->∀m':MH,jY d m' y->pH m' y (c++[(Value.string key,dP j)])->Q m')/\
  ∀(u:cd)(C:Value)(z:cd),c=u++(Value.string key,C)::z->∀m':MH,jY d m' y->pH m' y (u++(Value.string key,dP j)::z)->Q m':=
 ⟨_,(n.row g).1,bf,bf,λ_ _ D=>g.put A n D B⟩
theorem alZ:bm 106 YK:=by
 refine RU func106 ?_;rintro b9 m h K ⟨v,s,gr,od,l,w,rfl,a7,a8,Z,c,H,hT,hK⟩;refine⟨bNQ s,rfl,aE Dd (aE X2 aG),M5 v s m h (cN h K),ax,?_⟩;show M5 v s m h (cN h K);dsimp only[M5,push_cast];intro bq m1 a' B y I J C;obtain⟨s1,nq⟩:=iT (Sub.refl m) a' B;obtain⟨s2,ny⟩:=iT s1 J C;have D:bq≠y:=λe=>by have:=J.m_;rw[<-e,B.at_]at this;cases this
 have L:I bq=some (.cells ⟨wQ.enc v⟩ 101 (0,0)):=by rw[C.other bq D];exact B.at_
 have n:I y=some (.map #[] 0):=C.at_;have a9:=bL.slen Z;have b':=c.len;clear B C a' J s1;have a0:∀{E kk us},nB I E y kk us->Sub m E:=λg z o j=>g.old z o (s2 z o j) (λF=>bg);refine⟨λx=>x.1=bq/\x.2.1=y/\x.2.2.1<=l.length/\x.2.2.2.2=h/\Nn I x.2.2.2.1 h y (mD qR gr (l.take x.2.2.1)),λx=>l.length-x.2.2.1,⟨(bq,y,0,I,h),⟨rfl,rfl,Nat.zero_le _,rfl,⟨[],_,nB.new n,λk=>by simpa[mD]using eX.nil h⟩⟩,MT⟩,?_⟩;rintro⟨M,O,i,E,P⟩ ⟨Q,j,hi,F,⟨kk,uk,g,hg⟩⟩;dsimp only at Q j hi F g hg⊢
 subst Q j F;refine aF (λb0=>?_) (λc'=>?_)
 .obtain⟨r,hr⟩:=eV a9 b0;obtain⟨b,o,u,ea,rd,hv⟩:=bL.at Z hr;have a1:=mem_of_getElem? hr;have rq:aK E P M 17 [dP v.group]:=.of_m (g.old M _ L D) rfl
  have hl:(uk (qR (pick r gr))).length<=502633886983:=by
   have h5:=(hg (qR (pick r gr))).len;have h6:(mD qR gr (l.take i) (qR (pick r gr))).length<=(l.take i).length:=length_filter_le _ _
   grind
  rw[iS aC];have nx:∀(m':MH)(d:cj),nB I m' O d (Og uk (qR (pick r gr)) u)->Nn I m' P O (mD qR gr (l.take (i+1))):=λm' d g'=>Nn.upd g' hg hv (by rw[mD,jF _ hr,if_pos ay];rfl) (λk2 c0=>by rw[mD,jF _ hr,if_neg bg,append_nil];rfl);exact⟨b,o,ea,aC,aC,u,.imm rd,v.group,rq,u,v.group,r,gr,rfl,hv,a7,c.row r a1,by rw[c.wid r a1];exact H,hT.sub (a0 g),g.get2 (λZ=>g.appV ⟨_,n⟩ hl (λm' d g'=>⟨(M,O,i+1,m',P),⟨rfl,rfl,bg,rfl,nx m' d g'⟩,bg,MT⟩) Z) (λs Z=>g.appV ⟨_,n⟩ hl (λm' d g'=>⟨(M,O,i+1,m',P),⟨rfl,rfl,bg,rfl,nx m' d g'⟩,bg,MT⟩) Z)⟩
 .rw[take_of_length_le aC]at hg;have mq:=g.old M _ L D;refine⟨_,g.map_,λr m5 b3 b4 it=>?_⟩;have b5:E r=none:=b3.m_
  have a2:∀{z o},E z=some o->m5 z=E z/\z≠r:=fun{z o} j=>by
   have:z≠r:=λF=>bg
   exact⟨b4.other z this,this⟩
  have R:∀p∈kk,∀x i,p.2.a=some ⟨x,i,none⟩->∃o,E x=some o:=λp hp x i j=>⟨_,((g.row p hp).blk j).choose_spec⟩
  refine⟨λz=>z.1=M/\z.2.1=O/\z.2.2.1=r/\z.2.2.2.2=P/\(∀b o,E b=some o->(∀p∈kk,∀i,p.2.a≠some ⟨b,i,none⟩)->z.2.2.2.1 b=some o)/\∃left,mE z.2.2.2.1 O r (kk.map λp=>(Value.string p.1,dP p.2)) left/\∀p∈kk,bZJ z.2.2.2.1 P od p (mD qR gr l) ((Value.string p.1,dP p.2)∉left),λz=>leftOf z.2.2.2.1 z.2.2.1,⟨(M,O,r,m5,P),⟨rfl,rfl,rfl,rfl,λb o e _=>(a2 e).1.trans e,_,it,λp hp=>?_⟩,MT⟩,?_⟩
  .obtain⟨ps,Q,j,F⟩:=cuX (hg p.1);refine⟨ps,?_,F,by rw[j],λhn=>(hn (mem_map_of_mem (f:=λp:ByteArray×Sl=>(Value.string p.1,dP p.2)) hp)).elim⟩;have e5:(ps.map λq=>eS q.1)=(uk p.1).map eS:=by rw[<-Q,map_map];rfl
   rw[e5];exact cT.keep (g.row p hp) λb i e=>(a2 (R p hp b i e).choose_spec).1
  .rintro⟨c1,c2,c3,mz,hz⟩ ⟨Q,j,F,e4,S,left,G,A⟩;dsimp only at Q j F e4 S G A⊢
   subst Q j F e4;refine⟨c2,_,left,G,λT=>?_,λl1 x l2 b6 m6 b7 a3=>?_⟩
   .subst T;exact N1 s2 ny n g hg (.refl _) b' S G A hK
   .obtain⟨p0,ps,rfl,a4,a5,hv,hw,c4,U⟩:=N0 (m4y:=n) g c b5 S G A b6 b7 a3;have hb:=a4 c1 _ L D;refine⟨c2,_,_,_,a3,p0.2,c1,v,od,w,ps,rfl,hb.1,hb.2,a8,a5,hv,hw,aC,λb8 m7 V W X a6=>?_⟩;obtain⟨k1,⟨Y,k2,k3⟩,k4⟩:=U b8 m7 V W X a6;exact⟨(c1,c2,c3,m7,hz),⟨rfl,rfl,rfl,rfl,k1,Y,k2,k3⟩,k4,rfl,rfl,rfl,rfl,rfl,trivial⟩
def bYZ:Vc.Spec:=λe m h K=>∃v on f g c d,e=[aT v,cS f,cS g]/\jC h v.on on/\Rows h f c/\Rows h g d/\eA m/\b5J on [c,d]/\c.length*d.length<=8000000/\∀j h',PH.le h h'->Rows h' j (c.flatMap (kF on d))->K (cS j) m h'
noncomputable def b8J:Ctx:=qV [(99,Ni),(100,Ui),(160,LS),(161,RH)] [(4,{A:=Nat×Nat×Sl×Sl×Sl×Sl×MH×PH,st:=λ⟨i,y,l,a,b,r,m,h⟩=>bU 76 79 [(1,sv l),(7,sv a),(8,sv b),(9,vv (.map (some y))),(25,sv r),(26,iv r.len),(27,iv i)] [] m h}),
 (12,{A:=Nat×Nat×Sl×Sl×bx×MH×PH,st:=λ⟨i,y,l,a,c,m,h⟩=>bU 76 79 [(7,sv a),(9,vv (.map (some y))),(13,.at (.lst 72)),(46,sv l),(47,iv l.len),(48,iv i)] [(72,.lst 65 1 (c.map eS))] m h}),
 (16,{A:=Nat×Nat×Nat×Sl×Sl×Sl×Sl×bx×MH×PH,st:=λ⟨j,i,y,l,a,e,g,c,m,h⟩=>bU 76 79 [(7,sv a),(9,vv (.map (some y))),(13,.at (.lst 72)),(15,sv e),(46,sv l),(47,iv l.len),(48,iv i),(60,sv g),(61,iv g.len),(62,iv j)] [(72,.lst 65 1 (c.map eS))] m h})] [] [] [1058,400000,0] [] false
abbrev uD(a:Nat×Nat×Sl×Sl×Sl×Sl×MH×PH):Sl:=a.2.2.1
abbrev kO(a:Nat×Nat×Sl×Sl×Sl×Sl×MH×PH):Sl×Sl×MH×PH:=a.2.2.2.2
abbrev tN(a:Nat×Nat×Sl×Sl×Sl×Sl×MH×PH):Nat:=a.2.1
abbrev mT(a:Nat×Nat×Sl×Sl×Sl×Sl×MH×PH):Sl:=(kO a).2.1
abbrev F7(a:Nat×Nat×Sl×Sl×Sl×Sl×MH×PH):Nat->Option Obj:=(iB (kO a)).1
abbrev Kr(a:MH)(b:Nat×Nat×Sl×Sl×Sl×Sl×MH×PH)(c:cd)(d:MH->(Nat×Nat×Sl×Sl×Sl×Sl×MH×PH)->Prop):Prop:=∀(x:MH),bG (jY a x (tN b)) (pH x (tN b) c) (∃(e:Nat×Nat×Sl×Sl×Sl×Sl×MH×PH),d x e)
abbrev H5(a b:Nat×Nat×Sl×Sl×Sl×Sl×MH×PH):Prop:=aZ a.2.2.2.1 b.2.2.2.1
abbrev KO(a b:Nat×Nat×Sl×Sl×Sl×Sl×MH×PH)(c:MH):Prop:=aI (gK (bE a.1 1)=bO b.1) (dJ c (iB (kO b))) (dA (iB (kO a)) (iB (kO b))) True
abbrev gZ(a:Nat×Sl×Sl×bx×MH×PH):Sl×bx×MH×PH:=a.2.2
abbrev A6(a:Nat×Nat×Sl×Sl×bx×MH×PH):Sl:=(gZ a.2).1
abbrev pD(a:Nat×Nat×Sl×Sl×bx×MH×PH):Sl:=a.2.2.1
abbrev tS(a:Sl×bx×MH×PH):bx:=a.2.1
abbrev DQ(a:Nat×Nat×Sl×Sl×bx×MH×PH):bx:=tS (gZ a.2)
abbrev jL(a:Sl×bx×MH×PH):MH×PH:=a.2.2
abbrev sZ(a:Nat×Nat×Sl×Sl×bx×MH×PH):MH×PH:=jL (gZ a.2)
abbrev nK(a:Sl×bx×MH×PH):Nat->Option Obj:=(jL a).1
abbrev lX(a:Sl×bx×MH×PH):Nat->Nat->Option Value:=(jL a).2
abbrev Cs(a:Nat×Nat×Nat×Sl×Sl×Sl×Sl×bx×MH×PH):Sl:=a.2.2.2.2.1
abbrev Ct(a:Nat×Nat×Nat×Sl×Sl×Sl×Sl×bx×MH×PH):Nat:=a.2.2.1
abbrev Cr(a:Nat×Nat×Nat×Sl×Sl×Sl×Sl×bx×MH×PH):Sl:=a.2.2.2.2.2.1
abbrev qA(a:Nat×Nat×Nat×Sl×Sl×Sl×Sl×bx×MH×PH):Sl:=a.2.2.2.1
abbrev qM(a:Nat×Nat×Nat×Sl×Sl×Sl×Sl×bx×MH×PH):Sl×bx×MH×PH:=a.2.2.2.2.2.2
abbrev oG(a:Nat×Nat×Nat×Sl×Sl×Sl×Sl×bx×MH×PH):Sl:=(qM a).1
abbrev sY(a:Nat×Nat×Nat×Sl×Sl×Sl×Sl×bx×MH×PH):MH×PH:=jL (qM a)
abbrev nE(a:Sl×bx×MH×PH):List bt:=gH (tS a)
attribute [push_cast] uD kO tN mT F7 Kr H5 KO gZ A6 pD tS DQ jL sZ nK lX Cs Ct Cr qA qM oG sY nE
def QF(v:wQ)(R M:Sl)(m:MH)(h:PH)(K:bo):Prop:=
  Ku v.on h (λa b P=>w9 m P (λS T=>∃(I:Nat×Nat×Sl×Sl×Sl×Sl×MH×PH->Prop)(z:Nat×Nat×Sl×Sl×Sl×Sl×MH×PH->Nat),(∃(x:Nat×Nat×Sl×Sl×Sl×Sl×MH×PH),aA (I x) (aZ R (uD x)) (aA (aZ a x.2.2.2.1) (aZ b (kO x).1) (aA (kW S (tN x)) (aZ M (mT x)) (aA (bN M (mT x)) (bA x.1) (aA (dJ T (iB (kO x))) (fC P (iB (kO x))) True)))))/\∀(x:Nat×Nat×Sl×Sl×Sl×Sl×MH×PH),I x->aY (↑x.1:Int) (aH (mT x)) (bJ (λD o=>aI (aW (mT x).a D o) (0<=(↑x.1:Int)) ((↑x.1:Int)<aH (mT x)) (∃(y:Sl),aK (F7 x) (iB (kO x)).2 D (o+bM x.1 1) (aR y)/\∃(s:Sl),Av (λt r c=>aA (cJ y (kO x).1=cJ s t) (bS (iB (kO x)).2 s r) (aA (Ints (iB (kO x)).2
 t c) (As r c) (branch (KX r c) (∃(E:Sl),Av (λF g j=>aA (cJ y (kO x).1=cJ E F) (bS (iB (kO x)).2 E g) (aA (Ints (iB (kO x)).2 F j) (Ot g) (aA (As g j) (eA (F7 x)) (sV (F7 x) (tN x) (λO=>O (iL g j)) (iL g j) (∃(e:List bt),Fy (F7 x) e y (λA n=>qZ n (tN x) (λO=>O (iL g j)) (iL g j) (λk=>Kr n x (gV k (iL g j) (dP A) []) (λu d=>aA (I d) (z d<z x) (aA (aZ (uD x) (uD d)) (H5 x d) (aA (aZ (kO x).1 (kO d).1) (kW (tN x) (tN d)) (aA (aZ (mT x) (mT d)) (bN (mT x) (mT d)) (KO x d u)))))) (λl J C=>gV l (iL g j) J C) (λl C=>Kr n x (gV l (iL g j) (dP A) C) (λu d=>
 aA (I d) (z d<z x) (aA (aZ (uD x) (uD d)) (H5 x d) (aA (aZ (kO x).1 (kO d).1) (kW (tN x) (tN d)) (aA (aZ (mT x) (mT d)) (bN (mT x) (mT d)) (KO x d u)))))))) (λB=>∃(e:List bt),aI (cT (F7 x) (dN B) 65 1 e) (kB e) (dO e) (jU (λA n=>fY (F7 x) n (dN B) A 65 1 (dL e (aR y))->qZ n (tN x) (λO=>O (iL g j)) (iL g j) (λk=>Kr n x (gV k (iL g j) (dP A) []) (λu d=>aA (I d) (z d<z x) (aA (aZ (uD x) (uD d)) (H5 x d) (aA (aZ (kO x).1 (kO d).1) (kW (tN x) (tN d)) (aA (aZ (mT x) (mT d)) (bN (mT x) (mT d)) (KO x d u)))))) (λl J C=>gV l (iL g j) J C) (λl C=>Kr
 n x (gV l (iL g j) (dP A) C) (λu d=>aA (I d) (z d<z x) (aA (aZ (uD x) (uD d)) (H5 x d) (aA (aZ (kO x).1 (kO d).1) (kW (tN x) (tN d)) (aA (aZ (mT x) (mT d)) (bN (mT x) (mT d)) (KO x d u)))))))))))))) (∃(e:Nat×Nat×Sl×Sl×Sl×Sl×MH×PH),aA (I e) (z e<z x) (aA (aZ (uD x) (uD e)) (H5 x e) (aA (aZ (kO x).1 (kO e).1) (kW (tN x) (tN e)) (aA (aZ (mT x) (mT e)) (bN (mT x) (mT e)) (aI (gK (bE x.1 1)=bO e.1) (fJ (iB (kO x)) (iB (kO e))) (dA (iB (kO x)) (iB (kO e))) True))))))))))) (∃(I1:Nat×Nat×Sl×Sl×bx×MH×PH->Prop)(n:Nat×Nat×Sl×Sl×bx×MH×PH->Nat),(∃(e:Nat×Nat×Sl×Sl×bx×MH×
 PH),aA (I1 e) (aZ x.2.2.2.1 (A6 e)) (aA (kW (tN x) e.2.1) (eL 72) (aA (aZ (uD x) (pD e)) (bN (uD x) (pD e)) (aA (bA e.1) (AR (DQ e)) (aA (fJ (iB (kO x)) (sZ e)) (dA (iB (kO x)) (sZ e)) True)))))/\∀(e:Nat×Nat×Sl×Sl×bx×MH×PH),I1 e->aY (↑e.1:Int) (aH (pD e)) (bJ (λD o=>aI (aW (pD e).a D o) (0<=(↑e.1:Int)) ((↑e.1:Int)<aH (pD e)) (∃(y:Sl),aK (nK (gZ e.2)) (lX (gZ e.2)) D (o+bM e.1 1) (aR y)/\∃(s:Sl),Av (λt r c=>aA (cJ y (A6 e)=cJ s t) (bS (lX (gZ e.2)) s r) (aA (Ints (lX (gZ e.2)) t c) (As r c) (nX (KX r c) (∃(d:Nat×Nat×Sl×Sl×bx×MH×PH),aA (I1 d) (n d<n e) (aA (aZ
 (A6 e) (A6 d)) (kW e.2.1 d.2.1) (aA (eL 72) (aZ (pD e) (pD d)) (aA (bN (pD e) (pD d)) (gK (bE e.1 1)=bO d.1) (aI (rG (DQ e) (DQ d)) (fJ (sZ e) (sZ d)) (dA (sZ e) (sZ d)) True))))) (∃(E:Sl),Av (λF g j=>aA (cJ y (A6 e)=cJ E F) (bS (lX (gZ e.2)) E g) (aA (Ints (lX (gZ e.2)) F j) (Ot g) (aA (As g j) (eA (nK (gZ e.2))) (sV (nK (gZ e.2)) e.2.1 (λO=>O (iL g j)) (iL g j) (∃(I2:Nat×Nat×Nat×Sl×Sl×Sl×Sl×bx×MH×PH->Prop)(u:Nat×Nat×Nat×Sl×Sl×Sl×Sl×bx×MH×PH->Nat),(∃(d:Nat×Nat×Nat×Sl×Sl×Sl×Sl×bx×MH×PH),aA (I2 d) (aZ (A6 e) (Cs d)) (aA (kW e.2.1 (Ct d)) (eL 72)
 (aA (aZ y (Cr d)) (aZ (pD e) (qA d)) (aA (bN (pD e) (qA d)) (cD e.1 d.2.1) (aA (sQn=sQs (oG d)) (bA (oG d).len) (aA (bA d.1) (rG (DQ e) (tS (qM d))) (aA (fJ (sZ e) (sY d)) (dA (sZ e) (sY d)) True)))))))/\∀(d:Nat×Nat×Nat×Sl×Sl×Sl×Sl×bx×MH×PH),I2 d->aY (↑d.1:Int) (aH (oG d)) (bJ (λG H=>aI (aW (oG d).a G H) (0<=(↑d.1:Int)) ((↑d.1:Int)<aH (oG d)) (∃(B:Sl),aK (nK (qM d)) (lX (qM d)) G (H+bM d.1 1) (aR B)/\Ks (lX (qM d)) (Cr d) B (λA L=>aA (kB (nE (qM d))) (dO (nE (qM d))) (∃(f:Nat×Nat×Nat×Sl×Sl×Sl×Sl×bx×MH×PH),aA (I2 f) (u f<u d) (aA (aZ
 (Cs d) (Cs f)) (kW (Ct d) (Ct f)) (aA (eL 72) (aZ (Cr d) (Cr f)) (aA (aZ (qA d) (qA f)) (bN (qA d) (qA f)) (aA (cD d.2.1 f.2.1) (aZ (oG d) (oG f)) (aA (bN (oG d) (oG f)) (gK (bE d.1 1)=bO f.1) (aI (xA (nE (qM d)) A (tS (qM f))) (fJ (sY d) (sY f)) (fC L (sY f)) True))))))))))) (∃(f:Nat×Nat×Sl×Sl×bx×MH×PH),aA (I1 f) (n f<n e) (aA (aZ (Cs d) (A6 f)) (kW (Ct d) f.2.1) (aA (eL 72) (aZ (qA d) (pD f)) (aA (bN (qA d) (pD f)) (gK (bE d.2.1 1)=bO f.1) (aI (rG (tS (qM d)) (DQ f)) (fJ (sY d) (sZ f)) (dA (sY d) (sZ f)) True)))))) (λB=>∃(I2:Nat×Nat×Nat
 ×Sl×Sl×Sl×Sl×bx×MH×PH->Prop)(u:Nat×Nat×Nat×Sl×Sl×Sl×Sl×bx×MH×PH->Nat),(∃(d:Nat×Nat×Nat×Sl×Sl×Sl×Sl×bx×MH×PH),aA (I2 d) (aZ (A6 e) (Cs d)) (aA (kW e.2.1 (Ct d)) (eL 72) (aA (aZ y (Cr d)) (aZ (pD e) (qA d)) (aA (bN (pD e) (qA d)) (cD e.1 d.2.1) (aA (aZ B (oG d)) (bN B (oG d)) (aA (bA d.1) (rG (DQ e) (tS (qM d))) (aA (fJ (sZ e) (sY d)) (dA (sZ e) (sY d)) True)))))))/\∀(d:Nat×Nat×Nat×Sl×Sl×Sl×Sl×bx×MH×PH),I2 d->aY (↑d.1:Int) (aH (oG d)) (bJ (λG H=>aI (aW (oG d).a G H) (0<=(↑d.1:Int)) ((↑d.1:Int)<aH (oG d)) (∃(Q:Sl),aK (nK (qM d)) (lX (qM d))
 G (H+bM d.1 1) (aR Q)/\Ks (lX (qM d)) (Cr d) Q (λA L=>aA (kB (nE (qM d))) (dO (nE (qM d))) (∃(f:Nat×Nat×Nat×Sl×Sl×Sl×Sl×bx×MH×PH),aA (I2 f) (u f<u d) (aA (aZ (Cs d) (Cs f)) (kW (Ct d) (Ct f)) (aA (eL 72) (aZ (Cr d) (Cr f)) (aA (aZ (qA d) (qA f)) (bN (qA d) (qA f)) (aA (cD d.2.1 f.2.1) (aZ (oG d) (oG f)) (aA (bN (oG d) (oG f)) (gK (bE d.1 1)=bO f.1) (aI (xA (nE (qM d)) A (tS (qM f))) (fJ (sY d) (sY f)) (fC L (sY f)) True))))))))))) (∃(f:Nat×Nat×Sl×Sl×bx×MH×PH),aA (I1 f) (n f<n e) (aA (aZ (Cs d) (A6 f)) (kW (Ct d) f.2.1) (aA (eL 72)
 (aZ (qA d) (pD f)) (aA (bN (qA d) (pD f)) (gK (bE d.2.1 1)=bO f.1) (aI (rG (tS (qM d)) (DQ f)) (fJ (sY d) (sZ f)) (dA (sY d) (sZ f)) True))))))))))))))))) (tZ (lX (gZ e.2)) (nE (gZ e.2)) K (nK (gZ e.2))))))
theorem SF:bm 99 Ni:=by
 refine iQ func99 ?_;rintro c m h K ⟨s,on,rfl,d,e⟩;refine⟨XR s m h,rfl,aG,It s m h K,ax,?_⟩;exact aDZ d e
theorem aeX:bm 160 LS:=by
 refine iQ func160 ?_;rintro d m h K ⟨s,t,r,c,rfl,e,f,g,j⟩;refine⟨XQ s t m h,rfl,aE Gl aG,Is s t m h K,ax,?_⟩;exact aDX e f g j
theorem nB.get1{m0:MH}{y:Nat}{kk:cj}{us:ByteArray->bx}{key:ByteArray}{K0:Prop}{K:Sl->Prop}(g:nB m0 m y kk us)(d:∀s,Dl kk key s->K s)(e:K ⟨none,0,0⟩=K0):
 ∃(c:List (Value×Sl))(Ok:Value->Prop),uP m y (c.map λp=>(p.1,dP p.2))/\KeyLaw Tryz.prog 9 Ok/\Ok (.string key)/\(∀e,List.Mem e c->Ok e.1)/\((∀e,List.Mem e c->e.1=Value.string key->False)->K0)/\∀t,List.Mem (Value.string key,t) c->K t:=g.get2 (λf=>e▸d _ f) d
theorem aXQ:bm 98 bYZ:=by
 refine RU func98 ?_;rintro c9 m h K ⟨v,on,s1,s2,D,f,rfl,ho,L,M,hT,c',d',hK⟩;refine⟨b8J,rfl,aE SF (aE Dd (aE aeX (aE Q4 aG))),QF v s1 s2 m h (cN h K),ax,?_⟩;show QF v s1 s2 m h (cN h K);dsimp only[QF,push_cast];obtain⟨-,wa,wb,n,c,c0,a8⟩:=c';have n:iG wa D:=n;have c:iG wb f:=c;have d0:=n.len;have c6:=c.len;refine⟨v.on,on,rfl,ho,λsa sb h1 B O a9 y m2 b' a0=>?_⟩;obtain⟨st,ny⟩:=iT (Sub.refl m) b' a0;have b0:m2 y=some (.map #[] 0):=a0.at_;have U:∀{mx kk us},nB m2 mx y kk us->Sub m mx:=λg z o J=>g.old z o (st z o J) (λP=>bg);clear a0 b';have L:=bL.mono L B (λ_ _ h=>bS.mono h B);have M:=bL.mono M B (λ_ _ h=>bS.mono h B);have b1:=bL.slen L;have b2:=bL.slen M;refine⟨λx=>x.1<=f.length/\x.2.1=y/\x.2.2.1=s1/\x.2.2.2.1=sa/\x.2.2.2.2.1=sb/\x.2.2.2.2.2.1=s2/\x.2.2.2.2.2.2.2=h1/\Nn m2 x.2.2.2.2.2.2.1 h1 y (under qR (fM on) (f.take x.1)),λx=>f.length-x.1,⟨(0,y,s1,sa,sb,s2,m2,h1),⟨Nat.zero_le _,rfl,rfl,rfl,rfl,rfl,rfl,⟨[],_,nB.new b0,λk=>by simpa[under]using eX.nil h1⟩⟩,MT⟩,?_⟩;rintro⟨i,y',t1,ta,tb,t2,mx,hx⟩ ⟨hi,V,J,P,W,e5,e6,⟨kk,uk,g,hg⟩⟩;dsimp only at hi V J P W e5 e6 g hg⊢
 subst V J P W e5 e6;refine aF (λa1=>?_) (λb3=>?_)
 .obtain⟨r,E⟩:=eV b2 a1;obtain⟨b,o,u,ea,rd,Q⟩:=bL.at M E;have A:=mem_of_getElem? E;have C:jM r.length (fM on):=by rw[c.wid r A];exact a8
  rw[iS aC];refine⟨b,o,ea,aC,aC,u,.imm rd,u,tb,r,fM on,rfl,Q,a9,C,aD (λd=>?_) (λd=>?_)⟩
  .have hl:(uk (qR (pick r (fM on)))).length<=502633886983:=by
    have h5:=(hg (qR (pick r (fM on)))).len;have h6:(under qR (fM on) (f.take i) (qR (pick r (fM on)))).length<=(f.take i).length:=length_filter_le _ _
    grind
   exact⟨u,tb,r,fM on,rfl,Q,a9,c.row r A,C,hT.sub (U g),g.get1 (λs hs=>g.appV ⟨_,b0⟩ hl (λm' d1 g'=>⟨(i+1,y',t1,ta,tb,t2,m',hx),⟨aC,rfl,rfl,rfl,rfl,rfl,rfl,Nn.upd g' hg Q (by rw[Ap E,if_pos];simpa[wD]using d) (λk2 d2=>by rw[Ap E,if_neg,append_nil];grind)⟩,aC,MT⟩) hs) rfl⟩
  .refine⟨(i+1,y',t1,ta,tb,t2,mx,hx),⟨aC,rfl,rfl,rfl,rfl,rfl,rfl,⟨kk,uk,g,λk2=>?_⟩⟩,aC,MT⟩;dsimp only;rw[Ap E,if_neg,append_nil]
   .exact hg k2
   .simp[wD,d]
 .rw[take_of_length_le aC]at hg;have gx:∀{X},PH.le hx X->∀key,eX X (uk key) (under qR (fM on) f key):=λle key=>(hg key).mono le;have sx:=U g;refine⟨λx=>x.1<=D.length/\x.2.1=y'/\x.2.2.1=t1/\x.2.2.2.1=ta/\x.2.2.2.2.2.1=mx/\PH.le hx x.2.2.2.2.2.2/\eX x.2.2.2.2.2.2 x.2.2.2.2.1 ((D.take x.1).flatMap (kF on f)),λx=>D.length-x.1,⟨(0,y',t1,ta,[],mx,hx),⟨Nat.zero_le _,rfl,rfl,rfl,rfl,.refl _,bk (eX.nil hx)⟩,MT⟩,?_⟩;rintro⟨k,y2,a2,F,us,my,hy⟩ ⟨hk,V,J,P,W,le,R⟩;dsimp only at hk V J P W le R⊢
  subst V J P W;refine aF (λa1=>?_) (λb3=>?_)
  .obtain⟨r,E⟩:=eV b1 a1;obtain⟨b,o,u,ea,rd,Q⟩:=bL.at L E;have A:=mem_of_getElem? E;have C:jM r.length (kE on):=by rw[n.wid r A];exact c0
   have Q:=bS.mono Q le;have O:=O.mono le;rw[iS aC];refine⟨b,o,ea,aC,aC,u,.imm (rd.mono le),u,F,r,kE on,rfl,Q,O,C,aD (λd=>?_) (λd=>?_)⟩
   .refine⟨(k+1,y2,a2,F,us,my,hy),⟨aC,rfl,rfl,rfl,rfl,le,?_⟩,aC,MT⟩;have:kF on f r=[]:=if_neg (by simpa[wD]using d);dsimp only;rw[tD _ E,this,append_nil];exact R
   .have d:(pick r (kE on)).all pI=true:=bg
    have c1:under qR (fM on) f (qR (pick r (kE on)))=f.filter λy=>wD (fM on) y&&agree on r y:=by
     refine filter_congr λz X=>?_;congr 1;have h5:=CN Lf (n.row r A) (c.row z X) C (by rw[c.wid z X];exact a8)
     grind
    have a3:kF on f r=(under qR (fM on) f (qR (pick r (kE on)))).map (r++ ·):=by rw[c1];exact if_pos (by simpa[wD]using d)
    have b4:((D.take k).flatMap (kF on f)).length+(under qR (fM on) f (qR (pick r (kE on)))).length<=8000000:=by
     have h5:((D.take (k+1)).flatMap (kF on f)).length<=(D.take (k+1)).length*f.length:=uY λx _=>yC;rw[tD _ E,length_append,a3,length_map]at h5;have h6:(D.take (k+1)).length*f.length<=D.length*f.length:=Nat.mul_le_mul_right _ bg;omega
    have a4:=gx le (qR (pick r (kE on)));generalize hG:under qR (fM on) f (qR (pick r (kE on)))=G at a3 b4 a4;have c2:=a4.len;refine⟨u,F,r,kE on,rfl,Q,O,n.row r A,C,hT.sub sx,g.get1 (λs hs=>?_) rfl⟩;refine⟨λz=>z.1<=G.length/\z.2.1=k/\z.2.2.1=y2/\z.2.2.2.1=a2/\z.2.2.2.2.1=F/\z.2.2.2.2.2.1=u/\z.2.2.2.2.2.2.1=s/\z.2.2.2.2.2.2.2.2.1=my/\PH.le hy z.2.2.2.2.2.2.2.2.2/\eX z.2.2.2.2.2.2.2.2.2 z.2.2.2.2.2.2.2.1 ((D.take k).flatMap (kF on f)++(G.take z.1).map (r++ ·)),λz=>G.length-z.1,⟨(0,k,y2,a2,F,u,s,us,my,hy),⟨Nat.zero_le _,rfl,rfl,rfl,rfl,rfl,rfl,rfl,.refl _,bg⟩,MT⟩,?_⟩;rintro⟨j,k',y3,Y,Z,ee,gg,b5,mz,X⟩ ⟨S,V,J,P,W,e5,e6,e7,H,a5⟩;dsimp only at S V J P W e5 e6 e7 H a5⊢
    subst V J P W e5 e6 e7;have a':=(hs.row g).1;have c3:=a'.slen;rw[length_map,c2]at c3;refine aF (λc7=>?_) (λb3=>?_)
    .have b6:j<G.length:=by omega
     obtain⟨w,hw,c4⟩:=a4.at_ j _ (getElem?_eq_getElem b6);obtain⟨b8,e8,d3⟩:=a'.rd (h:=X) (i:=j) (e:=[dP w]) (by rw[getElem?_map,hw];rfl);have b7:=a5.len;simp only[length_append,length_map,length_take]at b7;rw[iS aC];refine⟨b8,0,e8,aC,aC,w,bg,λc5 h3 T a6=>⟨c5,[r,G[j]],rfl,?_,ay,?_,λsl h4 b9 c8=>⟨bg,bg,(j+1,k',y3,Y,Z,ee,gg,b5++[sl],mz,h4),⟨aC,rfl,rfl,rfl,rfl,rfl,rfl,rfl,H.trans (T.trans b9),?_⟩,aC,?_⟩⟩⟩
     .refine eX.rows (us:=[ee,w]) ?_ a6 ay;refine⟨rfl,λj z S=>?_⟩
      match j,S with
      |0,S=>
       simp at S;subst S;exact⟨ee,rfl,bS.mono Q (H.trans T)⟩
      |1,S=>
       simp at S;subst S;exact⟨w,rfl,bS.mono c4 (H.trans T)⟩
     .intro z I;have I:z∈[r,G[j]]:=I;rcases mem_cons.1 I with rfl|I
      .exact(n.row _ A).len
      .have e7:=mem_singleton.1 I
       have:z∈f:=by
        have h9:z∈under qR (fM on) f (qR (pick r (kE on))):=bg
        grind
       exact(c.row _ this).len
     .have e7:(G.take (j+1)).map (r++ ·)=(G.take j).map (r++ ·)++[r++G[j]]:=by rw[take_add_one,getElem?_eq_getElem b6,map_append];rfl
      dsimp only;rw[e7, <-append_assoc];exact(a5.mono (T.trans b9)).snoc bg
     .dsimp only;rw[map_append];exact MT
    .have:j=G.length:=by omega
     subst this;rw[iS aC];refine⟨(k'+1,y3,Y,Z,b5,mz,X),⟨aC,rfl,rfl,rfl,rfl,le.trans H,?_⟩,aC,MT⟩;dsimp only;rw[tD _ E,a3]
     grind
  .rw[take_of_length_le aC]at R
   refineλs h' a7 a6=>cN.sub sx (B.trans (le.trans a7)) (hK s h' (B.trans (le.trans a7)) ((R.mono a7).rows a6 ?_))
   have h5:(D.flatMap (kF on f)).length<=D.length*f.length:=uY λx _=>yC;omega
def asZ:Vc.Spec:=λc m h K=>∃u b v w r,c=[cS u,cP b]/\m b=some (.cells ⟨wQ.enc v⟩ 101 (0,0))/\fH h w v.where_/\bS h u r/\K (cB (nP r w)) m h
def bZX(t:Bool):Vc.Spec:=λc m h K=>∃u b s l r,c=[cS u,cP b]/\m b=some (.cells #[.slice s.a s.len s.cap] 58 (0,0))/\Rows h s l/\lN l/\bS h u r/\l.length<=8000000/\K (cB (GO l r==t)) m h
def bTJ:Vc.Spec:=λe m h K=>∃u d f y s r c ks,e=[cS u,cP d,cP f]/\m d=some (.cells #[.map (some y)] 157 (0,0))/\m f=some (.cells #[.slice s.a s.len s.cap] 36 (0,0))/\rY m y ks/\Ints h s c/\bS h u r/\Ot r/\jM r.length c/\eA m/\∀t:Bool,(t=true↔qR (pick r c)∈ks)->K (cB t) m h
def b2X:Vc.Spec:=λc m h K=>∃i:Nat,∃d e f v od g s rs r x,c=[cI i,cP d,cP e,cP f]/\m d=some (.cells ⟨wQ.enc v⟩ 101 (0,0))/\m e=some (.cells #[Sl.val g] 58 (0,0))/\m f=some (.cells #[Sl.val s] 65 (0,0))/\jB h v.order od/\Rows h g rs/\bS h s r/\rs[i]? =some x/\
 K (cB (decide (lE od x r>=0))) m h
def YD:Vc.Spec:=λc m h K=>∃(n d e f:Nat)(v:wQ)(od:bz)(g s:Sl)(rs:br)(r:ca)(w:Nat),c=[cI n,.val (.func (.func 109) #[] #[.pointer (some ⟨d,0,none⟩),.pointer (some ⟨e,0,none⟩),.pointer (some ⟨f,0,none⟩)])]/\
 m d=some (.cells ⟨wQ.enc v⟩ 101 (0,0))/\m e=some (.cells #[Sl.val g] 58 (0,0))/\m f=some (.cells #[Sl.val s] 65 (0,0))/\jB h v.order od/\Rows h g rs/\bS h s r/\rs.length=n/\tF od rs/\(∀x∈rs,x.length=w)/\r.length=w/\
 K (cI ((rs.countP λy=>decide (lE od y r<0):Nat):Int)) m h
def arZ:Vc.Spec:=λc m h K=>∃u d e v y gr od l f g r w,c=[cS u,cP d,cP e]/\m d=some (.cells #[.map (some y)] 160 (0,0))/\m e=some (.cells ⟨wQ.enc v⟩ 101 (0,0))/\sB qR m h y gr od l f g/\iG w l/\jM w gr/\Ints h v.group gr/\jB h v.order od/\bS h u r/\Ot r/\r.length=w/\eA m/\
 K (cB (decide (((l.countP λy=>JX gr r y&&decide (lE od y r<0):Nat):Int)<v.limit))) m h
def YE:Vc.Spec:=λe m h K=>∃v t f g c d,e=[aT v,cS f,cS g]/\uO h t v/\Rows h f c/\Rows h g d/\eA m/\2<=t.op/\t.op<=10/\P5 t.op t.query [c,d]/\c.length<=8000000/\d.length<=8000000/\∀j h',PH.le h h'->Rows h' j (GH t.op t.query [c,d])->K (cS j) m h'
noncomputable def bMJ:Ctx:=qV [(100,Ui),(108,YD)] [] [(2,{A:=Nat×Nat×Nat×MH×PH,st:=λ⟨q,e,g,m,h⟩=>bU 21 24 [(2,pv q),(3,pv e),(5,pv g)] [] m h})] [] [200003,200005,0] [] false
noncomputable def f50_ctx:Ctx:=qV [(95,czZ),(71,bjQ),(98,bYZ),(99,Ni),(100,Ui),(102,Ul),(106,YK)] [(7,{A:=Nat×Nat×Sl×bx×MH×PH,st:=λ⟨i,b,s,c,m,h⟩=>bU 140 143 [(3,pv b),(7,.at (.lst 33)),(34,sv s),(35,iv s.len),(36,iv i)] [(33,.lst 65 1 (c.map eS))] m h}),
 (11,{A:=Nat×Nat×Nat×Sl×Sl×Sl×bx×ca×MH×PH,st:=λ⟨k,i,b,s,u,co,c,l,m,h⟩=>bU 140 143 [(3,pv b),(7,.at (.lst 33)),(9,sv u),(10,.at (.lst 43)),(34,sv s),(35,iv s.len),(36,iv i),(45,sv co),(46,iv co.len),(47,iv k)] [(33,.lst 65 1 (c.map eS)),(43,.lst 30 3 (l.map VV.enc))] m h}),
 (24,{A:=Nat×Nat×Nat×Sl×Sl×Sl×MH×PH,st:=λ⟨i,a,b,s,t,r,m,h⟩=>bU 140 143 [(1,sv s),(13,pv a),(14,sv t),(15,pv b),(82,sv r),(83,iv r.len),(84,iv i)] [] m h}),
 (38,{A:=Nat×bx×Nat×MH×PH,st:=λ⟨b,c,r,m,h⟩=>bU 140 143 [(3,pv b),(18,.at (.lst 131)),(118,pv r)] [(131,.lst 65 1 (c.map eS))] m h})] [] [] [200003,200005,200013,200015,200021,400000,410000,0] [] false
def bxZ(u:Sl)(b:Nat)(m:MH)(h:PH)(K:bo):Prop:=
  ∃(y:PV),aK m h b 2 y.enc/\H6 (λv s p r=>aI (zC y u=zC v s) (fH h p v) (bS h s r) (K (Af (nP r p)) m h))
def beJ(u:Sl)(a b:Nat)(m:MH)(h:PH)(K:bo):Prop:=
  ∃(y:Nat),aK m h a 0 (oA y)/\∃(d:Sl),aA (aK m h b 0 (aR d)) (dK m h a y) (∃(s:Sl),DI u d s h m a y (λ_ _=>aK m h b 0 (aR d)) (λr c=>∃(k:dc)(O:Value->Prop),aA (uP m y (List.map (fun(p:Value×Bool)=>(p.1,Value.bool p.2)) k)) (C6 O) (aA (O (iL r c)) (∀(e:Value×Bool),List.Mem e k->O e.1) (((∀(e:Value×Bool),F2 e k (iL r c))->K bH m h)/\∀(f:Bool),List.Mem (iL r c,f) k->K (Af f) m h))))
def beZ(u:Sl)(b:Nat)(m:MH)(h:PH)(K:bo):Prop:=
  kS m h b 0 (λy=>Jq (λs c l r=>aA (cJ y u=cJ s c) (Rows h s l) (aA (lN l) (bS h c r) (Au l/\K (CV.val (Value.bool (!(GO l r)))) m h))))
def beQ(u:Sl)(b:Nat)(m:MH)(h:PH)(K:bo):Prop:=
  kS m h b 0 (λy=>Jq (λs c l r=>aA (cJ y u=cJ s c) (Rows h s l) (aA (lN l) (bS h c r) (Au l/\K (Af (GO l r)) m h))))
def TW(i:Nat)(g d j:Nat)(m:MH)(h:PH)(K:bo):Prop:=
  FI m h g 18 (λy c=>aK m h d 0 (aR c)/\bJ (λb o=>aI (aW c.a b o) (0<=(↑i:Int)) ((↑i:Int)<aH c) (∃(e:Sl),aK m h b (o+bM i 1) (aR e)/\∃(f:Sl),aA (aK m h j 0 (aR f)) (aK m h d 0 (aR c)) (Kt y e f h (λn a u=>aK m h d 0 (aR c)/\K (Af (decide (lE n a u>=0))) m h)))))
abbrev FA(a:MH)(b:Nat)(c:(Array Value)->bt)(d:MH->(Nat×Nat×Nat×MH×PH)->Prop):Prop:=jN (λx e=>aA (yA a b (gG x e 0)) (0<x.size) (∀(f:MH),bK a f b (c x) e->∃(g:Nat×Nat×Nat×MH×PH),d f g))
attribute [push_cast] FA
def M4(u:Sl)(a b:Nat)(m:MH)(h:PH)(K:bo):Prop:=
  ∀(j:Nat)(d:MH),bG (cF m h j) (bK m d j (aR u) 65) (∃(I:Nat×Nat×Nat×MH×PH->Prop),(∃(y:Nat),aK d h a 0 (oA y)/\∃(z:Sl),aK d h j 0 (aR z)/\∃(A:Sl),aA (aK d h b 17 (aR A)) (aK d h a 0 (oA y)/\∃(s:Sl),DI z A s h d a y (λr c=>aA (aK d h j 0 (aR z)) (aK d h b 17 (aR A)) (sV d y (λO=>O (iL r c)) (iL r c) (aI (dK d h a y) (aK d h j 0 (aR z)) (aK d h b 17 (aR A)) (∀(e:Nat)(f:MH),bG (cF d h e) (bK d f e fW 58) (FA f e (λB=>fA oM 1 B) (λC x=>DH I x b j e C h)))) (λD=>aI (dK d h a y) (aK d h j 0 (aR z)) (aK d h b 17 (aR A)) (∀(e:Nat)(f:MH),bG (cF d h e) (bK d f e fW 58) (FA f e (λB=>fA (dP D) 1 B)
 (λC x=>DH I x b j e C h)))))) (λr c=>aI (dK d h a y) (aK d h j 0 (aR z)) (aK d h b 17 (aR A)) (∀(e:Nat)(f:MH),bG (cF d h e) (bK d f e fW 58) (aA (aK f h j 0 (aR z)) (aK f h b 17 (aR A)) (sV f y (λO=>O (iL r c)) (iL r c) (FA f e (λB=>fA oM 1 B) (λC x=>DH I x b j e C h)) (λD=>FA f e (λB=>fA (dP D) 1 B) (λC x=>DH I x b j e C h))))))) (aA (dK d h a y) (aK d h j 0 (aR z)) (aK d h b 17 (aR A)/\∀(e:Nat)(f:MH),bG (cF d h e) (bK d f e fW 58) (aK f h a 0 (oA y)/\∃(s:Sl),DI z A s h f a y (λ_ _=>aK f h j 0 (aR z)) (λr c=>aK f h b 17 (aR A)/\sV f y (λO=>O (iL r c)) (iL r c) (FA f e (λB=>fA
 oM 1 B) (λC x=>DH I x b j e C h)) (λD=>FA f e (λB=>fA (dP D) 1 B) (λC x=>DH I x b j e C h)))))))/\∀(x:Nat×Nat×Nat×MH×PH),I x->kS (lH x) (jS x) (gQ x) 0 (λy=>bJ (λn e=>bJ (λF G=>∃(v:wQ)(o:bz),Jq (λg s r E=>∃(w:Nat),aA (fQ (aH y) (mJ 109 (Array.mk (bF (R9 x.1 0) (R9 (gQ x) 0) (zM (gR x)))))=fQ (↑n:Int) (mJ 109 (Array.mk (bF (R9 e 0) (R9 F 0) (zM G))))) ((iJ x).1 e=Option.some (gG (Array.mk v.enc) 101 0)) (aA ((iJ x).1 F=Option.some (gG (Array.mk (aR g)) 58 0)) ((iJ x).1 G=Option.some (gG (Array.mk (aR s)) 65 0)) (aA (jB (jS x) v.order o) (Rows (jS x) g r) (aA (bS (jS x) s E) (r.length=n) (aI (tF o r) (HW r (λH=>
 H.length=w)) (E.length=w) (∃(z:Int),aK (lH x) (jS x) x.1 19 (bB z)/\K (CV.val (Value.bool (decide ((↑(countP (fun(A:ca)=>decide (lE o A E<0)) r):Int)<z)))) (lH x) (jS x)))))))))))
abbrev HT(a:Sl)(b:CV)(c:PH)(d:Nat->bt->br->(ca->Bool)->Sl->ca->Prop)(e:bo)(g:MH):Prop:=∃(x:Sl),UQ (λo u=>∃(j:br)(y:ca->Bool),aA (fZ a b=fZ x (mJ o (Array.mk u))) (Rows c x j) (aA (Au j) (∀(n:Sl)(f:ca),d o u j y n f) (∀(n:Sl)(f:PH),bQ c f (Rows f n (filter y j)) (e (mQ n) g f))))
abbrev lW(a:Nat×Nat×Sl×bx×MH×PH):Sl×bx×MH×PH:=a.2.2
abbrev H7(a:Nat×Nat×Nat×Sl×Sl×Sl×bx×ca×MH×PH):Sl:=a.2.2.2.2.1
abbrev Cu(a:Nat×Nat×Nat×Sl×Sl×Sl×bx×ca×MH×PH):Sl:=a.2.2.2.1
abbrev A7(a:Nat×Nat×Nat×Sl×Sl×Sl×bx×ca×MH×PH):Sl:=a.2.2.2.2.2.1
abbrev F3(a:Nat×Nat×Nat×Sl×Sl×Sl×bx×ca×MH×PH):List bt:=Ep a.2.2.2.2.2.2.2.1
abbrev vR(a:Nat×Nat×Nat×Sl×Sl×Sl×bx×ca×MH×PH):MH×PH:=a.2.2.2.2.2.2.2.2
abbrev Qc(a:Sl->Sl->br->br->Prop):Prop:=qP (λx c=>∃(d e:br),a x c d e)
abbrev F4(a:Nat×Nat×Nat×Sl×Sl×Sl×MH×PH):Sl:=a.2.2.2.1
abbrev rU(a:Nat×Nat×Nat×Sl×Sl×Sl×MH×PH):Sl×Sl×MH×PH:=a.2.2.2.2
abbrev A8(a:Nat×Nat×Nat×Sl×Sl×Sl×MH×PH):Nat:=a.2.2.1
abbrev uE(a:Nat×Nat×Nat×Sl×Sl×Sl×MH×PH):Sl:=(rU a).2.1
abbrev zE(a:Nat×Nat×Nat×Sl×Sl×Sl×MH×PH):Nat->Option Obj:=(iB (rU a)).1
abbrev Bd(a:Nat×Nat×Nat×Sl×Sl×Sl×MH×PH):Nat->Nat->Option Value:=(iB (rU a)).2
abbrev Ih(a:Nat×bx×Nat×MH×PH):Nat:=a.2.2.1
attribute [push_cast] HT lW H7 Cu A7 F3 vR Qc F4 rU A8 uE zE Bd Ih
def af(v:wQ)(H s2:Sl)(m:MH)(h:PH)(K:bo):Prop:=
  ∀(b:Nat)(m1:MH),bG (cF m h b) (bK m m1 b v.enc 101) (∀(U:Nat)(n:MH),bG (cF m1 h U) (bK m1 n U (aR s2) 58) (∃(y:Int),aK n h b 0 (bB y)/\dR (y==2) (HT H (mJ 96 (BS b)) h (λg c l p u r=>bG (List.Mem r l) (bS h u r) (Cv g 4 (cX u (List.map CV.val c)) n h (λx z f=>aA (x=tM (p r)) (z=n) (f=h)))) K n) (y==3) (aA (cH 0) (cH (aH H)) (aA (zX H 24) (zU (aH H)) (∃(I:Nat×Nat×Sl×bx×MH×PH->Prop)(z:Nat×Nat×Sl×bx×MH×PH->Nat),(∃(x:Nat×Nat×Sl×bx×MH×PH),aA (I x) (dM b x.2.1) (aA (eL 33) (aZ H (lW x).1) (aA (bN H (lW x).1) (bA x.1) (aA (AR (tS (lW x))) (dJ n (jL (lW x))) (kZ (fC h (jL (lW x))))))))/\∀(x:Nat×Nat×Sl×List
 Sl×MH×PH),I x->aY (↑x.1:Int) (aH (lW x).1) (bJ (λJ o=>aI (aW (lW x).1.a J o) (0<=(↑x.1:Int)) ((↑x.1:Int)<aH (lW x).1) (∃(F:Sl),aK (nK (lW x)) (lX (lW x)) J (o+bM x.1 1) (aR F)/\∃(A:Sl),aA (aK (nK (lW x)) (lX (lW x)) x.2.1 15 (aR A)) (cH (aH A)) (aA (aH A<=aH A) (zX A 32) (zU (aH A)/\∃(G:Sl),aK (nK (lW x)) (lX (lW x)) x.2.1 15 (aR G)/\∃(I1:Nat×Nat×Nat×Sl×Sl×Sl×bx×ca×MH×PH->Prop)(M:Nat×Nat×Nat×Sl×Sl×Sl×bx×ca×MH×PH->Nat),(∃(d:Nat×Nat×Nat×Sl×Sl×Sl×bx×ca×MH×PH),aA (I1 d) (dM x.2.1 d.2.2.1) (aA (eL 33) (aZ F (H7 d)) (aA (eL 43) (aZ (lW x).1 (Cu d)) (aA (bN (lW x).1 (Cu
 d)) (cD x.1 d.2.1) (aA (aZ G (A7 d)) (bN G (A7 d)) (aA (bA d.1) (rG (tS (lW x)) d.2.2.2.2.2.2.1) (aI (bR 30 3 (wG (aH A) zD)=bR 30 3 (F3 d)) (fJ (jL (lW x)) (vR d)) (dA (jL (lW x)) (vR d)) True)))))))/\∀(d:Nat×Nat×Nat×Sl×Sl×Sl×bx×ca×MH×PH),I1 d->aY (↑d.1:Int) (aH (A7 d)) (bJ (λV o1=>aI (aW (A7 d).a V o1) (0<=(↑d.1:Int)) ((↑d.1:Int)<aH (A7 d)) (∃(B:Int),aK (vR d).1 (vR d).2 V (o1+bM d.1 1) (bB B)/\bJ (λZ o2=>aI (aW (H7 d).a Z o2) (0<=B) (B<aH (H7 d)) (∃(y5:VV),Cy (aK (vR d).1 (vR d).2 Z (o2+gY B 3) y5.enc) 0 (↑d.1:Int) (F3 d) (λe=>aA (mI (F3 d) (lD d.1) e)
 (3<=e.length) (∃(j:Nat×Nat×Nat×Sl×Sl×Sl×bx×ca×MH×PH),aA (I1 j) (M j<M d) (aA (dM d.2.2.1 j.2.2.1) (eL 33) (aA (aZ (H7 d) (H7 j)) (eL 43) (aA (aZ (Cu d) (Cu j)) (bN (Cu d) (Cu j)) (aA (cD d.2.1 j.2.1) (aZ (A7 d) (A7 j)) (aA (bN (A7 d) (A7 j)) (gK (bE d.1 1)=bO j.1) (aA (rG d.2.2.2.2.2.2.1 j.2.2.2.2.2.2.1) (bR 30 3 (List.set (F3 d) (lD d.1) (bF (fV y5.kind) (fV y5.int) (By (Value.string y5.text) 3 e)))=bR 30 3 (F3 j)) (aA (fJ (vR d) (vR j)) (dA (vR d) (vR j)) True)))))))))))))) (bY (vR d).2 3 (F3 d) (λs f=>aA (kB (gH d.2.2.2.2.2.2.1)) (dO (gH d.2.2.2.2.2.2.1)) (∃(j:Nat×Nat×Sl×bx×MH×PH),aA (I j) (z j
 <z x) (aA (dM d.2.2.1 j.2.1) (eL 33) (aA (aZ (Cu d) (lW j).1) (bN (Cu d) (lW j).1) (aA (gK (bE d.2.1 1)=bO j.1) (xA (gH d.2.2.2.2.2.2.1) s (tS (lW j))) (aA (fJ (vR d) (jL (lW j))) (fC f (jL (lW j))) True)))))))))))) (bY (lX (lW x)) 1 (nE (lW x)) (λs f=>∃(C:Sl),FB s C (nK (lW x)) f K))))) (dR (y==4) (∃(F:wQ),aK n h b 0 F.enc/\∃(A:Sl),aK n h U 0 (aR A)/\∃(L:wQ)(o:bu),Qc (λs C l D=>aA (cC F.enc (cJ H A)=cC L.enc (cJ s C)) (jC h L.on o) (aA (Rows h s l) (Rows h C D) (aI (eA n) (b5J o [l,D]) (l.length*D.length<=8000000) (∀(W:Sl)(f:PH),bQ h f (Rows f W (flatMap (kF o D) l)) (K (mQ W) n f)))))) (y==5)
 (kS n h b 16 (λF=>Ku F h (λa J f=>∀(V:Nat)(z:MH),bG (cF n f V) (bK n z V fW 36) (jN (λc E=>aA (yA z V (gG c E 0)) (0<c.size) (∀(M:MH),bK z M V (fA (dP a) 1 c) E->w9 M f (λZ P=>∀(X:Nat)(Q:MH),bG (cF P f X) (bK P Q X (oN Em) 157) (jN (λY E1=>aA (yA Q X (gG Y E1 0)) (0<Y.size) (∀(m7:MH),bK Q m7 X (fA (C8 Z) 1 Y) E1->kS m7 f U 0 (λA=>∃(I:Nat×Nat×Nat×Sl×Sl×Sl×MH×PH->Prop)(m8:Nat×Nat×Nat×Sl×Sl×Sl×MH×PH->Nat),(∃(x:Nat×Nat×Nat×Sl×Sl×Sl×MH×PH),aA (I x) (aZ H (F4 x)) (aA (dM V x.2.1) (aZ J (rU x).1) (aA (dM X (A8 x)) (aZ A (uE x)) (aA (bN A (uE x)) (bA x.1) (aA (dJ m7 (iB (rU
 x))) (fC f (iB (rU x))) True)))))/\∀(x:Nat×Nat×Nat×Sl×Sl×Sl×MH×PH),I x->aY (↑x.1:Int) (aH (uE x)) (bJ (λb6 o=>aI (aW (uE x).a b6 o) (0<=(↑x.1:Int)) ((↑x.1:Int)<aH (uE x)) (∃(G:Sl),aK (zE x) (Bd x) b6 (o+bM x.1 1) (aR G)/\∃(B:Nat),aA (dK (zE x) (Bd x) (A8 x) B) (dK (zE x) (Bd x) (A8 x) B) (∃(s:Sl),Av (λt r R=>aA (cJ G (rU x).1=cJ s t) (bS (Bd x) s r) (aA (Ints (Bd x) t R) (Ot r) (aI (As r R) (eA (zE x)) (dK (zE x) (Bd x) (A8 x) B) (qZ (zE x) B (λO=>O (iL r R)) (iL r R) (λk=>∀(S:MH),bG (jY (zE x) S B) (pH S B (Ga k (iL r R))) (∃(d:Nat×Nat×Nat×Sl×Sl×Sl×MH×PH),aA (I d) (m8
 d<m8 x) (aA (aZ (F4 x) (F4 d)) (dM x.2.1 d.2.1) (aA (aZ (rU x).1 (rU d).1) (dM (A8 x) (A8 d)) (aA (aZ (uE x) (uE d)) (bN (uE x) (uE d)) (aI (gK (bE x.1 1)=bO d.1) (dJ S (iB (rU d))) (dA (iB (rU x)) (iB (rU d))) True)))))) (λl L D=>gV l (iL r R) L D) (λl D=>∀(S:MH),bG (jY (zE x) S B) (pH S B (gV l (iL r R) C9 D)) (∃(d:Nat×Nat×Nat×Sl×Sl×Sl×MH×PH),aA (I d) (m8 d<m8 x) (aA (aZ (F4 x) (F4 d)) (dM x.2.1 d.2.1) (aA (aZ (rU x).1 (rU d).1) (dM (A8 x) (A8 d)) (aA (aZ (uE x) (uE d)) (bN (uE x) (uE d)) (aI (gK (bE x.1 1)=bO d.1) (dJ S (iB (rU d))) (dA (iB (rU x)) (iB
 (rU d))) True)))))))))))))) (HT (F4 x) (mJ 101 (Array.mk (jX (R9 (A8 x) 0) (R9 x.2.1 0)))) (Bd x) (λg R l p u r=>bG (List.Mem r l) (bS (Bd x) u r) (Cv g 4 (cX u (List.map CV.val R)) (zE x) (Bd x) (λd S T=>aA (d=tM (p r)) (dJ S (iB (rU x))) (fC T (iB (rU x)))))) K (zE x))))))))))))) (dR (y==6) (kS n h U 0 (λF=>bY h 1 (lY (aR H) (aR F)) (λs f=>∃(C:Sl)(l D:br),aA (vG (mQ s)=vG (mQ C)) (Leaves f C [l,D]) (aA (Au l) (Au D) (∀(W:Sl)(T:PH),bQ f T (Rows T W (l++D)) (∃(s5:Sl),FB W s5 n T K)))))) (y==7) (HT H (mJ 103 (BS U)) h (λg c l p u r=>bG (List.Mem r l) (bS h u r) (Cv g 4 (cX u (List.map CV.val c)) n h (λx z f=>aA (x
 =tM (p r)) (z=n) (f=h)))) K n) (dR (y==8) (HT H (mJ 105 (BS U)) h (λg c l p u r=>bG (List.Mem r l) (bS h u r) (Cv g 4 (cX u (List.map CV.val c)) n h (λx z f=>aA (x=tM (p r)) (z=n) (f=h)))) K n) (y==9) (∃(F:wQ),aK n h b 0 F.enc/\∃(L:wQ),Qe (λs g o=>∃(l:br)(w:Nat),H8 (eF F.enc (mQ H)) (eF L.enc (mQ s)) h L.group g (jB h L.order o) (Rows h s l) w l n (λA z f k g1=>HU n A z (bQ h f (sB qR z f A g o l k g1) (Kw z A f (λr M=>∃(I:Nat×bx×Nat×MH×PH->Prop)(P:Nat×bx×Nat×MH×PH->Nat),(∃(x:Nat×bx×Nat×MH×PH),aA (I x) (dM b x.1) (aA (eL 131) (dM r (Ih x)) (aI (AR x.2.1) (dJ M x.2.2.2) (fC f x.2.2.2) True)))/\∀(x:Nat×bx
 ×Nat×MH×PH),Kv (I x) (oT x.2.2) (Ih x) (bY (kV x.2.2) 1 (gH x.2.1) (λC T=>∃(W:Sl),FB C W (oT x.2.2) T K)) (λQ=>Qb (λJ k1 D d=>D8 Q J (Ih x) k1 D d/\∃(C:Sl),d.2=dP C/\∃(G:Int),aI (aK Q (kV x.2.2) x.1 19 (bB G)) (0<=oI C G) (oI C G<=(↑C.cap:Int)) (∃(B:List bt),aA (fN 1 B) (uN Q (kV x.2.2) (Sl.mk C.a (oI C G).toNat C.cap) 1 B) (aA (sL (gH x.2.1) B 24) (sM (gH x.2.1) B) (∃(j:Nat×bx×Nat×MH×PH),aA (I j) (P j<P x) (aA (dM x.1 j.1) (eL 131) (aA (dM (Ih x) (Ih j)) (bR 65 1 (gH x.2.1++B)=mV 65 j.2.1) (aA (dJ Q j.2.2.2) (dA x.2.2.2 j.2.2.2) True)))))))))))))) (∃(F:wQ),aK n h b 0 F.enc/\∃(A:Sl),aK n h
 U 0 (aR A)/\∃(L:wQ),Qe (λs g o=>∃(l:br)(w:Nat),H8 (eF F.enc (mQ A)) (eF L.enc (mQ s)) h L.group g (jB h L.order o) (Rows h s l) w l n (λG z f k g1=>HU n G z (bQ h f (sB qR z f G g o l k g1) (∀(J:Nat)(M:MH),bG (cF z f J) (bK z M J (oN Em) 160) (jN (λc E=>aA (yA M J (gG c E 0)) (0<c.size) (∀(P:MH),bK M P J (fA (C8 G) 1 c) E->HT H (mJ 107 (Array.mk (jX (R9 J 0) (R9 b 0)))) f (λg2 Y D p u r=>bG (List.Mem r D) (bS f u r) (Cv g2 4 (cX u (List.map CV.val Y)) P f (λx Q T=>aA (x=tM (p r)) (Q=P) (T=f)))) K P)))))))))))))
theorem aXX:bm 96 asZ:=by
 refine iQ func96 ?_;rintro c m h K ⟨u,b,v,w,r,rfl,d,e,f,g⟩;refine⟨qV [(97,asX)] [] [] [] [0] [] false,rfl,aE SG aG,bxZ u b m h K,ax,?_⟩;exact⟨v.where_,.of_m d rfl,v.where_,u,w,r,rfl,e,f,g⟩
theorem amZ:bm 101 bTJ:=by
 refine iQ func101 ?_;rintro j m h K ⟨u,e,n,y,s,r,c,ks,rfl,f,g,o,z,A,B,d,C,D⟩;refine⟨qV [(100,Ui)] [] [] [] [0] [] false,rfl,aE Dd aG,beJ u e n m h K,ax,?_⟩;exact⟨y,.of_m f rfl,s,.of_m g rfl,.of_m f rfl,u,s,r,c,rfl,A,z,B,d,C,.of_m f rfl,.of_m g rfl,o.get D⟩
theorem amQ:bm 103 (bZX false):=by
 refine iQ func103 ?_;rintro e m h K ⟨u,b,s,l,r,rfl,f,g,c,j,n,d⟩;refine⟨qV [(104,b1Q)] [] [] [] [0] [] false,rfl,aE Rg aG,beZ u b m h K,ax,?_⟩;exact⟨s,.of_m f rfl,s,u,l,r,rfl,g,c,j,n,by rw[show(GO l r==false)= !GO l r by grind]at d;exact d⟩
theorem alJ:bm 105 (bZX true):=by
 refine iQ func105 ?_;rintro e m h K ⟨u,b,s,l,r,rfl,f,g,c,j,n,d⟩;refine⟨qV [(104,b1Q)] [] [] [] [0] [] false,rfl,aE Rg aG,beQ u b m h K,ax,?_⟩;exact⟨s,.of_m f rfl,s,u,l,r,rfl,g,c,j,n,by rw[show(GO l r==true)=GO l r by grind]at d;exact d⟩
theorem akJ:bm 109 b2X:=by
 refine iQ func109 ?_;rintro j m h K ⟨i,n,e,o,v,od,g,s,rs,r,x,rfl,y,z,A,B,c,C,f,D⟩;refine⟨qV [(110,HA)] [] [] [] [0] [] false,rfl,aE Gn aG,TW i n e o m h K,ax,?_⟩;dsimp only[TW,push_cast];have J:=bL.slen c;have L:=(List.getElem?_eq_some_iff.1 f).1;obtain⟨E,F,u,G,H,I⟩:=bL.at c f;have d:aK m h e 0 [dP g]:=.of_m z rfl;exact⟨v.order,.of_m y rfl,g,d,E,F,G,aC,aC,u,.imm H,s,.of_m A rfl,d,v.order,u,s,od,x,r,rfl,B,I,C,d,D⟩
theorem Ye:bm 108 YD:=PI akJ λy m h K⟨n,j,o,u,v,od,g,s,rs,r,z,e,A,B,C,D,c,E,F,d,G,f,H⟩=>⟨n,j,o,u,z,od,rs,r,e,by have:=c.len;omega,F,d,G,f,λi x I=>⟨i,j,o,u,v,od,g,s,rs,r,x,rfl,A,B,C,D,c,E,I,rfl,rfl,rfl⟩,H⟩
structure cwX(m:MH)(h:PH)(v:wQ)(bq be:Nat)(e:Sl)(Gk:br)(c:Nat×Nat×Nat×MH×PH):Prop where
 c1:c.1=bq
 c2:c.2.1=be
 c3:c.2.2.2.2=h
 sub:Sub m c.2.2.2.1
 q_:c.2.2.2.1 bq=some (.cells ⟨wQ.enc v⟩ 101 (0,0))
 e_:c.2.2.2.1 be=some (.cells #[Sl.val e] 65 (0,0))
 g_:∃s,c.2.2.2.1 c.2.2.1=some (.cells #[Sl.val s] 58 (0,0))/\Rows h s Gk
theorem alX:bm 107 arZ:=by
 refine RU func107 ?_;rintro b' m h K ⟨u,ba,M,v,y,gr,od,l,kk,G,r,w,rfl,X,H,Y,L,O,Z,a7,hu,hr,a',hT,hK⟩;refine⟨bMJ,rfl,aE Dd (aE Ye aG),M4 u ba M m h (cN h K),ax,?_⟩;show M4 u ba M m h (cN h K);dsimp only[M4,push_cast];intro T D a8 a0;obtain⟨F,n1⟩:=iT (Sub.refl m) a8 a0;have I:D T=some (.cells #[Sl.val u] 65 (0,0)):=a0.at_;have a1:jM r.length gr:=bg
 have g1:=Y.keep (λo e=>F _ o e) (.refl _)
 have a2:∀{g j},cF D h g->lF D j g (.cells #[oM] 58 (0,0))->∀z o,D z=some o->j z=some o:=fun{g j} f d z o B=>by
  have:z≠g:=λU=>by rw[U,f.m_]at B;cases B
  rw[d.other z this];exact B
 have fin:∀s,Dl kk (qR (pick r gr)) s->∀g j,cF D h g->lF D j g (.cells #[oM] 58 (0,0))->∃(cs:Array Value)(E:TypeId),yA j g (.cells cs E (0,0))/\0<cs.size/\∀m9,lF j m9 g (.cells (Array.mk (dP s::cs.toList.drop 1)) E (0,0))->
  ∃c:Nat×Nat×Nat×MH×PH,cwX m h v M T u (G (qR (pick r gr))) c/\Wh M 0=Wh c.1 0/\Wh T 0=Wh c.2.1 0/\Wh g 0=Wh c.2.2.1 0/\m9=c.2.2.2.1/\h=c.2.2.2.2/\True:=λs A g j f d=>by
  refine⟨_,_,⟨d.at_⟩,ay,λm9 a3=>⟨(M,T,g,m9,h),?_,MT⟩⟩
  have P:∀z o,D z=some o->m9 z=some o:=λz o B=>by
   have:z≠g:=λU=>by rw[U,f.m_]at B;cases B
   rw[a3.other z this,d.other z this];exact B
  exact⟨rfl,rfl,rfl,λz o B=>P z o (F z o B),P _ _ (F _ _ H),P _ _ I,s,a3.at_,Y.at_ A⟩
 have Q:aK D h ba 0 [Value.map (some y)]:=.of_m (F _ _ X) rfl;have V:aK D h T 0 [dP u]:=.of_m I rfl;have W:aK D h M 17 [dP v.group]:=.of_m (F _ _ H) rfl;refine⟨cwX m h v M T u (G (qR (pick r gr))),⟨y,Q,u,V,v.group,W,⟨Q,u,v.group,r,gr,rfl,hu,Z,hr,a1,hT.sub F,Q,⟨V,W,g1.get2 (λA=>⟨Q,V,W,fin _ A⟩) (λs A=>⟨Q,V,W,fin _ A⟩)⟩,Q,V,W,λg j f d=>?_⟩,Q,V,W,λg j f d=>?_⟩,?_⟩
 .have J:=a2 f d;exact⟨.of_m (J _ _ I) rfl,.of_m (J _ _ (F _ _ H)) rfl,(g1.keep (J y) (.refl _)).get2 (λA=>fin _ A g j f d) (λs A=>fin _ A g j f d)⟩
 .have J:=a2 f d;have a4:aK j h ba 0 [Value.map (some y)]:=.of_m (J _ _ (F _ _ X)) rfl;exact⟨a4,u,v.group,r,gr,rfl,hu,Z,hr,a1,(hT.sub F).sub J,a4,.of_m (J _ _ I) rfl,.of_m (J _ _ (F _ _ H)) rfl,(g1.keep (J y) (.refl _)).get2 (λA=>fin _ A g j f d) (λs A=>fin _ A g j f d)⟩
 .rintro⟨c1,c2,g,mz,hz⟩ ⟨e1,B,U,a5,R,a6,s,S,C⟩;dsimp only at e1 B U a5 R a6 S⊢
  subst e1 B U;have n:=Hf Lf (od:=od) L O hr a';rw[<-(Y.perm _).countP_eq]at n;refine⟨s,.of_m S rfl,s.len,c1,g,c2,v,od,s,u,G (qR (pick r gr)),r,w,rfl,R,S,a6,a7,C,hu,C.slen.symm,Y.sort _,λz a9=>?_,a',v.limit,.of_m R rfl,?_⟩
  .have:=(Y.perm _).mem_iff.1 (show z∈_ from a9);exact L.wid z (mem_filter.1 this).1
  .rw[n];exact cN.keep a5 (.refl _) hK
theorem cVX(x:Value):Vc.valOf Tryz.prog 4 [x]=x:=ax
theorem LI{g:Nat}{S:Vc.Spec}{u:Sl}{c:bt}{b:Bool}(d:bm g S)(e:∀K:CV->MH->PH->Prop,K (cB b) m h->S (cS u::c.map .val) m h K):FAt Tryz.prog g 4 (cS u::c.map .val) m h λx m' h'=>x=[.bool b]/\m'=m/\h'=h:=
 Sound.fat (vs:=Sl.val u::c) d (e _ ⟨[.bool b],(congrArg CV.val (cVX _)).symm,rfl,rfl,rfl⟩)
structure StM(m m2:MH)(b b2:Nat)(v:wQ)(s2:Sl):Prop where
 sub:Sub m m2
 b_:m2 b=some (.cells ⟨wQ.enc v⟩ 101 (0,0))
 s_:m2 b2=some (.cells #[Sl.val s2] 58 (0,0))
 tab:eA m2
theorem au:bm 50 YE:=by
 refine RU func50 ?_;rintro k0 m h K ⟨v,t,R,S,n,B,rfl,U,G,I,hT,h2,g8,P,W,b0,J⟩;refine⟨f50_ctx,rfl,aE aXZ (aE ET (aE aXQ (aE SF (aE Dd (aE amX (aE alZ aG)))))),af v R S m h (cN h K),ax,?_⟩;show af v R S m h (cN h K);dsimp only[af,push_cast];obtain⟨op,ta,w,co,on,gr,od,li,lf,rt⟩:=t;dsimp only[Step.query]at P J h2 g8;intro b m1 d1 a5 b2 m2 b1 a6
 have M:StM m m2 b b2 v S:=by
  obtain⟨R,n1⟩:=iT (Sub.refl m) d1 a5;obtain⟨st,n2⟩:=iT R b1 a6;have g9:b≠b2:=λe=>by have:=b1.m_;rw[<-e,a5.at_]at this;cases this
  exact⟨st,by rw[a6.other b g9];exact a5.at_,a6.at_,hT.sub st⟩
 clear d1 a5 b1 a6;have d2:=bL.slen G;have d3:=bL.slen I;have e0:v.op=op:=U.op_;have go:∀k,(v.op==k)=true->op=k:=λk e=>e0.symm.trans (eq_of_beq e);have b6:∀{m' h'},m' b=some (.cells ⟨wQ.enc v⟩ 101 (0,0))->aK m' h' b 0 (wQ.enc v):=λh=>.of_m h (take_length ..);refine⟨v.op,.of_m M.b_ rfl,aD (λe=>?_) (λn2=>aD (λe=>?_) (λn3=>aD (λe=>?_) (λn4=>aD (λe=>?_) (λn5=>aD (λe=>?_) (λn6=>aD (λe=>?_) (λn7=>aD (λe=>?_) (λn8=>aD (λe=>?_) (λn9=>?_))))))))⟩
 .obtain rfl:=go _ e;exact⟨R,96,[.pointer (some ⟨b,0,none⟩)],n,λr=>nP r w,rfl,G,W,λu r j X=>LI aXX λK J=>⟨u,b,v,w,r,rfl,M.b_,U.where_,X,J⟩,λL h' le j=>cN.sub M.sub le (J L h' le j)⟩
 .obtain rfl:=go _ e;obtain⟨_,k3,wd,d,C⟩:=(show Me (.mk 3 ta w co on gr od li []) [n,B]from P)
  have d:iG wd n:=d;have hc:Ints h v.columns co:=U.columns_;have h4:=hc.slen;refine⟨aC,aC,aC,aC,λx=>x.1<=n.length/\x.2.1=b/\x.2.2.1=R/\x.2.2.2.2.1=m2/\PH.le h x.2.2.2.2.2/\eX x.2.2.2.2.2 x.2.2.2.1 ((n.take x.1).map λr=>pick r co),λx=>n.length-x.1,⟨(0,b,R,[],m2,h),⟨Nat.zero_le _,rfl,rfl,rfl,.refl _,bk (eX.nil h)⟩,MT⟩,?_⟩;rintro⟨i,b',t1,us,mx,Y⟩ ⟨hi,e1,A,O,le,j⟩;dsimp only at hi e1 A O le j⊢
  subst e1 A O;refine aF (λb7=>?_) (λd4=>?_)
  .obtain⟨r,D⟩:=eV d2 b7;obtain⟨bb,o,u,ea,rd,X⟩:=bL.at G D;have k4:=d.wid r (mem_of_getElem? D);have d5:=bS.mono X le;have k5:=bL.slen d5;have k6:(pick r co).length=co.length:=by simp[pick]
   have d6:=j.len;rw[length_map,length_take]at d6;refine⟨bb,o,ea,aC,aC,u,.imm (rd.mono le),v.columns,.of_m M.b_ rfl,aC,aC,aC,aC,v.columns,.of_m M.b_ rfl,λz=>z.1<=co.length/\z.2.1=i/\z.2.2.1=b'/\z.2.2.2.1=t1/\z.2.2.2.2.1=u/\z.2.2.2.2.2.1=v.columns/\z.2.2.2.2.2.2.1=us/\z.2.2.2.2.2.2.2.1=(pick r co).take z.1++replicate (co.length-z.1) zeroV/\z.2.2.2.2.2.2.2.2.1=mx/\z.2.2.2.2.2.2.2.2.2=Y,λz=>co.length-z.1,⟨(0,i,b',t1,u,v.columns,us,replicate co.length zeroV,mx,Y),⟨Nat.zero_le _,rfl,rfl,rfl,rfl,rfl,rfl,ay,rfl,rfl⟩,?_⟩,?_⟩
   .dsimp only;rw[map_replicate,show((v.columns.len:Int)).toNat=co.length by omega];exact MT
   .rintro⟨k,i',d7,d8,u',cc,d9,cells,my,hy⟩ ⟨hk,e1,A,O,e4,e5,e6,e7,e8,e9⟩;dsimp only at hk e1 A O e4 e5 e6 e7 e8 e9⊢
    subst e1 A O e4 e5 e6 e7 e8 e9;refine aF (λe'=>?_) (λd4=>?_)
    .obtain⟨c,f'⟩:=eV h4 e';obtain⟨b4,o4,e4,k7⟩:=(hc.mono le).at f';obtain⟨y,h7,h8,h0,h1⟩:=J6 (r:=r) bg f';obtain⟨b5,o5,y',e5,h9,rfl⟩:=bL.at d5 h7;have f0:k<co.length:=by omega
     have f1:=Ww h8 f0;refine⟨b4,o4,e4,aC,aC,c,.imm bg,b5,o5,e5,h0,aC,y,.imm h9,aC,bf,_,Sj f0,by simp[VV.enc],(k+1,i',d7,d8,u',v.columns,d9,(pick r co).take (k+1)++replicate (co.length-(k+1)) zeroV,my,hy),⟨aC,rfl,rfl,rfl,rfl,rfl,rfl,rfl,rfl,rfl⟩,aC,?_⟩;dsimp only;refine⟨rfl,rfl,rfl,rfl,rfl,rfl,rfl,rfl,rfl,by rw[iS aC],rfl,?_,rfl,rfl,trivial⟩;rw[<-f1,map_set];rfl
    .have:k=co.length:=by omega
     subst this;rw[take_of_length_le aC,Nat.sub_self,replicate_zero,append_nil]
     refineλs3 h3 E T=>⟨bg,bg,(i'+1,d7,d8,d9++[s3],my,h3),⟨aC,rfl,rfl,rfl,le.trans E,?_⟩,aC,?_⟩
     .dsimp only;rw[take_add_one,D,map_append];exact(j.mono E).snoc ⟨⟨_,T,rfl,λi x Y=>⟨x,Y,rfl⟩⟩,bg⟩
     .dsimp only;rw[iS aC,map_append];exact MT
  .rw[take_of_length_le aC]at j
   exactλs3 h3 E T=>⟨s3,us,_,rfl,.imm T,j.mono E,bf,λL h' a' b8=>cN.sub M.sub (le.trans (E.trans a')) (J L h' (le.trans (E.trans a')) b8)⟩
 .obtain rfl:=go _ e;obtain⟨h5,h6⟩:=(show Mf (.mk 4 ta w co on gr od li []) [n,B]from P)
  exact⟨v,b6 M.b_,S,.of_m M.s_ rfl,v,on,R,S,n,B,rfl,U.on_,G,I,M.tab,h5,h6,λL h' le j=>cN.sub M.sub le (J L h' le j)⟩
 .obtain rfl:=go _ e;obtain⟨_,wa,wb,d,f,f2,b9⟩:=(show Mc (.mk 5 ta w co on gr od li []) [n,B]from P)
  have d:iG wa n:=d;have f:iG wb B:=f;refine⟨v.on,.of_m M.b_ rfl,v.on,on,rfl,U.on_,λsa sb h1 F i0 i1 b3 m3 f3 c'=>⟨_,_,⟨c'.at_⟩,ay,λm4 a0 y m5 i2 Z b4 m6 f4 c0=>⟨_,_,⟨c0.at_⟩,ay,λm7 c5=>?_⟩⟩⟩;obtain⟨k8,n3⟩:=iT M.sub f3 c'
  have Q:∀{z o},m2 z=some o->m4 z=some o:=fun{z o} A=>by
   have:z≠b3:=λO=>by rw[O,f3.m_]at A;cases A
   rw[a0.other z this,c'.other z this];exact A
  have c6:∀{z o},m4 z=some o->m7 z=some o/\z≠y:=fun{z o} A=>by
   have O:z≠y:=λO=>by rw[O,i2.m_]at A;cases A
   have e5:m5 z=some o:=by rw[Z.other z O];exact A
   have e4:z≠b4:=λe4=>by rw[e4,f4.m_]at e5;cases e5
   exact⟨by rw[c5.other z e4,c0.other z e4];exact e5,O⟩
  have y4:y≠b4:=λe=>by have:=f4.m_;rw[<-e,Z.at_]at this;cases this
  have i3:m7 y=some (.map #[] 0):=by rw[c5.other y y4,c0.other y y4];exact Z.at_
  have i4:m7 b2=some (.cells #[Sl.val S] 58 (0,0)):=(c6 (Q M.s_)).1;have f5:=c6 a0.at_;have V:∀{z o},m z=some o->m7 z=some o/\z≠y:=fun{z o} e=>c6 (Q (M.sub z o e));have G:=bL.mono G F (λ_ _ h=>bS.mono h F);have I:=bL.mono I F (λ_ _ h=>bS.mono h F);refine⟨S,.of_m i4 rfl,λz=>z.1<=B.length/\z.2.1=b3/\z.2.2.1=b4/\z.2.2.2.1=R/\z.2.2.2.2.1=sb/\z.2.2.2.2.2.1=S/\z.2.2.2.2.2.2.2=h1/\(∀x o,m7 x=some o->x≠y->z.2.2.2.2.2.2.1 x=some o)/\rY z.2.2.2.2.2.2.1 y ((B.take z.1).map λr=>qR (pick r (fM on))),λz=>B.length-z.1,⟨(0,b3,b4,R,sb,S,m7,h1),⟨Nat.zero_le _,rfl,rfl,rfl,rfl,rfl,rfl,λ_ _ e _=>e,bk (rY.new i3)⟩,MT⟩,?_⟩;rintro⟨i,c3,c4,t1,tb,t2,mx,Y⟩ ⟨hi,e1,A,O,e4,e5,e6,a1,a7⟩;dsimp only at hi e1 A O e4 e5 e6 a1 a7⊢
  subst e1 A O e4 e5 e6;have T7:eA mx:=hT.sub λz o e=>a1 z o (V e).1 (V e).2;have f6:mx c4=some (.cells #[.map (some y)] 157 (0,0)):=a1 c4 _ c5.at_ (Ne.symm y4);refine aF (λb7=>?_) (λd4=>?_)
  .obtain⟨r,D⟩:=eV d3 b7;obtain⟨bb,o,u,ea,rd,X⟩:=bL.at I D;have f7:=mem_of_getElem? D;have r4:aK mx Y c4 0 [Value.map (some y)]:=.of_m f6 rfl;rw[iS aC];refine⟨bb,o,ea,aC,aC,u,.imm rd,y,r4,r4,u,tb,r,fM on,rfl,X,i1,f.row r f7,by rw[f.wid r f7];exact b9,T7,r4,a7.put (λm' i5 f8=>⟨(i+1,c3,c4,t1,tb,t2,m',Y),⟨aC,rfl,rfl,rfl,rfl,rfl,rfl,λz o A c7=>by dsimp only;rw[i5.other z c7];grind,?_⟩,aC,MT⟩)⟩;obtain⟨kk,h5,h6⟩:=f8.ex;exact⟨kk,h5,λq=>by rw[h6,take_add_one,D];grind⟩
  .rw[take_of_length_le aC]at a7;refine⟨t1,101,[.pointer (some ⟨c4,0,none⟩),.pointer (some ⟨c3,0,none⟩)],n,λx=>B.any λy=>agree on x y,rfl,G,W,λu r j X=>LI amZ λK J=>⟨u,c4,c3,y,sa,r,kE on,_,rfl,f6,a1 c3 _ f5.1 f5.2,a7,i0,X,d.row r j,by rw[d.wid r j];exact f2,T7,λt U=>?_⟩,λL h' le j=>cN.sub (λz o e=>a1 z o (V e).1 (V e).2) (F.trans le) (J L h' (F.trans le) j)⟩;have f9:jM r.length (kE on):=by rw[d.wid r j];exact f2
   have h1:(qR (pick r (kE on))∈B.map λz=>qR (pick z (fM on)))↔(B.any λy=>agree on r y)=true:=by
    rw[mem_map,any_eq_true];constructor
    .rintro⟨z,hz,A⟩;exact⟨z,hz,(CN Lf (d.row r j) (f.row z hz) f9 (by rw[f.wid z hz];exact b9)).1 A.symm⟩
    .rintro⟨z,hz,A⟩;exact⟨z,hz,((CN Lf (d.row r j) (f.row z hz) f9 (by rw[f.wid z hz];exact b9)).2 A).symm⟩
   grind
 .obtain rfl:=go _ e;refine⟨S,.of_m M.s_ rfl,λs h1 F D=>⟨s,n,B,rfl,⟨⟨[R,S],D,rfl,λi x Y=>?_⟩,ay⟩,W,b0,λsl h2 H j=>?_⟩⟩
  .match i,Y with
   |0,Y=>cases Y;exact⟨R,rfl,bL.mono G F (λ_ _ h=>bS.mono h F)⟩
   |1,Y=>cases Y;exact⟨S,rfl,bL.mono I F (λ_ _ h=>bS.mono h F)⟩
  .obtain⟨⟨us,D,g',i8⟩,_⟩:=j;exact⟨sl,us,n++B,rfl,.imm D,⟨g'.symm,i8⟩,aC,λL h3 E T=>cN.sub M.sub (F.trans (H.trans E)) (J L h3 (F.trans (H.trans E)) T)⟩
 .obtain rfl:=go _ e;obtain⟨_,wd,d⟩:=(show BP (.mk 7 ta w co on gr od li []) [n,B]from P)
  exact⟨R,103,[.pointer (some ⟨b2,0,none⟩)],n,λr=>GO B r==false,rfl,G,W,λu r j X=>LI amQ λK J=>⟨u,b2,S,B,r,rfl,M.s_,I,(d B ay).srt,X,b0,J⟩,λL h' le j=>cN.sub M.sub le (J L h' le j)⟩
 .obtain rfl:=go _ e;obtain⟨_,wd,d⟩:=(show BP (.mk 8 ta w co on gr od li []) [n,B]from P)
  exact⟨R,105,[.pointer (some ⟨b2,0,none⟩)],n,λr=>GO B r==true,rfl,G,W,λu r j X=>LI alJ λK J=>⟨u,b2,S,B,r,rfl,M.s_,I,(d B ay).srt,X,b0,J⟩,λL h' le j=>cN.sub M.sub le (J L h' le j)⟩
 .obtain rfl:=go _ e;obtain⟨_,⟨wd,d,C⟩,g0⟩:=(show Md (.mk 9 ta w co on gr od li []) [n,B]from P)
  have d:iG wd n:=d;refine⟨v,b6 M.b_,v,R,gr,od,n,wd,rfl,U.group_,U.order_,G,d,C,M.tab,λy m3 h2 kk g hy g1 H hg=>⟨_,hg.map_,λr m4 c8 i9 it=>?_⟩⟩;have a2:∀{z o},m2 z=some o->m3 z=some o:=fun{z o} e=>bg
  have Q:∀{z o},m2 z=some o->m4 z=some o/\z≠r:=fun{z o} e=>by
   have:z≠r:=λA=>by have:=a2 e;rw[A,c8.m_]at this;cases this
   exact⟨by rw[i9.other z this];exact a2 e,this⟩
  refine⟨λz=>z.1=b/\z.2.2.1=r/\z.2.2.2.2=h2/\(∀x o,m4 x=some o->x≠r->z.2.2.2.1 x=some o)/\∃left a3,mE z.2.2.2.1 y r (kk.map λp=>(Value.string p.1,dP p.2)) left/\eX h2 z.2.1 a3/\Gr qR gr li n kk g left a3,λz=>leftOf z.2.2.2.1 z.2.2.1,⟨(b,[],r,m4,h2),⟨rfl,rfl,rfl,λ_ _ e _=>e,_,[],it,eX.nil _,.start⟩,MT⟩,?_⟩;rintro⟨b',us,r',mz,hz⟩ ⟨e1,A,O,c9,left,a3,a4,a8,rk⟩;dsimp only at e1 A O c9 a4 a8 rk⊢
  subst e1 A O;have d6:=a8.len;have j2:=rk.cnt;refine⟨y,_,left,a4,λd' s3 h3 E T=>?_,λk1 x1 k2 g2 m5 g3 d0=>?_⟩
  .subst d';refine⟨s3,us,a3,rfl,.imm T,a8.mono E,aC,λL h' a' b8=>cN.sub (λz o e=>c9 z o (Q (M.sub z o e)).1 (Q (M.sub z o e)).2) (H.trans (E.trans a')) (J L h' (H.trans (E.trans a')) ?_)⟩;show Rows h' L (z8 gr od li n n);rw[rk.done Lf hg d C g0];exact b8
  .have j':x1∈left:=bg
   obtain⟨p0,g4,rfl⟩:=mem_map.1 (mE.mem a4 j');have g5:v.limit=li:=U.limit_;have j0:m5 b'=some (.cells ⟨wQ.enc v⟩ 101 (0,0)):=by rw[g3.other b' (Q M.b_).2];exact c9 b' _ (Q M.b_).1 (Q M.b_).2
   obtain⟨c1,c2,g6,D,j1,g'⟩:=Wk (li:=li) (hg.rows p0 g4) g0;have k9:=(hg.perm p0.1).length_eq;have k':(mD qR gr n p0.1).length<=n.length:=length_filter_le _ _;refine⟨y,_,_,_,d0,p0.2,rfl,li,.of_m j0 (by rw[<-g5];rfl),c1,c2,g6.map eS,Bt _,.imm D,bg,bg,(b',us++g6,r',m5,hz),⟨rfl,rfl,rfl,λx o e c7=>by dsimp only;rw[g3.other x c7];grind,_,a3++(g p0.1).take li.toNat,d0.it,a8.app j1,rk.step hg a4 g4 g2⟩,?_,bg⟩;show leftOf m5 r'<leftOf mz r';rw[mE.left_ d0.it,mE.left_ a4,g2];simp
 .have n2:=ne_of_beq_false n2;have n3:=ne_of_beq_false n3;have n4:=ne_of_beq_false n4;have n5:=ne_of_beq_false n5;have n6:=ne_of_beq_false n6;have n7:=ne_of_beq_false n7;have n8:=ne_of_beq_false n8;have n9:=ne_of_beq_false n9;obtain rfl:op=10:=by omega
  obtain⟨_,wd,d,f,C⟩:=(show EJ (.mk 10 ta w co on gr od li []) [n,B]from P)
  have d:iG wd n:=d;have f:iG wd B:=f;refine⟨v,b6 M.b_,S,.of_m M.s_ rfl,v,S,gr,od,B,wd,rfl,U.group_,U.order_,I,f,C,M.tab,λy m3 h2 kk g hy g1 H hg b4 m4 c8 a0=>⟨_,_,⟨a0.at_⟩,ay,λm5 Z=>?_⟩⟩
  have g7:∀{z o},m3 z=some o->m5 z=some o:=fun{z o} e=>by
   have:z≠b4:=λA=>by rw[A,c8.m_]at e;cases e
   rw[Z.other z this,a0.other z this];exact e
  have a2:∀{z o},m2 z=some o->m5 z=some o:=fun{z o} e=>g7 bg;have a9:Sub m m5:=λz o e=>a2 (M.sub z o e);exact⟨R,107,[.pointer (some ⟨b4,0,none⟩),.pointer (some ⟨b,0,none⟩)],n,λr=>decide (((B.countP λy=>JX gr r y&&decide (lE od y r<0):Nat):Int)<v.limit),rfl,bL.mono G H (λ_ _ h=>bS.mono h H),W,λu r j X=>LI alX λK J=>⟨u,b4,b,v,y,gr,od,B,kk,g,r,wd,rfl,Z.at_,a2 M.b_,hg.keep (λo=>g7) (.refl _),f,C,U.group_.mono H,U.order_.mono H,X,d.row r j,d.wid r j,hT.sub a9,J⟩,λL h' le j=>cN.sub a9 (H.trans le) (J L h' (H.trans le) (by have e:v.limit=li:=U.limit_;rw[e]at j;exact j))⟩
def aSt(s:Sl):CV:=.val (.agg ⟨[.slice s.a s.len s.cap]⟩)
def czQ:Vc.Spec:=λc m h K=>∃v s,c=[aS v,cI 3]/\iF h s v/\K (cI (eH s)) m h
def Ab(st:List br):Int:=(st.map λl=>(l.length:Int)).sum
def aMJ:Vc.Spec:=λc m h K=>∃s d,c=[aSt s]/\Leaves h s d/\d.length<=1000/\K (cI (Ab d)) m h
def aWX(s:jQ)(t:Int)(r:ca):Bool:=AA s t&&(match s.tables[t.toNat]? with|some c=>EO c r|none=>false)
def Le(s:jQ)(t:Int)(r:ca):ca:=match(if AA s t then s.tables[t.toNat]? else none)with|some c=>oY c r|none=>[]
def cAQ:Vc.Spec:=λc m h K=>∃v s t d r,c=[aS v,cI t,cS d,cI 3]/\iF h s v/\bS h d r/\K (cB (aWX s t r)) m h
def aJQ:Vc.Spec:=λc m h K=>∃v s t d r,c=[aS v,cI t,cS d]/\iF h s v/\bS h d r/\∀e,bS h e (Le s t r)->K (cS e) m h
def Hs:Vc.Spec:=λc m h K=>∃v s e d,c=[aS v,cI 3,aSt e]/\iF h s v/\Leaves h e d/\d.length<=1000/\K (cI (kJ s d)) m h
noncomputable def b9Z:Ctx:=dE [(132,cMX),(133,Ng)] [(7,{A:=Nat×cW×Sl×MH×PH,st:=λ⟨i,t,s,m,h⟩=>bU 95 99 [(3,iv 3),(9,.at (.ptr 9 0)),(41,sv s),(42,iv s.len),(43,iv i)] [(9,.cells 73 (t.enc.map .val))] m h})] [(12,{A:=Nat×cW×VV×Sl×Bool×MH×PH,st:=λ⟨i,t,v,s,b,m,h⟩=>bU 95 99 [(3,iv 3),(9,.at (.ptr 9 0)),(10,iv i),(11,.at (.ptr 11 0)),(12,bv b),(41,sv s),(42,iv s.len),(43,iv i)] [(9,.cells 73 (t.enc.map .val)),(11,.cells 30 (v.enc.map .val))] m h}),
 (13,{A:=Nat×cW×VV×Sl×Bool×Bool×MH×PH,st:=λ⟨i,t,v,s,b,c,m,h⟩=>bU 95 99 [(3,iv 3),(9,.at (.ptr 9 0)),(10,iv i),(11,.at (.ptr 11 0)),(12,bv b),(13,bv c),(41,sv s),(42,iv s.len),(43,iv i)] [(9,.cells 73 (t.enc.map .val)),(11,.cells 30 (v.enc.map .val))] m h})] [] false
noncomputable def b9J(s:Sl)(m:MH)(h:PH):Ctx:=dE [] [(3,{A:=Nat×Int,st:=λ⟨i,n⟩=>bU 19 20 [(3,iv n),(7,sv s),(8,iv s.len),(9,iv i)] [] m h})] [] [] false
noncomputable def cgX(v:bZ)(s:Sl)(m:MH)(h:PH):Ctx:=dE [(90,czQ),(91,aMJ),(92,cAQ),(94,aJQ),(93,I8)] [(9,{A:=Nat,st:=λi=>bU 69 72 [(1,iv 3),(3,.at (.ptr 3 0)),(29,sv s),(30,iv s.len),(31,iv i)] [(3,.cells 27 (v.enc.map .val))] m h}),
 (12,{A:=Nat×Sl×Nat,st:=λ⟨i,u,j⟩=>bU 69 72 [(1,iv 3),(3,.at (.ptr 3 0)),(8,iv i),(9,sv u),(29,sv s),(30,iv s.len),(31,iv i),(36,sv u),(37,iv u.len),(38,iv j)] [(3,.cells 27 (v.enc.map .val))] m h})] [] [] false
def Xa(v:bZ)(m:MH)(h:PH)(K:bo):Prop:=
  Kx v h (λs=>cV (eH s) 0 (K (iR (eH s)) m h) (K (iR 0) m h))
def W9(s:Sl)(m:MH)(h:PH)(K:bo):Prop:=
  ∃(I:Nat×Int->Prop)(d:Nat×Int->Nat),(∃(x:Nat×Int),aA (I x) (dH 0 x.2) (aA (aJ s) (bI s) (cZ (bA x.1) m m h h)))/\∀(x:Nat×Int),I x->aY (↑x.1:Int) (aH s) (bJ (λb o=>aI (aW s.a b o) (0<=(↑x.1:Int)) ((↑x.1:Int)<aH s) (∃(y:Sl),aK m h b (o+bM x.1 1) (aR y)/\∃(c:Nat×Int),aA (I c) (d c<d x) (aA (dH (fG (x.2+aH y)) c.2) (aJ s) (aA (bI s) (gK (bE x.1 1)=bO c.1) (aA (m=m) (h=h) True)))))) (K (iR x.2) m h)
abbrev rA:Prop:=iI 3
abbrev rD(a:Nat×cW×Sl×MH×PH):Sl:=a.2.2.1
abbrev G3(a:Nat×cW×Sl×MH×PH):cW:=a.2.1
abbrev oH(a:Nat×cW×Sl×MH×PH):MH×PH:=a.2.2.2
abbrev Cw(a:Nat×cW×VV×Sl×Bool×MH×PH):Sl:=a.2.2.2.1
abbrev Mi(a:Nat×cW×VV×Sl×Bool×MH×PH):cW:=a.2.1
abbrev Cx(a:Nat×cW×VV×Sl×Bool×MH×PH):MH×PH:=a.2.2.2.2.2
abbrev zF(a:Nat×cW×VV×Sl×Bool×Bool×MH×PH):Sl:=a.2.2.2.1
abbrev G2(a:Nat×cW×VV×Sl×Bool×Bool×MH×PH):cW:=a.2.1
abbrev tA(a:Nat×cW×VV×Sl×Bool×Bool×MH×PH):MH×PH:=a.2.2.2.2.2.2
attribute [push_cast] rA rD G3 oH Cw Mi Cx zF G2 tA
def W8(v:bZ)(t:Int)(s:Sl)(m:MH)(h:PH)(K:bo):Prop:=
  qO (λj n=>∃(u:Int),aA (eZ (kQ (cK v)) t=eZ (kQ (cK j)) u) (iF h n j) (nX (AA n u) (K bH m h) (HL v t (λb o=>∃(y:cW),aK m h b (o+gY t 5) (A9 y)/\cV (aH s) (Bk y) (K bH m h) (∃(I:Nat×cW×Sl×MH×PH->Prop)(f:Nat×cW×Sl×MH×PH->Nat),(∃(x:Nat×cW×Sl×MH×PH),aA (I x) rA (aA (eP 9) (aZ s (rD x)) (aA (bN s (rD x)) (bA x.1) (aA (oQ 73 (iX y)=oQ 73 (iX (G3 x))) (dJ m (oH x)) (kZ (fC h (oH x)))))))/\∀(x:Nat×cW×Sl×MH×PH),I x->aY (↑x.1:Int) (aH (rD x)) (bJ (λz A=>aI (aW (rD x).a z A) (0<=(↑x.1:Int)) ((↑x.1:Int)<aH (rD x)) (∃(g:VV),aK (oH x).1 (oH x).2 z (A+bM x.1 3) g.enc/\∃(B:VV),hX (eO
 (j4 g) (j4 B)) (!(kA B)) (K bH (oH x).1 (oH x).2) (∃(I1:Nat×cW×VV×Sl×Bool×MH×PH->Prop),eU g.kind 2 (∃(d:Nat×cW×VV×Sl×Bool×MH×PH),aA (I1 d) rA (aA (eP 9) (cD x.1 d.1) (aA (eP 11) (kN (decide ((↑x.1:Int)>=(G3 x).key)) d.2.2.2.2.1) (aA (aZ (rD x) (Cw d)) (bN (rD x) (Cw d)) (aA (cD x.1 d.1) (oQ 73 (iX (G3 x))=oQ 73 (iX (Mi d))) (aA (pZ 30 g.enc=pZ 30 d.2.2.1.enc) (fJ (oH x) (Cx d)) (kZ (dA (oH x) (Cx d))))))))) (∃(d:Nat×cW×VV×Sl×Bool×MH×PH),aA (I1 d) rA (aA (eP 9) (cD x.1 d.1) (aA (eP 11) (El d.2.2.2.2.1) (aA (aZ (rD x) (Cw d)) (bN (rD x) (Cw d)) (aA (cD x.1 d.1) (oQ 73 (iX (G3 x))=oQ 73 (iX (Mi
 d))) (aA (pZ 30 g.enc=pZ 30 d.2.2.1.enc) (fJ (oH x) (Cx d)) (kZ (dA (oH x) (Cx d)))))))))/\∀(d:Nat×cW×VV×Sl×Bool×MH×PH),I1 d->∃(I2:Nat×cW×VV×Sl×Bool×Bool×MH×PH->Prop),eU d.2.2.1.kind 1 (∃(c:Nat×cW×VV×Sl×Bool×Bool×MH×PH),aA (I2 c) rA (aA (eP 9) (cD d.1 c.1) (aA (eP 11) (kN d.2.2.2.2.1 c.2.2.2.2.1) (aA (kN (decide ((↑d.1:Int)>=(Mi d).key)) c.2.2.2.2.2.1) (aZ (Cw d) (zF c)) (aA (bN (Cw d) (zF c)) (cD d.1 c.1) (aA (oQ 73 (iX (Mi d))=oQ 73 (iX (G2 c))) (pZ 30 d.2.2.1.enc=pZ 30 c.2.2.1.enc) (aA (fJ (Cx d) (tA c)) (dA (Cx d) (tA c)) True))))))) (∃(c:Nat×cW×VV×Sl×Bool×Bool×MH×PH),aA (I2 c) rA (aA (eP 9)
 (cD d.1 c.1) (aA (eP 11) (kN d.2.2.2.2.1 c.2.2.2.2.1) (aA (El c.2.2.2.2.2.1) (aZ (Cw d) (zF c)) (aA (bN (Cw d) (zF c)) (cD d.1 c.1) (aA (oQ 73 (iX (Mi d))=oQ 73 (iX (G2 c))) (pZ 30 d.2.2.1.enc=pZ 30 c.2.2.1.enc) (aA (fJ (Cx d) (tA c)) (dA (Cx d) (tA c)) True)))))))/\∀(c:Nat×cW×VV×Sl×Bool×Bool×MH×PH),I2 c->bJ (λC D=>aI (aW (G2 c).columns.a C D) (0<=(↑c.1:Int)) ((↑c.1:Int)<aH (G2 c).columns) (∃(E:Int),aK (tA c).1 (tA c).2 C (D+bM c.1 2+1) (bB E)/\cV c.2.2.1.kind E (nX c.2.2.2.2.1 (nX c.2.2.2.2.2.1 (K bH (tA c).1 (tA c).2) (∃(e:Nat×cW×Sl×MH×PH),aA (I e) (f e<f x) (aA rA (eP 9) (aA (aZ (zF c)
 (rD e)) (bN (zF c) (rD e)) (aA (gK (bE c.1 1)=bO e.1) (oQ 73 (iX (G2 c))=oQ 73 (iX (G3 e))) (aA (fJ (tA c) (oH e)) (dA (tA c) (oH e)) True)))))) (∃(e:Nat×cW×Sl×MH×PH),aA (I e) (f e<f x) (aA rA (eP 9) (aA (aZ (zF c) (rD e)) (bN (zF c) (rD e)) (aA (gK (bE c.1 1)=bO e.1) (oQ 73 (iX (G2 c))=oQ 73 (iX (G3 e))) (aA (fJ (tA c) (oH e)) (dA (tA c) (oH e)) True)))))) (∃(e:Nat×cW×Sl×MH×PH),aA (I e) (f e<f x) (aA rA (eP 9) (aA (aZ (zF c) (rD e)) (bN (zF c) (rD e)) (aA (gK (bE c.1 1)=bO e.1) (oQ 73 (iX (G2 c))=oQ 73 (iX (G3 e))) (aA (fJ (tA c) (oH e)) (dA (tA c)
 (oH e)) True))))))))))) (K iM (oH x).1 (oH x).2))))))
def W7(v:bZ)(t:Int)(s:Sl)(m:MH)(h:PH)(K:bo):Prop:=
  aY t 0 (K EZ m h) (iA t (kM v) (K EZ m h) (OZ v t (λb o y=>aI (aK m h b (o+gY t 5+2) (bB y)) (0<=ite (oI s y>0) (oI s y) 0) (ite (oI s y>0) (oI s y) 0<=(↑s.cap:Int)) (K (CV.val (Value.slice s.a (ite (oI s y>0) (oI s y) 0).toNat s.cap)) m h))))
abbrev qK(a:Nat×Sl×Nat):Sl:=a.2.1
abbrev H9(a:Nat×Sl×Nat):Int:=fG ((↑a.2.2:Int)-1)
attribute [push_cast] qK H9
def Xu(v:bZ)(s:Sl)(m:MH)(h:PH)(K:bo):Prop:=
  qO (λA n=>aA (eZ (kQ (cK v)) 3=eZ (kQ (cK A)) 3) (iF h n A) (cV (eH n) 0 (K (iR (eH n)) m h) (FC (λB u=>aI (eO (kQ (aR s)) (kQ (aR B))) (Leaves h B u) (nO u.length) (dR (decide (Ab u>512)) (K (iR 2) m h) (aH s !=kM v) (K (iR 80) m h) (pN (λI x=>aA (I x) rA (aA (eP 3) (aJ s) (aA (bI s) (bA x) (aA (cG v) (m=m) (bT h h))))) (λI C x=>I x->aY (↑x:Int) (aH s) (bJ (λb o=>aI (aW s.a b o) (0<=(↑x:Int)) ((↑x:Int)<aH s) (∃(y:Sl),aK m h b (o+bM x 1) (aR y)/\∃(I1:Nat×Sl×Nat->Prop)(e:Nat×Sl×Nat->Nat),(∃(c:Nat×Sl×Nat),aA (I1 c) rA (aA (eP 3) (cD x c.1) (aA (aZ y (qK c)) (aJ s) (aA (bI s) (cD x c.1) (aA (aZ y (qK c)) (bN y
 (qK c)) (aA (bA c.2.2) (cG v) (dY m m h h)))))))/\∀(c:Nat×Sl×Nat),I1 c->aY (↑c.2.2:Int) (aH (qK c)) (bJ (λD E=>aI (aW (qK c).a D E) (0<=(↑c.2.2:Int)) ((↑c.2.2:Int)<aH (qK c)) (∃(z:Sl),aK m h D (E+bM c.2.2 1) (aR z)/\qO (λF G=>∃(t:Int),oS (λH r=>aI (cC (cK v) (iR (↑c.1:Int)::iZ z 3)=cC (cK F) (iR t::iZ H 3)) (iF h G F) (bS h H r) (pP (!(aWX G t r)) (K (iR 80) m h) (↑c.2.2:Int) 0 (bJ (λf g=>aI (aW (qK c).a f g) (0<=H9 c) (H9 c<aH (qK c)) (∃(j:Sl),aK m h f (g+gY (H9 c) 1) (aR j)/\qO (λJ L=>∃(M:Int),oS (λO P=>aI (cC (cK v) (fQ (↑c.1:Int) (mQ j))=cC (cK J) (fQ M (mQ O)))
 (iF h L J) (bS h O P) (∀(Q:Sl),bS h Q (Le L M P)->j3 h f g (gY (H9 c) 1) (aR j)/\qO (λR S=>∃(T:Int),oS (λa U=>aI (cC (cK v) (fQ (↑c.1:Int) (mQ z))=cC (cK R) (fQ T (mQ a))) (iF h S R) (bS h a U) (∀(V:Sl),bS h V (Le S T U)->j3 h f g (gY (H9 c) 1) (aR j)/\∃(W:Sl),oS (λX Y=>∃(Z:ca),aI (cJ Q V=cJ W X) (bS h W Y) (bS h X Z) (iA (eW Y Z) 0 (K (iR 80) m h) (∃(d:Nat×Sl×Nat),aA (I1 d) (e d<e c) (aA rA jR (aA (cD c.1 d.1) (aZ (qK c) (qK d)) (aA (aJ s) (bI s) (aA (cD c.1 d.1) (aZ (qK c) (qK d)) (aA (bN (qK c) (qK d)) (gK (bE c.2.2 1)=bO d.2.2) (cZ (cG v) m m h h)))))))))))))))))) (∃
 (d:Nat×Sl×Nat),aA (I1 d) (e d<e c) (aA rA jR (aA (cD c.1 d.1) (aZ (qK c) (qK d)) (aA (aJ s) (bI s) (aA (cD c.1 d.1) (aZ (qK c) (qK d)) (aA (bN (qK c) (qK d)) (gK (bE c.2.2 1)=bO d.2.2) (cZ (cG v) m m h h))))))))))))) (∃(d:Nat),aA (I d) (C d<C x) (aA rA jR (aA (aJ s) (bI s) (aA (gK (bE c.1 1)=bO d) (cG v) (dY m m h h)))))))) (K (iR 0) m h))))))))
theorem bS.cut{a:Option Addr}{len c:Nat}{r:ca}(x:bS h ⟨a,len,c⟩ r){n:Nat}(f:n<=r.length):bS h ⟨a,n,c⟩ (r.take n):=by
 obtain⟨⟨d,e,g,j⟩,o⟩:=x;refine⟨⟨d.take n,by rw[map_take];exact dC.cut e n bg,bg,λi x u=>?_⟩,bg⟩
 grind
theorem cHJ{v:bZ}(d:iF h s v)(c:K (cI (eH s)) m h):Xa v m h K:=
 ⟨v,s,rfl,d,aD (λ_=>c) (λe=>by rw[show eH s=0 by simpa using e]at c;exact c)⟩
theorem aYZ:bm 90 czQ:=by
 refine iQ func90 ?_;rintro c m h K ⟨v,s,rfl,d,e⟩;refine⟨dE [(73,CX)] [] [] [] false,rfl,aE Mu aG,Xa v m h K,ax,?_⟩;exact cHJ d e
theorem Leaves.lens{s:Sl}{st:List br}(c:Leaves h s st){l:br}(d:l∈st):l.length<=502633886983:=by
 obtain⟨i,e,rfl⟩:=mem_iff_getElem.1 d;obtain⟨_,_,_,_,_,f⟩:=bL.at c (getElem?_eq_getElem e);exact f.len
theorem Hp:∀{l:List br},(∀x∈l,x.length<=502633886983)->0<=Ab l/\Ab l<=(l.length:Int)*502633886983
 |[],_=>by simp[Ab]
 |a::l,h=>by
  have e:=h a (mem_cons_self ..);have c:=Hp (l:=l) λx d=>h x (mem_cons_of_mem _ d);simp only[Ab,map_cons,sum_cons,length_cons]at c⊢
  omega
theorem anZ{st:List br}{l:br}(h:st[i]? =some l):Ab (st.take (i+1))=Ab (st.take i)+(l.length:Int):=by
 rw[take_add_one,h];simp[Ab]
theorem aYX:bm 91 aMJ:=by
 refine iQ func91 ?_;rintro A m h K ⟨s,c,rfl,f,J,B⟩;refine⟨b9J s m h,rfl,aG,W9 s m h K,ax,?_⟩;dsimp only[W9,push_cast];have g:=bL.slen f;refine⟨λz=>z.1<=c.length/\z.2=Ab (c.take z.1),λz=>c.length-z.1,⟨(0,0),⟨ay,by simp[Ab]⟩,MT⟩,?_⟩;rintro⟨i,n⟩ ⟨C,e⟩;dsimp only at C e⊢
 subst e;refine aF (λj=>?_) (λD=>?_)
 .obtain⟨l,d⟩:=eV g j;obtain⟨b,o,u,E,rd,F⟩:=bL.at f d;have y:=bL.slen F;have G:=Hp (l:=c.take (i+1)) λx d=>f.lens (mem_of_mem_take d);have H:=(Hp (l:=c.take i) λx d=>f.lens (mem_of_mem_take d)).1;have I:=anZ d;rw[length_take]at G;refine⟨b,o,E,aC,aC,u,.imm rd,(i+1,Ab (c.take (i+1))),⟨aC,rfl⟩,aC,?_⟩;rw[fB aC aC,y, <-I];exact MT
 .rw[take_of_length_le aC];exact B
theorem Hm{t:Am}{r:ca}:EO t r=true↔r.length=t.columns.length/\∀i,i<r.length->BY t.key (t.columns.getD i ⟨⟨#[]⟩,0⟩).kind i (r.getD i zeroV)=true:=by
 simp only[EO,Bool.and_eq_true,decide_eq_true_eq,all_eq_true,mem_range]
theorem W3{t:Int}{r:ca}{c:Am}(d:s.tables[t.toNat]? =some c)(h:AA s t=true):aWX s t r=EO c r:=by
 simp only[aWX,h,d,Bool.true_and]
theorem aYQ:bm 92 cAQ:=by
 refine iQ func92 ?_;rintro a' m h K ⟨v,s,t,L,r,rfl,M,O,C⟩;refine⟨b9Z,rfl,aE Rb (aE Jy aG),W8 v t L m h K,ax,?_⟩;dsimp only[W8,push_cast];have a0:=M.tables.slen;have a1:=bL.slen O;refine⟨v,s,t,rfl,M,aD (λe=>?_) (λe=>?_)⟩
 .have e:AA s t=false:=bk e
  simp only[aWX,e,Bool.false_and]at C;exact C
 have e:AA s t=true:=bk e
 have Z:=e;simp only[AA,Bool.and_eq_true,decide_eq_true_eq]at Z;obtain⟨d,E⟩:∃d,s.tables[t.toNat]? =some d:=⟨_,getElem?_eq_getElem aC⟩
 obtain⟨b,o,y,ea,rd,P⟩:=bL.at M.tables E;rw[W3 E e]at C;have a2:=bL.slen P.columns;have hk:=P.key;refine⟨b,o,ea,Z.1,aC,y,.imm rd,aD (λH=>?_) (λH=>?_)⟩
 .have:EO d r=false:=by
   cases f:EO d r with
   |false=>rfl
   |true=>
    have:=(Hm.1 f).1
    grind
  rw[this]at C;exact C
 have Q:r.length=d.columns.length:=bg
 have bad:∀i,i<r.length->BY d.key (d.columns.getD i ⟨⟨#[]⟩,0⟩).kind i (r.getD i zeroV)=false->K (cB false) m h:=λi R F=>by
  have:EO d r=false:=by
   cases f:EO d r with
   |false=>rfl
   |true=>rw[(Hm.1 f).2 i R]at F;cases F
  grind
 refine⟨λz=>z.2.1=y/\z.2.2.1=L/\z.2.2.2.1=m/\z.2.2.2.2=h/\z.1<=r.length/\∀j,j<z.1->BY d.key (d.columns.getD j ⟨⟨#[]⟩,0⟩).kind j (r.getD j zeroV)=true,λz=>r.length-z.1,⟨(0,y,L,m,h),⟨rfl,rfl,rfl,rfl,ay,λj S=>by simp at S⟩,MT⟩,?_⟩;rintro⟨i,n,A,m',h'⟩ ⟨H,f,I,J,R,B⟩;dsimp only at H f I J R B⊢
 subst H f I J;refine aF (λa3=>?_) (λa4=>?_)
 .have T:i<r.length:=by omega
  have hx:r[i]? =some (r.getD i zeroV):=bg
  obtain⟨b2,o2,x,U,G,V⟩:=bL.at O hx;subst V;have hc:d.columns[i]? =some (d.columns.getD i ⟨⟨#[]⟩,0⟩):=bg
  obtain⟨b3,o3,c,W,X,Y⟩:=bL.at P.columns hc;have g:=bad i T
  have u:BY d.key (d.columns.getD i ⟨⟨#[]⟩,0⟩).kind i (r.getD i zeroV)=true->∀j,j<i+1->BY d.key (d.columns.getD j ⟨⟨#[]⟩,0⟩).kind j (r.getD j zeroV)=true:=λF j S=>by
   grind
  generalize r.getD i zeroV=x at g u G hx;rw[Y]at g u;have go:BY d.key c.kind i x=true->∃z:Nat×cW×Sl×MH×PH,(z.2.1=n/\z.2.2.1=A/\z.2.2.2.1=m'/\z.2.2.2.2=h'/\z.1<=r.length/\∀j,j<z.1->BY d.key (d.columns.getD j ⟨⟨#[]⟩,0⟩).kind j (r.getD j zeroV)=true)/\r.length-z.1<r.length-i/\z=(i+1,n,A,m',h'):=λF=>⟨_,⟨rfl,rfl,rfl,rfl,aC,u F⟩,aC,rfl⟩
  refine⟨b2,o2,U,aC,aC,x,.imm G,x,rfl,aD (λev=>g ?_) (λev=>?_)⟩
  .have ev:kA x=false:=bg
   simp[BY,ev]
  have ev:kA x=true:=bg
  refine⟨λz=>z=(i,n,x,A,(x.kind==2&&decide ((i:Int)>=n.key)),m',h'),aD (λf=>⟨_,rfl,by rw[f];exact MT⟩) (λf=>⟨_,rfl,by rw[f];exact MT⟩),?_⟩;rintro _ rfl;dsimp only;refine⟨λz=>z=(i,n,x,A,(x.kind==2&&decide ((i:Int)>=n.key)),(x.kind==1&&decide ((i:Int)>=n.key)),m',h'),aD (λf=>⟨_,rfl,by rw[f];exact MT⟩) (λf=>⟨_,rfl,by rw[f];exact MT⟩),?_⟩;rintro _ rfl;dsimp only
  have D:BY d.key c.kind i x=(x.kind==c.kind||((x.kind==2&&decide ((i:Int)>=n.key))||(x.kind==1&&decide ((i:Int)>=n.key)))):=by
   rw[hk];simp only[BY,ev,Bool.true_and,ge_iff_le,Bool.and_or_distrib_right]
  generalize a5:(x.kind==2&&decide ((i:Int)>=n.key))=B1 at D⊢
  generalize a6:(x.kind==1&&decide ((i:Int)>=n.key))=B2 at D⊢
  refine⟨b3,o3,W,aC,aC,c.kind,.imm (cO.part X 1 1),aD (λI=>aD (λJ=>aD (λe5=>g ?_) (λe5=>?_)) (λJ=>?_)) (λI=>?_)⟩
  .grind
  all_goals
   obtain⟨_,g1,g2,rfl⟩:=go (by rw[D];simp_all);refine⟨_,g1,g2,?_⟩;dsimp only;rw[iS (by have:=bL.len O;omega)];exact MT
 .have:EO d r=true:=Hm.2 ⟨Q,λj S=>B j aC⟩;rw[this]at C;exact C
theorem aXJ:bm 94 aJQ:=by
 refine iQ func94 ?_;rintro D m h K ⟨v,s,t,z,r,rfl,A,n,B⟩;refine⟨dE [] [] [] [] false,rfl,aG,W7 v t z m h K,ax,?_⟩;dsimp only[W7,push_cast];have E:=A.tables.slen;have d:=bL.slen n;have c:AA s t=false->K EZ m h:=λe=>B ⟨none,0,0⟩ (by simp only[Le,e];exact bL.nil _ _ _ _);refine aF (λF=>c (by simp[AA];omega)) (λF=>aF (λG=>c (by simp[AA];omega)) (λG=>?_));have e:AA s t=true:=by simp[AA];omega
 obtain⟨f,g⟩:∃f,s.tables[t.toNat]? =some f:=⟨_,getElem?_eq_getElem aC⟩
 obtain⟨b,o,y,H,rd,I⟩:=bL.at A.tables g;have M:=I.key;obtain⟨a,len,j⟩:=z;have C:len<=j:=by obtain⟨O,J,_⟩:=n.ex;exact J.cap
 have d:len=r.length:=d
 have u:(if(if(len:Int)<y.key then(len:Int)else y.key)>0 then(if(len:Int)<y.key then(len:Int)else y.key)else 0)=max 0 (min f.key r.length):=by
  omega
 refine⟨b,o,H,aC,aC,y.key,.imm (cO.part rd 2 1),?_⟩;dsimp only;rw[u];refine⟨aC,aC,B ⟨a,(max 0 (min f.key r.length)).toNat,j⟩ ?_⟩;have L:Le s t r=r.take (max 0 (min f.key r.length)).toNat:=by simp only[Le,e,if_true,g];rfl
 rw[L];exact n.cut aC
theorem Ip{t:Nat}{c:Am}(h:s.tables[t]? =some c)(r:ca):Le s t r=oY c r:=by
 have:t<s.tables.length:=(List.getElem?_eq_some_iff.1 h).1;have e:AA s (t:Int)=true:=by simp[AA];omega
 simp only[Le,e,if_true,Int.toNat_natCast,h]
theorem aAZ{t:Nat}{c:Am}(h:s.tables[t]? =some c)(r:ca):aWX s t r=EO c r:=by
 have:t<s.tables.length:=(List.getElem?_eq_some_iff.1 h).1;have e:AA s (t:Int)=true:=by simp[AA];omega
 exact W3 (bk h) e
theorem SM:bm 49 Hs:=by
 refine iQ func49 ?_;rintro b' m h K ⟨v,s,X,G,rfl,L,Y,Z,d⟩;refine⟨cgX v X m h,rfl,aE aYZ (aE aYX (aE aYQ (aE aXJ (aE ES aG)))),Xu v X m h K,ax,?_⟩;dsimp only[Xu,push_cast];have b0:=L.tables.slen;have a':=bL.slen Y;unfold kJ at d;refine⟨v,s,rfl,L,aD (λe=>?_) (λe=>⟨X,G,rfl,Y,Z,aF (λH=>?_) (λH=>aD (λe3=>?_) (λe3=>?_))⟩)⟩
 .rw[if_pos (bk e)]at d;exact d
 all_goals rw[if_neg (bk e)]at d
 .rw[if_pos (by unfold Ab at H;omega)]at d;exact d
 all_goals rw[if_neg (by unfold Ab at H;omega)]at d
 .rw[if_pos bg]at d;exact d
 have M:G.length=s.tables.length:=bg
 rw[if_neg (by simp[M])]at d;have bad:¬Pw s G->K (cI 80) m h:=λhb=>bg
 refine⟨λi=>i<=G.length/\∀(j:Nat) t l,j<i->s.tables[j]? =some t->G[j]? =some l->auJ t l,λi=>G.length-i,⟨0,⟨ay,λj t l hj=>by omega⟩,MT⟩,?_⟩;rintro i ⟨hi,O⟩;refine aF (λa0=>?_) (λb1=>?_)
 .obtain⟨l,hx⟩:=eV a' a0;obtain⟨b,o,u,ea,rd,I⟩:=bL.at Y hx;have a1:=bL.slen I;have b4:=bL.len I;obtain⟨y,c⟩:∃y,s.tables[i]? =some y:=⟨_,getElem?_eq_getElem aC⟩
  have A:¬auJ y l->K (cI 80) m h:=λhb=>bad λf=>hb (f i y l c hx);refine⟨b,o,ea,aC,aC,u,.imm rd,λz=>z.1=i/\z.2.1=u/\z.2.2<=l.length/\(∀k r,k<z.2.2->l[k]? =some r->EO y r=true)/\∀k r J,k+1<z.2.2->l[k]? =some r->l[k+1]? =some J->eW (oY y r) (oY y J)<0,λz=>l.length-z.2.2,⟨(i,u,0),⟨rfl,rfl,ay,λk r D=>by simp at D,λk r J D=>by simp at D⟩,MT⟩,?_⟩;rintro⟨E,u',j⟩ ⟨e1,H,hj,B,C⟩;dsimp only at e1 H hj B C⊢
  subst e1 H;refine aF (λP=>?_) (λa9=>?_)
  .obtain⟨r,Q⟩:=eV a1 P;obtain⟨b2,o2,w,a2,a3,hv⟩:=bL.at I Q;refine⟨b2,o2,a2,aC,aC,w,.imm a3,v,s,E,w,r,rfl,L,hv,aD (λV=>A λf=>?_) (λV=>?_)⟩
   .rw[aAZ c,f.1 r (mem_of_getElem? Q)]at V;cases V
   have hf:EO y r=true:=by rw[aAZ c]at V;grind
   have g:∀k r,k<j+1->l[k]? =some r->EO y r=true:=λk J D b5=>by
    grind
   refine aF (λa4=>?_) (λa4=>?_)
   .have hw:IntKind.i64.wrap ((j:Int)-1)=((j-1:Nat):Int):=by rw[fB aC aC];omega
    obtain⟨W,R⟩:∃W,l[j-1]? =some W:=⟨_,getElem?_eq_getElem aC⟩
    obtain⟨b3,o3,w3,a5,F,a6⟩:=bL.at I R;rw[hw];refine⟨b3,o3,a5,aC,aC,w3,.imm F,v,s,E,w3,W,rfl,L,a6,λs1 a7=>⟨F,v,s,E,w,r,rfl,L,hv,λs2 a8=>⟨F,s1,s2,_,_,rfl,a7,a8,aF (λhc=>A λf=>?_) (λhc=>?_)⟩⟩⟩
    .rw[Ip c,Ip c]at hc;have:=f.2 (j-1) W r R bg;omega
    .rw[Ip c,Ip c]at hc;refine⟨(E,u',j+1),⟨rfl,rfl,bg,g,λk r1 r2 D S T=>?_⟩,bg,?_⟩
     .grind
     .dsimp only;rw[iS aC];exact MT
   .refine⟨(E,u',j+1),⟨rfl,rfl,bg,g,λk r1 r2 D S T=>bg⟩,bg,?_⟩;dsimp only;rw[iS aC];exact MT
  .refine⟨E+1,⟨aC,λk t l' D ht U=>?_⟩,aC,?_⟩
   .by_cases e5:k=E
    .subst e5;rw[c]at ht;cases ht;rw[hx]at U;cases U;refine⟨λr I=>?_,λk r J S T=>C k r J ?_ S T⟩
     .obtain⟨n,Z,rfl⟩:=mem_iff_getElem.1 I;exact B n _ aC (getElem?_eq_getElem Z)
     grind
    grind
   .rw[iS aC];exact MT
 .rw[if_pos]at d
  .exact d
  .exactλj t l S T=>O j t l bg S T
noncomputable def boX(s:jQ)(st:List br)(q:Query):br×Int:=
 if(fI s [] q).2≠0 then([],(fI s [] q).2)else if kJ s st≠0 then([],kJ s st)else(nW st q,0)
def b2Q(st:List br)(q:Query):Prop:=∃c,1<=c/\(∀l∈st,l.length<=c)/\gI c q<=8000000
structure GK(h:PH)(sl:Sl)(st:List br):Prop where
 lea:Leaves h sl st
 len:st.length<=1000
 val:StV st
theorem GK.mono{sl:Sl}{st:List br}(x:GK h sl st)(le:PH.le h h'):GK h' sl st:=⟨bL.mono x.lea le λl s c=>bL.mono c le λr t d=>bS.mono d le,x.len,x.val⟩
def cRX:Vc.Spec:=λd m h K=>∃v s e c w q,d=[aS v,aSt e,aQ w]/\iF h s v/\GK h e c/\dG h q w/\nI q=true/\eA m/\((fI s [] q).2=0->kJ s c=0->b2Q c q)/\∀f h',PH.le h h'->Rows h' f (boX s c q).1->K (.tup [cS f,cI (boX s c q).2]) m h'
noncomputable def ckZ(w:QV)(sl:Sl):Ctx:=dE [(37,BI),(49,Hs),(59,arQ),(60,VB)] [(10,{A:=Nat×bx×Sl×MH×PH,st:=λ⟨i,c,s,m,h⟩=>bU 54 57 [(4,.at (.ptr 4 0)),(5,.at (.ptr 5 0)),(12,.at (.lst 34)),(35,sv s),(36,iv s.len),(37,iv i)] [(4,.cells 52 [.val (.slice sl.a sl.len sl.cap)]),(5,.cells 41 (w.enc.map .val)),(34,.lst 58 1 (c.map eS))] m h})] [] [] false
abbrev DS(a:Sl):Prop:=eQ (oQ 52 (wA (yG a)))
abbrev KB(a:Sl)(b:bx):Prop:=bR 58 1 (wG (aH a) fW)=mV 58 b
abbrev Pa(a:(List br)->Query->Prop):Prop:=∃(x:List br)(c:Query),a x c
attribute [push_cast] DS KB Pa
def XS(v:bZ)(sl:Sl)(w:QV)(m:MH)(h:PH)(K:bo):Prop:=
  KC v w h (λs p q d=>cV (yS s p q) 0 (K (CV.tup (tO EZ (CV.val (fV (yS s p q))))) m d) (qO (λD u=>FC (λE n=>aA (cC (cK v) (fQ 3 (kQ (aR sl)))=cC (cK D) (fQ 3 (kQ (aR E)))) (iF d u D) (aA (Leaves d E n) (nO n.length) (cV (kJ u n) 0 (bW K (kJ u n) m d) (oW (λF z=>aI (eO (cA w) (cA F)) (dG d z F) (lO z<=900000) (∀(f:Sl)(A:PH),bQ d A (Ints A f (dW z)) (Bc f 24 (OY (λI x=>aA (I x) (eP 4) (aA (eP 5) (eL 34) (aA (aZ f (gU x)) (bN f (gU x)) (aA (bA x.1) (DS sl) (aA (eJ w) (KB f x.2.1) (aA (dJ m (j5 x)) (fC A (j5 x)) True)))))) (λI G x=>I x->aY (↑x.1:Int) (aH (gU x)) (bJ (λb o=>aI (aW (gU x).a b o) (0<=
 (↑x.1:Int)) ((↑x.1:Int)<aH (gU x)) (∃(y:Int),aK (j5 x).1 (rH x) b (o+bM x.1 1) (bB y)/\bJ (λH J=>aI (aW sl.a H J) (0<=y) (y<aH sl) (∃(L:Sl),Cy (aK (j5 x).1 (rH x) H (J+gY y 1) (aR L)) 0 (↑x.1:Int) (rE x) (λe=>Qh (mI (rE x) (lD x.1) e) (xB e) (λc=>aA (I c) (G c<G x) (aA (eP 4) eN (aA (eL 34) (aZ (gU x) (gU c)) (aA (bN (gU x) (gU c)) (gK (bE x.1 1)=bO c.1) (aA (DS sl) (eJ w) (aA (bR 58 1 (List.set (rE x) (lD x.1) (By (dP L) 1 e))=mV 58 c.2.1) (fJ (j5 x) (j5 c)) (kZ (dA (j5 x) (j5 c))))))))))))))) (bY (rH x) 1 (rE x) (λP B=>∃(l:Sl)(M:QV),Pa (λg j=>aA (fZ P (cA w)=fZ l (cA M))
 (Leaves B l g) (aA (dG B j M) (Y0 g j 0) (aI (eA (j5 x).1) (Au (iO g j 0).1) (HW (iO g j 0).1 (λr=>Eh r)) (∀(O:Sl)(C:PH),bQ B C (Rows C O (iO g j 0).1) (lI K O 0 (j5 x).1 C)))))))))))))))))))
mutual
theorem CL:∀q:Query,(dW q).length<=lO q
 |.mk op ta _ _ _ _ _ _ args=>by
  have:=PK args;rw[dW,lO,length_append]
  grind
theorem PK:∀c:ce,(eD c).length<=kT c
 |[]=>by simp[eD,kT]
 |q::c=>by
  have:=CL q;have:=PK c;rw[eD,kT,length_append];omega
end
theorem a8X:bm 23 cRX:=by
 refine iQ func23 ?_;rintro a7 m h K ⟨v,s,Q,B,w,q,rfl,hs,f,R,I,hT,hb,g⟩;refine⟨ckZ w Q,rfl,aE Gi (aE SM (aE aj (aE SL aG))),XS v Q w m h K,ax,?_⟩;dsimp only[XS,push_cast];unfold boX at g;refine⟨v,cE,w,s,[],q,rfl,hs,mY h,R,I,λa8 h1 d _=>aD (λe=>?_) (λe=>?_)⟩
 .rw[if_pos (bk e)]at g;exact g ⟨none,0,0⟩ h1 d (bL.nil _ _ _ _)
 have e:(fI s [] q).2=0:=bk e
 rw[if_neg (by simp[e])]at g;refine⟨v,s,Q,B,rfl,hs.mono d,(f.mono d).lea,f.len,aD (λG=>?_) (λG=>?_)⟩
 .rw[if_pos bg]at g;exact g ⟨none,0,0⟩ h1 d (bL.nil _ _ _ _)
 have G:kJ s B=0:=bg
 rw[if_neg (by simp[G])]at g;dsimp only at g;obtain⟨c,c1,c2,c3⟩:=hb e G;obtain⟨_,_,_,S⟩:=Bw e;have J:aL s [] q=((aL s [] q).1,0):=Prod.ext rfl S;obtain⟨ok,ev,T,len⟩:=PG G f.val c2 c1 J c3;have a4:=HE I;have U:=CL q;have L:=EF J;have a9:=(Pz G).2.1;refine⟨w,q,rfl,R.mono d,aC,λV W C X=>?_⟩;have M:=X.slen;have y:=f.mono (d.trans C);have a5:=bL.slen y.lea;generalize D:dW q=ts at X M U L;refine⟨aC,aC,aC,aC,λz=>z.1<=ts.length/\z.2.2.1=V/\z.2.2.2.1=m/\z.2.2.2.2=W/\∃H,z.2.1=H++replicate (ts.length-z.1) ⟨none,0,0⟩/\H.length=z.1/\∀(j:Nat) u t,H[j]? =some u->ts[j]? =some t->Rows W u (B.getD t.toNat []),λz=>ts.length-z.1,⟨(0,replicate ts.length ⟨none,0,0⟩,V,m,W),⟨ay,rfl,rfl,rfl,[],ay,rfl,λj u t h=>by simp at h⟩,?_⟩,?_⟩
 .rw[show((V.len:Int)).toNat=ts.length by omega];dsimp only;rw[map_replicate];exact MT
 rintro⟨i,l,s2,m2,h3⟩ ⟨Y,e3,e4,e5,H,O,E,A⟩;dsimp only at Y e3 e4 e5 O E A⊢
 subst e3 e4 e5;refine aF (λZ=>?_) (λb'=>?_)
 .obtain⟨t,F⟩:=eV M Z;obtain⟨b,o,ea,rd⟩:=X.at' F;have ht:=L t (mem_of_getElem? F);have b0:t.toNat<B.length:=by omega
  have e6:B[t.toNat]? =some (B.getD t.toNat []):=bg
  obtain⟨b2,o2,u,a',a0,P⟩:=bL.at y.lea e6;have b1:l.length=ts.length:=bg
  have a1:l[i]? =some ⟨none,0,0⟩:=by
   grind
  refine⟨b,o,ea,aC,aC,t,.imm rd,b2,o2,a',ht.1,aC,u,.imm a0,aC,bg,[oM],by rw[getElem?_map,show((i:Int)).toNat=i from rfl,a1];rfl,ay,(i+1,l.set i u,s2,m2,h3),⟨aC,rfl,rfl,rfl,H++[u],?_,by simp[E],λj u' t' h7 h8=>?_⟩,aC,?_⟩
  .dsimp only;rw[O,set_append,if_neg aC,append_assoc];congr 1;rw[show ts.length-i=(ts.length-(i+1))+1 by omega,replicate_succ,show i-H.length=0 by omega];rfl
  .grind
  .dsimp only
   have e9:((l.map eS).set ((i:Int)).toNat (dP u::List.drop 1 [oM]))=(l.set i u).map eS:=by
    rw[map_set];rfl
   rw[e9,iS aC];exact MT
 .have:i=ts.length:=by omega
  subst this;rw[Nat.sub_self,replicate_zero,append_nil]at O;subst O;intro s3 h4 n a2;refine⟨s3,w,jO B q,q,rfl,⟨⟨l,a2,by rw[jO,length_map,D,E],λi x F=>?_⟩,by rw[jO,length_map,D];omega⟩,R.mono ((d.trans C).trans n),ok,hT,bg,λr P=>?_,λs5 h5 a3 P=>g s5 h5 (((d.trans C).trans n).trans a3) bg⟩
  .rw[jO,D,getElem?_map]at F;cases e7:ts[i]? with
   |none=>grind
   |some t=>
    rw[e7]at F;simp only[Option.map_some,Option.some.injEq]at F;subst F;have a6:=(List.getElem?_eq_some_iff.1 e7).1;exact⟨l[i],getElem?_eq_getElem aC,bL.mono (A i _ t (getElem?_eq_getElem aC) e7) n λr t hv=>bS.mono hv n⟩
  .rw[ev]at P;have:=(T.row r P).len;omega
noncomputable def oP(st:List br)(ts:cg):List br:=(List.range ts.length).map λi=>nW st (aU ts i)
structure IM(s:jQ)(st:List br)(ts:cg):Prop where
 ar:∀(i:Nat) t,ts[i]? =some t->0<=arity t.op
 fit:∀(i:Nat) t,ts[i]? =some t->pW i t
 kinds:∀i,i<ts.length->(aL s [] (aU ts i)).2=0
 bnd:∃c,1<=c/\(∀l∈st,l.length<=c)/\∀i,i<ts.length->gI c (aU ts i)<=8000000
def cRQ:Vc.Spec:=λd m h K=>∃sc e p r s c ts rs,d=[aS sc,aSt e,aPl p r]/\iF h s sc/\GK h e c/\rJ h p r ts rs/\eA m/\(jD s ts rs=0->kJ s c=0->IM s c ts)/\
 (jD s ts rs≠0->K (.tup [EZ,cI (jD s ts rs)]) m h)/\(jD s ts rs=0->kJ s c≠0->K (.tup [EZ,cI (kJ s c)]) m h)/\(jD s ts rs=0->kJ s c=0->∀f h',PH.le h h'->Leaves h' f (oP c ts)->K (.tup [cS f,cI 0]) m h')
noncomputable def cpQ(sl p:Sl):Ctx:=dE [(48,Ry),(49,Hs),(50,YE),(51,Uk)] [(9,{A:=Nat×bx×MH×PH,st:=λ⟨i,c,m,h⟩=>bU 85 88 [(4,.at (.ptr 4 0)),(11,.at (.lst 34)),(36,sv p),(37,iv p.len),(38,iv i)] [(4,.cells 52 [.val (.slice sl.a sl.len sl.cap)]),(34,.lst 58 1 (c.map eS))] m h}),
 (16,{A:=Nat×Nat×bx×MH×PH,st:=λ⟨i,n,c,m,h⟩=>bU 85 88 [(11,.at (.lst 34)),(71,.at (.lst 34)),(72,iv n),(73,iv i)] [(34,.lst 58 1 (c.map eS))] m h})] [] [] false
abbrev kU(a:Nat×bx×MH×PH):MH×PH:=a.2.2
abbrev tB(a:Nat×bx×MH×PH):Nat->Nat->Option Value:=(kU a).2
abbrev rP(a:Nat×bx×MH×PH):List bt:=gH a.2.1
abbrev O3(a:Nat×bx×MH×PH)(b:bt)(c:(Nat×bx×MH×PH)->Prop):Prop:=aA (mI (rP a) (lD a.1) b) (xB b) (∃(x:Nat×bx×MH×PH),c x)
attribute [push_cast] kU tB rP O3
def Q6(sc:bZ)(sl p r:Sl)(m:MH)(h:PH)(K:bo):Prop:=
  ∃(s:bZ),qP (λG H=>∃(D:jQ)(t:cg)(E:bn),aI (eF (cK sc) (kQ (jX (dP p) (dP r)))=eF (cK s) (kQ (jX (dP G) (dP H)))) (iF h D s) (rJ h G H t E) (∀(_:Sl),cV (jD D t E) 0 (bW K (jD D t E) m h) (qO (λv F=>FC (λJ A=>aA (cC (cK sc) (fQ 3 (kQ (aR sl)))=cC (cK v) (fQ 3 (kQ (aR J)))) (iF h F v) (aA (Leaves h J A) (nO A.length) (cV (kJ F A) 0 (bW K (kJ F A) m h) (Bc p 24 (∃(I:Nat×bx×MH×PH->Prop)(B:Nat×bx×MH×PH->Nat),(∃(x:Nat×bx×MH×PH),aA (I x) (eP 4) (aA (eL 34) (aJ p) (aA (bI p) (bA x.1) (aA (DS sl) (KB p x.2.1) (aA (dJ m (kU x)) (fC h (kU x)) True)))))/\∀(x:Nat×bx×MH×PH),I x->aY (↑x.1
 :Int) (aH p) (bJ (λb o=>aI (aW p.a b o) (0<=(↑x.1:Int)) ((↑x.1:Int)<aH p) (∃(y:wQ),aK (kU x).1 (tB x) b (o+bM x.1 22) y.enc/\eU y.op 1 (bJ (λL M=>aI (aW sl.a L M) (0<=y.table) (y.table<aH sl) (∃(n:Sl),Cy (aK (kU x).1 (tB x) L (M+gY y.table 1) (aR n)) 0 (↑x.1:Int) (rP x) (λe=>O3 x e (λc=>aA (I c) (B c<B x) (aA (eP 4) (eL 34) (aA (aJ p) (bI p) (aA (gK (bE x.1 1)=bO c.1) (DS sl) (aI (bR 58 1 (List.set (rP x) (lD x.1) (By (dP n) 1 e))=mV 58 c.2.1) (fJ (kU x) (kU c)) (dA (kU x) (kU c)) True))))))))) (pE y.left (rP x) (λe=>mI (rP x) y.left.toNat e/\∃(n:Sl),Cy (tW 1 e (aR n)) 0 y.right (rP x) (λj=>mI (rP x)
 y.right.toNat j/\∃(O:Sl),tW 1 j (aR O)/\Qf (λP d=>Qc (λu z l C=>aA (cC y.enc (cJ n O)=cC P.enc (cJ u z)) (uO (tB x) d P) (aA (Rows (tB x) u l) (Rows (tB x) z C) (aA (eA (kU x).1) (2<=d.op) (aA (d.op<=10) (P5 d.op (Query.mk d.op d.table d.wher d.columns d.on d.group d.order d.limit []) [l,C]) (aA (Au l) (Au C) (∀(Q:Sl)(f:PH),bQ (tB x) f (Rows f Q (GH d.op (Query.mk d.op d.table d.wher d.columns d.on d.group d.order d.limit []) [l,C])) (pE (↑x.1:Int) (rP x) (λR=>O3 x R (λc=>aA (I c) (B c<B x) (aA (eP 4) (eL 34) (aA (aJ p) (bI p) (aA (gK (bE x.1 1)=bO c.1) (DS sl) (aI (bR 58 1 (List.set (rP x) (lD x.1) (By (dP Q) 1 R))=mV 58 c.2.1) (fJ
 (kU x) (kU c)) (fC f (kU c)) True)))))))))))))))))))) (∃(I1:Nat×Nat×bx×MH×PH->Prop)(S:Nat×Nat×bx×MH×PH->Nat),(∃(c:Nat×Nat×bx×MH×PH),aA (I1 c) (eL 34) (aA (eL 34) (cD (rP x).length c.2.1) (aA (bA c.1) (mV 58 x.2.1=mV 58 c.2.2.1) (aA (fJ (kU x) (kU c.2)) (dA (kU x) (kU c.2)) True))))/\∀(c:Nat×Nat×bx×MH×PH),I1 c->aY (↑c.1:Int) (↑c.2.1:Int) (pE (↑c.1:Int) (rP c.2) (λe=>mI (rP c.2) (lD c.1) e/\∃(y:Sl),tW 1 e (aR y)/\∃(u:Sl)(l:br),aA (vG (mQ y)=vG (mQ u)) (Rows (tB c.2) u l) (aA (Au l) (∀(T:ca),List.Mem T l->Eh T) (∀(z:Sl)(f:PH),bQ (tB c.2) f (Rows f z l) (pE (↑c.1:Int) (rP c.2) (λj=>
 aA (mI (rP c.2) (lD c.1) j) (xB j) (∃(g:Nat×Nat×bx×MH×PH),aA (I1 g) (S g<S c) (aA (eL 34) (eL 34) (aA (cD c.2.1 g.2.1) (gK (bE c.1 1)=bO g.1) (aA (bR 58 1 (List.set (rP c.2) (lD c.1) (By (dP z) 1 j))=mV 58 g.2.2.1) (fJ (kU c.2) (kU g.2)) (kZ (fC f (kU g.2))))))))))))) (tY (tB c.2) (rP c.2) K (kU c.2).1)))))))))))
theorem L2(st:List br):∀l,DA st l=l.map (nW st)
 |[]=>by simp[DA]
 |q::l=>by rw[DA,L2 st l];rfl
theorem bqJ{op o:Int}{w:Pred}{on:bu}{args:ce}{ls:List br}:GH op (.mk o ta w co on gr od li args) ls=GH op (.mk o ta w co on gr od li []) ls:=rfl
theorem Sm{op o:Int}{w:Pred}{on:bu}{args:ce}{ls:List br}:P5 op (.mk o ta w co on gr od li args) ls=P5 op (.mk o ta w co on gr od li []) ls:=rfl
theorem blZ{st:List br}{ts:cg}(ok:CJ ts){i:Nat}{t:Step}(c:ts[i]? =some t)(d:t.op≠1):nW st (aU ts i)=GH t.op t.query ((BF t).map λa=>nW st (aU ts a.toNat)):=by
 rw[qT ok c,nW,if_neg d,L2,Dh,map_map];exact bqJ
theorem brX{st:List br}{op:Int}{w:Pred}{on:bu}{args:ce}{ks:bn}{c:Nat}(e:kJ s st=0)(g:StV st)(n:∀l∈st,l.length<=c)(o:1<=c)(f:aL s ps (.mk op ta w co on gr od li args)=(ks,0))(u:gI c (.mk op ta w co on gr od li args)<=8000000)(d:op≠1):
 P5 op (.mk op ta w co on gr od li args) (DA st args):=by
 have x:=(PG e g n o f u).1;rw[Y0,if_neg d]at x;obtain⟨z,A,_,_⟩:=xY f;have B:dW (.mk op ta w co on gr od li args)=eD args:=by simp[dW,d]
 have y:=JA (st:=st) (ls:=jO st (.mk op ta w co on gr od li args)) (k:=0) A ⟨λj t h=>by
  rw[getD_eq_getElem?_getD,Nat.zero_add,jO,B,getElem?_map,h];rfl⟩
 grind
theorem b5Z{c d:br}(h:arity t.op=1):GH t.op t.query [c,d]=GH t.op t.query [c]:=by
 obtain⟨op,ta,w,co,on,gr,od,li,a,b⟩:=t;have h:arity op=1:=h
 have:op=2\/op=3\/op=9:=by
  unfold arity at h
  grind
 rcases this with rfl|rfl|rfl<;>rfl
theorem brQ{d e:br}(h:arity t.op=1)(x:P5 t.op t.query [d])(f:∃w,iG w e):P5 t.op t.query [d,e]:=by
 obtain⟨op,ta,w,co,on,gr,od,li,a,b⟩:=t;have h:arity op=1:=h
 have:op=2\/op=3\/op=9:=by
  unfold arity at h
  grind
 rcases this with rfl|rfl|rfl
 .obtain⟨_,c⟩:=x;refine⟨ay,λl g=>?_⟩
  grind
 .obtain⟨_,c⟩:=x;exact⟨ay,c⟩
 .obtain⟨_,c⟩:=x;exact⟨ay,c⟩
theorem bqZ{op:Int}(h:0<arity op):2<=op/\op<=10:=by
 unfold arity at h
 grind
theorem cKJ{sl p:Sl}{st:List br}(hs:iF h s sc)(C:GK h sl st)(x:rJ h p r ts rs)(hT:eA m)(hb:jD s ts rs=0->kJ s st=0->IM s st ts)
 (k1:jD s ts rs≠0->K (.tup [EZ,cI (jD s ts rs)]) m h)(k2:jD s ts rs=0->kJ s st≠0->K (.tup [EZ,cI (kJ s st)]) m h)(k3:jD s ts rs=0->kJ s st=0->∀A h',PH.le h h'->Leaves h' A (oP st ts)->K (.tup [cS A,cI 0]) m h'):Q6 sc sl p r m h K:=by
 dsimp only[Q6,push_cast];obtain⟨a7,_⟩:=x.slen;have b8:=x.len;refine⟨sc,p,r,s,ts,rs,rfl,hs,x,λkk=>aD (λe=>k1 (bk e)) (λe=>?_)⟩;have e1:jD s ts rs=0:=bk e
 refine⟨sc,s,sl,st,rfl,hs,C.lea,C.len,aD (λe=>k2 e1 (bk e)) (λe=>?_)⟩;have V:kJ s st=0:=bk e
 have B:=hb e1 V;obtain⟨c,W,X,Y⟩:=B.bnd;have ok:CJ ts:=λi t e=>⟨B.ar i t e,Lj (B.ar i t e) (B.fit i t e)⟩
 have kq:∀j,j<ts.length->aL s [] (aU ts j)=((aL s [] (aU ts j)).1,0):=λj D=>Prod.ext rfl (B.kinds j D);have R:∀j,j<ts.length->∃w,iG w (nW st (aU ts j)):=λj D=>⟨_,(PG V C.val X W (kq j D) (Y j D)).2.2.1⟩
 refine⟨aC,aC,aC,aC,λx=>x.1<=ts.length/\x.2.2.1=m/\PH.le h x.2.2.2/\∃G:bx,G.length=x.1/\x.2.1=G++replicate (ts.length-x.1) ⟨none,0,0⟩/\∀j,j<x.1->∃u,G[j]? =some u/\Rows x.2.2.2 u (nW st (aU ts j)),λx=>ts.length-x.1,⟨(0,replicate ts.length ⟨none,0,0⟩,m,h),⟨Nat.zero_le _,rfl,.refl _,[],rfl,ay,λj D=>by omega⟩,?_⟩,?_⟩
 .dsimp only;rw[map_replicate,show((p.len:Int)).toNat=ts.length by omega];exact MT
 rintro⟨i,vs,mx,hx⟩ ⟨hi,Z,le,G,H,hv,g⟩;dsimp only at hi Z le H hv g⊢
 subst Z hv;refine aF (λa'=>?_) (λa8=>?_)
 .obtain⟨t,f⟩:=eV a7 a';obtain⟨b,o,y,ea,rd,U⟩:=x.at f;have P:i<ts.length:=by omega
  have nx:∀(A:Sl)(h':PH),PH.le hx h'->Rows h' A (nW st (aU ts i))->∃e,((G++replicate (ts.length-i) (⟨none,0,0⟩:Sl)).map eS)[((i:Nat):Int).toNat]? =some e/\0<e.length/\∃E:bx,(((G++replicate (ts.length-i) (⟨none,0,0⟩:Sl)).map eS).set ((i:Nat):Int).toNat (dP A::List.drop 1 e))=List.map eS E/\∃Q:bx,Q.length=i+1/\E=Q++replicate (ts.length-(i+1)) ⟨none,0,0⟩/\∀j,j<i+1->∃u,Q[j]? =some u/\Rows h' u (nW st (aU ts j)):=λA h' d L=>by
   refine⟨[oM],?_,ay,(G++[A])++replicate (ts.length-(i+1)) ⟨none,0,0⟩,?_,G++[A],by simp[H],rfl,λj D=>?_⟩
   .rw[getElem?_map,Int.toNat_natCast,getElem?_append_right aC,getElem?_replicate,if_pos aC];rfl
   .rw[Int.toNat_natCast,show ts.length-i=(ts.length-(i+1))+1 by omega,replicate_succ,map_append,set_append,if_neg (by simp[H]),map_append,map_append,append_assoc];simp[H,eS]
   .by_cases a0:j<i
    .obtain⟨u,S,J⟩:=g j a0;exact⟨u,bg,bL.mono J d (λ_ _ h=>bS.mono h d)⟩
    grind
  have a1:((List.map eS (G++replicate (ts.length-i) (⟨none,0,0⟩:Sl))).length:Int)=ts.length:=bg
  rw[a1,iS aC];refine⟨b,o,ea,aC,aC,y,.imm (rd.mono le),aD (λe=>?_) (λe=>?_)⟩
  .have F:t.op=1:=by rw[<-U.op_];grind
   have hq:=kq i P;rw[qT ok f]at hq;have a9:=EF hq t.table (by rw[dW,if_pos F];simp);have b9:=bL.slen C.lea;have b7:=(Pz V).2.1;have a2:st[t.table.toNat]? =some (st.getD t.table.toNat []):=bg
   obtain⟨b2,o2,u,b',b0,hu⟩:=bL.at C.lea a2;have hF:nW st (aU ts i)=st.getD t.table.toNat []:=by rw[qT ok f,nW,if_pos F]
   obtain⟨e,S,J,E,h3,h4⟩:=nx u hx (.refl _) (by rw[hF];exact bL.mono hu le (λ_ _ h=>bS.mono h le));rw[U.table_];exact⟨b2,o2,b',a9.1,aC,u,.imm (b0.mono le),aC,aC,e,S,J,(i+1,E,mx,hx),⟨aC,rfl,le,h4⟩,aC,bg⟩
  .have F:t.op≠1:=by rw[<-U.op_];grind
   have h0:=B.ar i t f;have J:=E0 t.op;have c':arity t.op≠0:=λe=>F (Rm e);have M:=bqZ (op:=t.op) aC;have a3:=(ok i t f).2;have hA:arity t.op=1\/arity t.op=2:=by omega
   have hL:0<=t.left/\t.left<i:=a3 _ (by rcases hA with e|e<;>simp[BF,e])
   have hR:0<=t.right/\t.right<i:=by
    rcases hA with e|e
    .have:=(bwX (B.fit i t f)).2 aC;omega
    .exact a3 _ (by simp[BF,e])
   obtain⟨u1,b1,b3⟩:=g t.left.toNat aC;obtain⟨u2,b4,b5⟩:=g t.right.toNat aC
   have I:∀{j:Nat}{u:Sl},G[j]? =some u->((G++replicate (ts.length-i) (⟨none,0,0⟩:Sl)).map eS)[j]? =some (eS u):=fun{j u} h=>by
    grind
   have len:∀{j},j<ts.length->(nW st (aU ts j)).length<=8000000:=fun{j} D=>(R j D).elim λ_ h=>h.len;have hq:=kq i P;have a4:=Y i P;rw[qT ok f]at hq a4;have x1:=brX V C.val X W hq a4 F;rw[L2,Dh,map_map]at x1;have x2:=blZ (st:=st) ok f F
   have x3:P5 t.op t.query [nW st (aU ts t.left.toNat),nW st (aU ts t.right.toNat)]/\nW st (aU ts i)=GH t.op t.query [nW st (aU ts t.left.toNat),nW st (aU ts t.right.toNat)]:=by
    rcases hA with e|e
    .rw[show BF t=[t.left]by simp[BF,e]]at x1 x2;exact⟨brQ e (Sm▸x1) (R _ aC),by rw[x2,b5Z e];rfl⟩
    .rw[show BF t=[t.left,t.right]by simp[BF,e]]at x1 x2;exact⟨Sm▸x1,x2⟩
   rw[U.left_,U.right_];refine⟨hL.1,aC,eS u1,I b1,u1,rfl,hR.1,aC,eS u2,I b4,u2,rfl,y,t,u1,u2,_,_,rfl,U.mono le,b3,b5,hT,M.1,M.2,x3.1,len aC,len aC,λA h' d L=>?_⟩;obtain⟨e,S,J,E,h3,h4⟩:=nx A h' d (by rw[x3.2];exact L);exact⟨aC,aC,e,S,J,(i+1,E,mx,h'),⟨aC,rfl,le.trans d,h4⟩,aC,bg⟩
 .have:i=ts.length:=by omega
  subst this;rw[Nat.sub_self,replicate_zero,append_nil];refine⟨λx=>x.1<=ts.length/\x.2.1=ts.length/\x.2.2.2.1=mx/\PH.le h x.2.2.2.2/\x.2.2.1.length=ts.length/\∀j,j<ts.length->∃u,x.2.2.1[j]? =some u/\Rows x.2.2.2.2 u (nW st (aU ts j)),λx=>ts.length-x.1,⟨(0,ts.length,G,mx,hx),⟨Nat.zero_le _,rfl,rfl,le,H,g⟩,bg⟩,?_⟩;rintro⟨i,n,vs,my,hy⟩ ⟨hi,Z,e4,le,T,L⟩;dsimp only at hi Z e4 le T L⊢
  subst Z e4;refine aF (λa'=>?_) (λa8=>?_)
  .obtain⟨u,hu,g⟩:=L i aC;obtain⟨w,O⟩:=R i aC;have I:(vs.map eS)[((i:Nat):Int).toNat]? =some (eS u):=bg
   rw[length_map,T,iS aC];refine⟨aC,aC,eS u,I,u,rfl,u,_,rfl,g,O.len,λr L=>by have:=(O.row r L).len;omega,λA h' d c0=>⟨aC,aC,eS u,I,by simp[eS],(i+1,ts.length,vs.set i A,my,h'),⟨aC,rfl,rfl,le.trans d,bg,λj D=>?_⟩,aC,?_⟩⟩
   .dsimp only;rw[getElem?_set];by_cases a0:i=j
    .grind
    .obtain⟨u',S,J⟩:=L j D;exact⟨u',bg,bL.mono J d (λ_ _ h=>bS.mono h d)⟩
   .dsimp only;rw[map_set,Int.toNat_natCast];exact MT
  .refineλA h' d b6=>k3 e1 V A h' (le.trans d) ⟨⟨vs,b6,by simp[oP,T],λj z hz=>?_⟩,by simp[oP];omega⟩
   unfold oP at hz;rw[getElem?_map]at hz;cases D:(List.range ts.length)[j]? with
   |none=>grind
   |some k=>
    rw[D]at hz;obtain⟨a5,a6⟩:=List.getElem?_eq_some_iff.1 D;rw[length_range]at a5;rw[getElem_range]at a6;subst a6;have hz:nW st (aU ts j)=z:=bg
    subst hz;obtain⟨u,S,J⟩:=L j a5;exact⟨u,S,bL.mono J d (λ_ _ h=>bS.mono h d)⟩
theorem bcJ:bm 14 cRQ:=by
 refine iQ func14 ?_;rintro e m h K ⟨sc,d,p,r,s,z,ts,rs,rfl,f,c,g,j,n,o,u,y⟩;refine⟨cpQ d p,rfl,aE a4Q (aE SM (aE au (aE aq aG))),Q6 sc d p r m h K,ax,?_⟩;exact cKJ f c g j n o u y
noncomputable def L8(st:List br)(p:cg×bn):List br:=p.2.map λr=>(oP st p.1).getD r.toNat []
noncomputable def BN(s:jQ)(ts:cg)(rs:bn)(st:List br):Int:=if jD s ts rs≠0 then jD s ts rs else kJ s st
def VG(s:jQ)(q:Query):Prop:=(fI s [] q).2=0->Dk q/\IN (fP s q []).1/\kY (fP s q []).1<=100/\lO q<=100
theorem HD{P:Program}{f:FuncId}{S S':Vc.Spec}(x:Sound P f S)(d:∀c m h K,S' c m h K->S c m h K):Sound P f S':=⟨x.1,λc e m h w K g=>x.2 c e m h w K (d _ _ _ _ g)⟩
def Uh:Vc.Spec:=λc m h K=>∃sc v s q,c=[aS sc,aQ v]/\iF h s sc/\dG h q v/\nI q=true/\eA m/\VG s q/\∀p r h',PH.le h h'->((fI s [] q).2=0->rJ h' p r (lS s q).1 (lS s q).2)->K (.tup [aPl p r,cI (fI s [] q).2]) m h'
theorem akX:bm 11 Uh:=HD bdJ λ_ m h K⟨sc,v,s,q,e,f,g,c,j,n,o⟩=>⟨sc,v,s,q,e,f,g,c,j,n,λd=>o _ _ h (.refl _) (λe=>(d e).elim),λd p r h' le u=>bg⟩
def cxQ:Vc.Spec:=λd m h K=>∃sc e p r s c ts rs,d=[aS sc,aSt e,aPl p r]/\iF h s sc/\GK h e c/\rJ h p r ts rs/\eA m/\(jD s ts rs=0->kJ s c=0->IM s c ts)/\
 ∀f h',PH.le h h'->(BN s ts rs c=0->Leaves h' f (oP c ts))->K (.tup [cS f,cI (BN s ts rs c)]) m h'
theorem agQ:bm 14 cxQ:=HD bcJ λ_ m h K⟨sc,j,p,r,s,n,ts,rs,e,o,d,u,y,z,f⟩=>⟨sc,j,p,r,s,n,ts,rs,e,o,d,u,y,z,
 λc=>by have:=f cE h (.refl _) (λe=>by unfold BN at e;omega);unfold BN at this;rw[if_pos c]at this;exact this,
 λc g=>by have:=f cE h (.refl _) (λe=>by unfold BN at e;omega);unfold BN at this;rw[if_neg (by simp[c])]at this;exact this,
 λc g A h' le B=>by have:=f A h' le (λ_=>B);unfold BN at this;grind⟩
def bjZ:Vc.Spec:=λd m h K=>∃sc e v s c q,d=[aS sc,aSt e,aQ v]/\iF h s sc/\GK h e c/\dG h q v/\nI q=true/\eA m/\VG s q/\
 ((fI s [] q).2=0->jD s (lS s q).1 (lS s q).2=0/\(kJ s c=0->IM s c (lS s q).1/\∀l∈oP c (lS s q).1,l.length<=8000000/\∀r∈l,r.length<=1000))/\
 ((fI s [] q).2≠0->∀h',PH.le h h'->K (.tup [EZ,cI (fI s [] q).2]) m h')/\((fI s [] q).2=0->kJ s c≠0->∀h',PH.le h h'->K (.tup [EZ,cI (kJ s c)]) m h')/\
 ((fI s [] q).2=0->kJ s c=0->∀f h',PH.le h h'->Leaves h' f (L8 c (lS s q))->K (.tup [cS f,cI 0]) m h')
noncomputable def cnX:Ctx:=qV [(11,Uh),(14,cxQ),(57,Pn)] [(9,{A:=Nat×Sl×Sl×bx×MH×PH,st:=λ⟨i,rs,c,d,m,h⟩=>bU 77 80 [(10,sv rs),(11,.at (.lst 38)),(40,sv c),(41,iv c.len),(42,iv i)] [(38,.lst 58 1 (d.map eS))] m h}),
 (13,{A:=Nat×Nat×Sl×Sl×Sl×bx×MH×PH,st:=λ⟨j,i,rs,c,t,d,m,h⟩=>bU 77 80 [(10,sv rs),(11,.at (.lst 38)),(12,iv i),(40,sv c),(41,iv c.len),(42,iv i),(59,sv t),(60,iv t.len),(61,iv j)] [(38,.lst 58 1 (d.map eS))] m h})] [] [] [2058] [] false
abbrev O5(a:bZ->QV->jQ->Query->Prop):Prop:=∃(x:bZ)(c:QV)(d:jQ)(e:Query),a x c d e
noncomputable abbrev C5(a:jQ)(b:Query):Int:=yS a [] b
abbrev Cz(a:Nat×Nat×Sl×Sl×Sl×bx×MH×PH):Sl:=a.2.2.2.1
abbrev mG(a:Nat×Nat×Sl×Sl×Sl×bx×MH×PH):Sl×bx×MH×PH:=a.2.2.2.2
abbrev Ic(a b:Sl×bx×MH×PH):Prop:=mV 58 (tS a)=mV 58 (tS b)
attribute [push_cast] O5 C5 Cz mG Ic
def Q2(sc:bZ)(sl:Sl)(v:QV)(m:MH)(h:PH)(K:bo):Prop:=
  O5 (λs E f q=>aA (eF (cK sc) (cA v)=eF (cK s) (cA E)) (iF h f s) (aA (dG h q E) (iE (nI q)) (aA (eA m) (VG f q) (∀(p r:Sl)(g:PH),bQ h g (C5 f q=0->rJ g p r (lS f q).1 (lS f q).2) (cV (C5 f q) 0 (K (CV.tup (tO EZ (CV.val (fV (C5 f q))))) m g) (∃(F:bZ),qP (λG H=>∃(J:Sl)(j:jQ)(n:List br)(t:cg)(z:bn),aA (cC (cK sc) (eF (aR sl) (kQ (jX (dP p) (dP r))))=cC (cK F) (eF (aR G) (kQ (jX (dP H) (dP J))))) (iF g j F) (aA (GK g G n) (rJ g H J t z) (aA (eA m) (bG (jD j t z=0) (kJ j n=0) (IM j n t)) (∀(L:Sl)(A:PH),bQ g A (BN j t z n=0->Leaves A L (oP n t)) (cV (BN j t z n) 0
 (bW K (BN j t z n) m A) (Bc r 24 (∃(I:Nat×Sl×Sl×bx×MH×PH->Prop)(M:Nat×Sl×Sl×bx×MH×PH->Nat),(∃(x:Nat×Sl×Sl×bx×MH×PH),aA (I x) (aZ L x.2.1) (aA (eL 38) (aZ r (gZ x).1) (aA (bN r (gZ x).1) (bA x.1) (aA (KB r (tS (gZ x))) (dJ m (jL (gZ x))) (kZ (fC A (jL (gZ x))))))))/\∀(x:Nat×Sl×Sl×bx×MH×PH),I x->aY (↑x.1:Int) (aH (gZ x).1) (bJ (λb o=>aI (aW (gZ x).1.a b o) (0<=(↑x.1:Int)) ((↑x.1:Int)<aH (gZ x).1) (∃(y:Int),aK (nK (gZ x)) (lX (gZ x)) b (o+bM x.1 1) (bB y)/\bJ (λO P=>aI (aW x.2.1.a O P) (0<=y) (y<aH x.2.1) (∃(u:Sl),aA (aK (nK (gZ x)) (lX (gZ x)) O (P+gY y 1) (aR u)) (cH (aH u)) (aA
 (aH u<=aH u) (zX u 24) (zU (aH u)/\jU (λQ C=>sA (nK (gZ x)) C (lX (gZ x)) Q 65 1 (wG (aH u) fW)->pE (↑x.1:Int) (nE (gZ x)) (λe=>aA (mI (nE (gZ x)) (lD x.1) e) (xB e) (bJ (λR S=>aI (aW x.2.1.a R S) (0<=y) (y<aH x.2.1) (∃(D:Sl),aK C (lX (gZ x)) R (S+gY y 1) (aR D)/\∃(I1:Nat×Nat×Sl×Sl×Sl×bx×MH×PH->Prop)(T:Nat×Nat×Sl×Sl×Sl×bx×MH×PH->Nat),(∃(c:Nat×Nat×Sl×Sl×Sl×bx×MH×PH),aA (I1 c) (aZ x.2.1 c.2.2.1) (aA (eL 38) (cD x.1 c.2.1) (aA (aZ (gZ x).1 (Cz c)) (bN (gZ x).1 (Cz c)) (aA (cD x.1 c.2.1) (aZ D (mG c).1) (aA (bN D (mG c).1) (bA c.1) (aA (bR 58 1 (List.set (nE (gZ x))
 (lD x.1) (By (dP Q) 1 e))=mV 58 (tS (mG c))) (dJ C (jL (mG c))) (kZ (dA (jL (gZ x)) (jL (mG c))))))))))/\∀(c:Nat×Nat×Sl×Sl×Sl×bx×MH×PH),I1 c->aY (↑c.1:Int) (aH (mG c).1) (bJ (λU V=>aI (aW (mG c).1.a U V) (0<=(↑c.1:Int)) ((↑c.1:Int)<aH (mG c).1) (∃(W:Sl),Cy (aK (nK (mG c)) (lX (mG c)) U (V+bM c.1 1) (aR W)) 0 (↑c.2.1:Int) (nE (mG c)) (λX=>mI (nE (mG c)) (lD c.2.1) X/\∃(B:Sl),aA (tW 1 X (aR B)) (∃(Y:bt),mI (nE (mG c)) (lD c.2.1) Y/\tW 1 Y (aR B)) (HV W (lX (mG c)) (λs8 h3=>bJ (λZ o4=>aI (aW B.a Z o4) (0<=(↑c.1:Int)) ((↑c.1:Int)<aH B) (sR (nK
 (mG c)) Z (o4+bM c.1 1) (aR s8) (λm4=>∃(d:Nat×Nat×Sl×Sl×Sl×bx×MH×PH),aA (I1 d) (T d<T c) (aA (aZ c.2.2.1 d.2.2.1) (eL 38) (aA (cD c.2.1 d.2.1) (aZ (Cz c) (Cz d)) (aA (bN (Cz c) (Cz d)) (cD c.2.1 d.2.1) (aA (aZ (mG c).1 (mG d).1) (bN (mG c).1 (mG d).1) (aA (gK (bE c.1 1)=bO d.1) (Ic (mG c) (mG d)) (aA (dJ m4 (jL (mG d))) (fC h3 (jL (mG d))) True))))))))))))))) (∃(d:Nat×Sl×Sl×bx×MH×PH),aA (I d) (M d<M x) (aA (aZ c.2.2.1 d.2.1) (eL 38) (aA (aZ (Cz c) (gZ d).1) (bN (Cz c) (gZ d).1) (aA (gK (bE c.2.1 1)=bO d.1) (Ic (mG c) (gZ d)) (aA (fJ (jL (mG c)) (jL (gZ d))) (dA (jL (mG c))
 (jL (gZ d))) True))))))))))))))))) (tY (lX (gZ x)) (nE (gZ x)) K (nK (gZ x))))))))))))))))
structure Ae(m0 m:MH)(h:PH)(w:Sl)(l:br)(j:Nat):Prop where
 ex:∃vs:bx,vs.length=l.length/\vZ m0 m w 65 1 (vs.map eS)/\∀k r,k<j->l[k]? =some r->∃v,vs[k]? =some v/\bS h v r
theorem Ae.mono{m0:MH}{w:Sl}{l:br}{j:Nat}(x:Ae m0 m h w l j)(le:PH.le h h'):Ae m0 m h' w l j:=by
 obtain⟨c,d,e,f⟩:=x.ex;exact⟨c,d,e,λk r g n=>let⟨v,e1,e2⟩:=f k r g n;⟨v,e1,e2.mono le⟩⟩
theorem Ae.keep{m0:MH}{w:Sl}{l:br}{j:Nat}(x:Ae m0 m h w l j)(d:∀b i,w.a=some ⟨b,i,none⟩->m' b=m b):Ae m0 m' h w l j:=by
 obtain⟨e,f,c,g⟩:=x.ex;exact⟨e,f,⟨cT.keep c.row d,c.fresh⟩,g⟩
theorem Ae.blk{m0:MH}{w:Sl}{l:br}{j:Nat}(x:Ae m0 m h w l j)(e:w.a=some ⟨b,i,none⟩):∃o,m b=some o:=by
 obtain⟨f,_,c,_⟩:=x.ex;obtain⟨d,h⟩:=cT.blk c.row e
 grind
theorem Ae.slen{m0:MH}{w:Sl}{l:br}{j:Nat}(x:Ae m0 m h w l j):w.len=l.length:=by
 obtain⟨d,e,c,_⟩:=x.ex;have:=cT.slen c.row
 grind
theorem Va:∀vs:bx,(vs.map eS).flatten=vs.map λs=>dP s
 |[]=>rfl
 |v::vs=>by rw[map_cons,flatten_cons,Va vs];rfl
theorem Ae.put{m0:MH}{w u:Sl}{l:br}{j:Nat}{r:ca}(x:Ae m0 m h w l j)(D:l[j]? =some r)(J:bS h u r):∃b,w.a=some ⟨b,0,none⟩/\∃(cs:Array Value)(E:TypeId),m b=some (.cells cs E (0,0))/\0+j*1<cs.size/\∀m',lF m m' b (.cells ⟨splice cs.toList (0+j*1) [dP u]⟩ E (0,0))->Ae m0 m' h w l (j+1):=by
 obtain⟨f,F,g,L⟩:=x.ex;have M:=(List.getElem?_eq_some_iff.1 D).1;have O:=cT.slen g.row;rcases g.row.ex with⟨rfl,e⟩|⟨b,d,c,rfl,G,n,o,H,B⟩
 .grind
 .rw[length_map]at n;refine⟨b,rfl,c,65,G,aC,λm' y=>⟨f.set j u,by simp[F],⟨⟨⟨?_,?_⟩,.inr ⟨b,d,⟨splice c.toList (0+j*1) [dP u]⟩,ay,y.at_,bf,o,?_,?_⟩⟩,g.fresh⟩,λk P Q I=>?_⟩⟩
  .intro e z;obtain⟨s,_,rfl⟩:=mem_map.1 z;rfl
  .intro e z v C;obtain⟨s,_,rfl⟩:=mem_map.1 z;simp[eS]at C;subst C;rfl
  .show(splice c.toList (0+j*1) [dP u]).length=d*1;rw[Ea _ _ _ bf];omega
  .rw[Va];show(splice c.toList (0+j*1) [dP u]).take _=_;rw[PB _ _ _ bf,take_set]
   have A:c.toList.take (((f.set j u).map eS).length*1)=f.map λs=>dP s:=by
    rw[length_map,length_set];rw[length_map,Va]at B;exact B
   rw[A,Nat.zero_add,Nat.mul_one,map_set]
  grind
theorem Ae.rows{m0:MH}{w:Sl}{l:br}(d:GM m h)(x:Ae m0 m h w l l.length)(u:l.length<=8000000):Rows (CH m0 m h) w l:=by
 obtain⟨e,f,g,j⟩:=x.ex
 exact⟨⟨e,vZ.ice g,f.symm,λi r c=>by
  obtain⟨v,n,o⟩:=j i r (List.getElem?_eq_some_iff.1 c).1 c;exact⟨v,n,o.mono (Ev d)⟩⟩,aC⟩
theorem bbZ:bm 18 bjZ:=by
 refine RU func18 ?_;rintro d4 m h K ⟨sc,sl,v,s,W,q,rfl,hs,b6,hq,b7,ht,hn,hv,hE,b8,hK⟩;refine⟨cnX,rfl,aE akX (aE agQ (aE ab aG)),Q2 sc sl v m h (cN h K),ax,?_⟩;show Q2 sc sl v m h (cN h K);dsimp only[Q2,push_cast];refine⟨sc,v,s,q,rfl,hs,hq,b7,ht,hn,λp r h1 g hp=>aD (λX=>?_) (λX=>?_)⟩
 .exact cN.sub (Sub.refl m) g (hE bg h1 g)
 have X:(fI s [] q).2=0:=bg
 have hp:=hp X;obtain⟨d,hb⟩:=hv X;have a':BN s (lS s q).1 (lS s q).2 W=kJ s W:=by unfold BN;omega
 refine⟨sc,sl,p,r,s,W,(lS s q).1,(lS s q).2,rfl,hs.mono g,b6.mono g,hp,ht,λ_ e=>(hb e).1,λs1 h2 L hl=>?_⟩;rw[a']at hl⊢
 refine aD (λF=>?_) (λF=>?_)
 .exact cN.sub (Sub.refl m) (g.trans L) (b8 X bg h2 (g.trans L))
 have F:kJ s W=0:=bg
 have hl:=hl F;have hK:=hK X F;have b9:=(hb F).2;have a0:=g.trans L;have a1:=(hp.roots.mono L)
 have a2:=a1.slen
 have a3:∀x∈(lS s q).2,0<=x/\x.toNat<(oP W (lS s q).1).length:=by
  intro x hx;unfold jD at d;split at d
  .contradiction
  .split at d
   .cases d
   .split at d
    .contradiction
    .split at d
     .rename_i e;have:=all_eq_true.1 e x hx;simp only[Bool.and_eq_true,decide_eq_true_eq]at this;simp only[oP,length_map,length_range];omega
     .cases d
 have d5:(lS s q).2.length<=32:=by
  unfold jD at d;omega
 generalize hR:oP W (lS s q).1=R at*
 generalize hN:(lS s q).2=N at*
 have d6:=bL.slen hl;refine⟨aC,aC,aC,aC,λx=>x.1<=N.length/\x.2.1=s1/\x.2.2.1=r/\PH.le h2 x.2.2.2.2.2/\x.2.2.2.1.length=N.length/\Sub m x.2.2.2.2.1/\∀k n,k<x.1->N[k]? =some n->∃u,x.2.2.2.1[k]? =some u/\Ae m x.2.2.2.2.1 x.2.2.2.2.2 u (R.getD n.toNat []) (R.getD n.toNat []).length,λx=>N.length-x.1,⟨(0,s1,r,replicate N.length cE,m,h2),⟨aC,rfl,rfl,.refl _,ay,Sub.refl m,λk n hk=>by simp at hk⟩,?_⟩,?_⟩
 .have e:List.map eS (replicate N.length cE)=replicate (Int.toNat (r.len:Int)) [oM]:=by rw[map_replicate,a2];rfl
  grind
 rintro⟨i,a4,ro,Y,Z,hx⟩ ⟨hi,e1,M,A,c',f,B⟩;dsimp only at hi e1 M A c' f B⊢
 subst e1 M;have lex:=a0.trans A;refine aF (λa5=>?_) (λd7=>?_)
 .obtain⟨n,a6⟩:=eV a2 a5;obtain⟨Q,G⟩:=a3 n (mem_of_getElem? a6);obtain⟨b,o,e,rd⟩:=(a1.mono A).at' a6;have c1:R[n.toNat]? =some R[n.toNat]:=getElem?_eq_getElem G;obtain⟨b',o',t,e',a7,a8⟩:=bL.at (bL.mono hl A λ_ _ z=>bL.mono z A λ_ _ y=>bS.mono y A) c1;have c2:R.getD n.toNat []=R[n.toNat]:=by simp[G]
  have c4:=b9 _ (getElem_mem G);have a9:=bL.slen a8;refine⟨b,o,e,aC,a5,n,.imm rd,b',o',e',Q,aC,t,.imm a7,aC,aC,aC,aC,λw m1 hw=>⟨aC,bg,_,by rw[getElem?_map,Int.toNat_natCast,getElem?_eq_getElem aC];rfl,by simp[eS],b',o',e',Q,aC,t,.imm a7,?_⟩⟩;have d8:∀b i,w.a=some ⟨b,i,none⟩->Z b=none:=λb i e=>(hw.fresh b i e).m_;have C:Sub Z m1:=λx o e=>by rw[hw.other x (λi e'=>bg)];exact e
  have c0:Ae m m1 hx w R[n.toNat] 0:=⟨replicate R[n.toNat].length cE,ay,⟨by
   have:=hw.row;rw[Int.toNat_natCast,a9]at this;rw[map_replicate];exact this,λb i e=>by
   cases e0:m b with
   |none=>rfl
   |some o=>have:=f b o e0;grind⟩,λk r hk=>by omega⟩
  refine⟨λx=>x.1<=R[n.toNat].length/\x.2.1=i/\x.2.2.1=a4/\x.2.2.2.1=ro/\x.2.2.2.2.1=t/\x.2.2.2.2.2.1=Y.set i w/\PH.le hx x.2.2.2.2.2.2.2/\Sub m x.2.2.2.2.2.2.1/\Ae m x.2.2.2.2.2.2.1 x.2.2.2.2.2.2.2 w R[n.toNat] x.1/\∀b o,Z b=some o->x.2.2.2.2.2.2.1 b=some o,λx=>R[n.toNat].length-x.1,⟨(0,i,a4,ro,t,Y.set i w,m1,hx),⟨aC,rfl,rfl,rfl,rfl,rfl,.refl _,λx o e=>C x o (f x o e),c0,C⟩,?_⟩,?_⟩
  .rw[Int.toNat_natCast,map_set];exact MT
  clear c0 C;rintro⟨j,S,b0,b1,t2,d9,my,hy⟩ ⟨hj,f1,f2,H,I,J,c,D,c3,c6⟩;dsimp only at hj f1 f2 H I J c D c3 c6⊢
  subst f1 f2 H I J;refine aF (λP=>?_) (λd3=>?_)
  .obtain⟨rr,T⟩:=eV a9 P;obtain⟨b2,o2,y,M,c7,c8⟩:=bL.at (bL.mono a8 c λ_ _ z=>bS.mono z c) T;have e3:S<Y.length:=by omega
   refine⟨b2,o2,M,aC,P,y,.imm c7,aC,bf,eS w,bg,w,rfl,⟨eS w,bg,rfl⟩,y,rr,rfl,c8,(c4.2 rr (mem_of_getElem? T)),λu h4 b3 hu=>?_⟩;obtain⟨wb,c9,cs,E,d',e4,qS⟩:=(c3.mono b3).put T hu;have e5:=c3.slen;refine⟨wb,0,c9,aC,aC,cs,E,⟨d'⟩,aC,λm5 O=>?_⟩;rw[Int.toNat_natCast]at O;have c5:=qS m5 O;have b4:∀x o,Z x=some o->x≠wb:=λx o e e'=>bg
   refine⟨(j+1,S,b0,b1,t2,Y.set S w,m5,h4),⟨?_,rfl,rfl,rfl,rfl,rfl,c.trans b3,λx o e=>?_,c5,λx o e=>?_⟩,?_,MT⟩
   .omega
   .show m5 x=some o;rw[O.other x (b4 x o (f x o e))];exact D x o e
   .show m5 x=some o;rw[O.other x (b4 x o e)];grind
   omega
  .have d0:j=R[n.toNat].length:=by omega
   subst d0;refine⟨(S+1,b0,b1,Y.set S w,my,hy),⟨aC,rfl,rfl,A.trans c,bg,D,λk n' hk d1=>?_⟩,aC,MT⟩;have hk:k<S+1:=hk;by_cases e:k=S
   .grind
   .obtain⟨u,e1,M⟩:=B k n' aC d1;refine⟨u,bg,(M.mono c).keep (λb i e=>?_)⟩;obtain⟨o,ho⟩:=M.blk e
    grind
 .have d2:i=N.length:=by omega
  subst d2;intro s2 h3 c hr b5;have hd:GM Z h3:=⟨b5⟩
  have le:=(lex.trans c).trans (Ev (m0:=m) hd);refine⟨m,CH m Z h3,f,le,λb i w e=>?_,hK s2 _ le ⟨⟨Y,hr.mono (Ev hd),?_,λk l U=>?_⟩,?_⟩⟩
  .unfold CH at e
   grind
  .unfold L8;grind
  .unfold L8 at U;rw[getElem?_map,hN,hR,Option.map_eq_some_iff]at U;obtain⟨n,V,rfl⟩:=U;obtain⟨u,e1,M⟩:=B k n (List.getElem?_eq_some_iff.1 V).1 V;obtain⟨Q,G⟩:=a3 n (mem_of_getElem? V);have c2:R.getD n.toNat []=R[n.toNat]:=by simp[G]
   exact⟨u,e1,Ae.rows hd (M.mono c) bg⟩
  .unfold L8;grind
def atQ:Vc.Spec:=λc m h K=>∃s r,c=[cS s]/\bS h s r/\r.length<=1000/\∀d h',PH.le h h'->bS h' d r->K (cS d) m h'
def bYX:Vc.Spec:=λc m h K=>∃v s t d r,c=[aS v,cI t,cS d]/\iF h s v/\bS h d r/\r.length<=1000/\∀e h',PH.le h h'->bS h' e (Le s t r)->K (cS e) m h'
def VJ(key:Int)(ks:bn)(r:ca):Prop:=r.length=ks.length/\(∀v∈r,Nh v)/\∀(i:Nat) v k,r[i]? =some v->ks[i]? =some k->BY key k i v=true
def cRZ:Vc.Spec:=λc m h K=>∃cb s key ks,c=[cP cb,cS s,cI key,cI 3]/\bD m h cb/\Ints h s ks/\ks.length<=1000/\(∀k∈ks,k=3\/k=4\/k=5)/\∀d r m' h',PH.le h h'->bS h' d r->VJ key ks r->bP m m' cb->bD m' h' cb->K (cS d) m' h'
def biJ(m:MH)(d:Nat)(us:bx):Prop:=∃c:Array Value,m d=some (.cells c 58 (0,0))/\us.length<=c.size/\c.toList.take us.length=us.map Sl.val
def cRJ:Vc.Spec:=λg m h K=>∃v s c n d f u,∃t:Nat,∃e rs j o y row,g=[aS v,aSt ⟨some ⟨c,0,none⟩,n,d⟩,cI t,cS j,cS y]/\iF h s v/\s.tables[t]? =some e/\biJ m c f/\n=f.length/\f[t]? =some u/\Rows h u rs/\rs.length<=1000/\(∀r∈rs,r.length<=1000)/\bS h j o/\bS h y row/\0<row.length/\row.length<=1000/\
 ∀z m' h',PH.le h h'->Rows h' z (C4 e o row false rs)->biJ m' c (f.set t z)->bP m m' c->K (aSt ⟨some ⟨c,0,none⟩,n,d⟩) m' h'
noncomputable def chZ(cb:Nat)(key:Int)(s:Sl):Ctx:=dE [(25,RJ),(88,Vx)] [(3,{A:=Nat×ca×MH×PH,st:=λ⟨i,l,m,h⟩=>bU 59 63 [(0,pv cb),(2,iv key),(3,iv 3),(9,.at (.lst 24)),(12,sv s),(13,iv s.len),(14,iv i)] [(24,.lst 30 3 (l.map VV.enc))] m h})] [] [] false
noncomputable def cgJ(v:bZ)(sl:Sl)(t:Nat)(f g:Sl)(m:MH):Ctx:=dE [(47,bYX),(55,I8),(58,atQ)] [(4,{A:=Nat×bx×Bool×Sl×PH,st:=λ⟨i,e,d,u,h⟩=>bU 66 71 [(2,iv t),(3,sv f),(4,sv g),(5,.at (.ptr 5 0)),(6,.at (.ptr 6 0)),(10,.at (.ptr 10 0)),(11,.at (.lst 45)),(12,bv d),(23,sv u),(24,iv u.len),(25,iv i)] [(5,.cells 27 (v.enc.map .val)),(6,.cells 52 [.val sl.val]),(10,.cells 52 [.val cE.val]),(45,.lst 65 1 (e.map eS))] m h})] [(9,{A:=Nat×bx×Bool×Sl×Sl×Int×PH,st:=λ⟨i,e,d,u,r,c,h⟩=>bU 66 71 [(2,iv t),(3,sv f),(4,sv g),(5,.at (.ptr 5 0)),(6,.at (.ptr 6 0)),(10,.at (.ptr 10 0)),(11,.at (.lst 45)),(12,bv d),(14,sv r),(15,iv c),(23,sv u),(24,iv u.len),(25,iv i)] [(5,.cells 27 (v.enc.map .val)),(6,.cells 52 [.val sl.val]),(10,.cells 52 [.val cE.val]),(45,.lst 65 1 (e.map eS))] m h}),
 (14,{A:=bx×PH,st:=λ⟨e,h⟩=>bU 66 71 [(2,iv t),(6,.at (.ptr 6 0)),(10,.at (.ptr 10 0)),(11,.at (.lst 45))] [(6,.cells 52 [.val sl.val]),(10,.cells 52 [.val cE.val]),(45,.lst 65 1 (e.map eS))] m h})] [] false
def am(s:Sl)(m:MH)(h:PH)(K:bo):Prop:=
  ∃(y:List bt),aA (fN 3 y) (dC h (dN s) 3 y) (aA (i7 y.length 32) (nT y.length) (bY h 3 y (λc d=>K (mQ c) m d)))
def Xv(v:bZ)(t:Int)(s:Sl)(m:MH)(h:PH)(K:bo):Prop:=
  aY t 0 (K EZ m h) (iA t (kM v) (K EZ m h) (OZ v t (λb o y=>aI (aK m h b (o+gY t 5+2) (bB y)) (0<=ite (oI s y>0) (oI s y) 0) (ite (oI s y>0) (oI s y) 0<=(↑s.cap:Int)) (oS (λd r=>aI (eO (CV.val (Value.slice s.a (ite (oI s y>0) (oI s y) 0).toNat s.cap)) (mQ d)) (bS h d r) (Eh r) (∀(e:Sl)(c:PH),bQ h c (bS c e r) (K (mQ e) m c)))))))
abbrev sK(a:Nat×ca×MH×PH):List bt:=Ep a.2.1
abbrev kL(a:Nat×ca×MH×PH):MH×PH:=a.2.2
abbrev vW(a:Nat×ca×MH×PH):Nat->Nat->Option Value:=(kL a).2
abbrev DJ(a:Nat×ca×MH×PH)(b:Nat×ca×MH×PH->Prop)(c:Nat×ca×MH×PH->Nat)(d:Nat)(e:Int)(g:Sl)(i:(Nat×ca×MH×PH)->Prop):Prop:=aA (i7 (jW (sK a) 1) 32) (dO (sK a)) (∃(x:Nat×ca×MH×PH),aA (b x) (c x<c a) (aA (cQ d) (iI e) (aA rA (eL 24) (aA (aJ g) (bI g) (i x)))))
attribute [push_cast] sK kL vW DJ
def Xy(cb:Nat)(s:Sl)(key:Int)(m:MH)(h:PH)(K:bo):Prop:=
  ∃(I:Nat×ca×MH×PH->Prop)(g:Nat×ca×MH×PH->Nat),(∃(x:Nat×ca×MH×PH),aA (I x) (cQ cb) (aA (iI key) rA (aA (eL 24) (aJ s) (aA (bI s) (bA x.1) (aI (uW 30 3 (sK x)) (dJ m (kL x)) (fC h (kL x)) True)))))/\∀(x:Nat×ca×MH×PH),I x->aY (↑x.1:Int) (aH s) (bJ (λb o=>aI (aW s.a b o) (0<=(↑x.1:Int)) ((↑x.1:Int)<aH s) (∃(y:Int),aK (kL x).1 (vW x) b (o+bM x.1 1) (bB y)/\dR (decide ((↑x.1:Int)>=key)) (oB cb 5 (kL x).1 (vW x) (λc r=>∀(e:MH),bG (bP (kL x).1 e c) (bD e (vW x) c) (dR r (DJ x I g cb key s (λd=>aA (gK (bE x.1 1)=bO d.1) (bR 30 3 (dL (sK x) (bF (fV 2) cL C7))=bR 30 3 (sK d)) (aA (dJ e (kL d)) (dA
 (kL x) (kL d)) True))) (decide ((↑x.1:Int)>=key)) (oB cb 5 e (vW x) (λj n=>∀(f:MH),bG (bP e f j) (bD f (vW x) j) (branch n (DJ x I g cb key s (λd=>aA (gK (bE x.1 1)=bO d.1) (bR 30 3 (dL (sK x) (bF (fV 1) cL C7))=bR 30 3 (sK d)) (aA (dJ f (kL d)) (dA (kL x) (kL d)) True))) (FJ cb y f (vW x) (λv u=>DJ x I g cb key s (λd=>aA (gK (bE x.1 1)=bO d.1) (bR 30 3 (dL (sK x) v.enc)=bR 30 3 (sK d)) (aA (dJ u (kL d)) (dA (kL x) (kL d)) True))))))) (FJ cb y e (vW x) (λv f=>DJ x I g cb key s (λd=>aA (gK (bE x.1 1)=bO d.1) (bR 30 3 (dL (sK x) v.enc)=bR 30 3 (sK d)) (aA (dJ f (kL d)) (dA (kL x) (kL d))
 True))))))) (decide ((↑x.1:Int)>=key)) (oB cb 5 (kL x).1 (vW x) (λc r=>∀(e:MH),bG (bP (kL x).1 e c) (bD e (vW x) c) (branch r (DJ x I g cb key s (λd=>aA (gK (bE x.1 1)=bO d.1) (bR 30 3 (dL (sK x) (bF (fV 1) cL C7))=bR 30 3 (sK d)) (aA (dJ e (kL d)) (dA (kL x) (kL d)) True))) (FJ cb y e (vW x) (λv f=>DJ x I g cb key s (λd=>aA (gK (bE x.1 1)=bO d.1) (bR 30 3 (dL (sK x) v.enc)=bR 30 3 (sK d)) (aA (dJ f (kL d)) (dA (kL x) (kL d)) True))))))) (FJ cb y (kL x).1 (vW x) (λv e=>DJ x I g cb key s (λd=>aA (gK (bE x.1 1)=bO d.1) (bR 30 3 (dL (sK x) v.enc)=bR 30 3 (sK d)) (aA (dJ e (kL d)) (dA (kL x) (kL
 d)) True))))))) (bY (vW x) 3 (sK x) (λz A=>K (mQ z) (kL x).1 A))
abbrev DR(a:Nat×bx×Bool×Sl×PH):Bool:=a.2.2.1
abbrev rF(a:Nat×bx×Bool×Sl×PH):Sl:=a.2.2.2.1
abbrev Ee(a:At):Prop:=eQ (oQ 52 (wA a))
abbrev vS:Prop:=Ee JJ
abbrev Be(a:Nat×bx×Bool×Sl×PH):Nat->Nat->Option Value:=a.2.2.2.2
abbrev O0(a:(Nat×bx×Bool×Sl×Sl×Int×PH)->Prop)(b:Nat)(c d:Sl)(e:(Nat×bx×Bool×Sl×Sl×Int×PH)->Prop):Prop:=∃(x:Nat×bx×Bool×Sl×Sl×Int×PH),aA (a x) (eQ (bO b)) (aA (aJ c) (aJ d) (aA eN (eP 6) (aA nZ (eL 45) (e x))))
abbrev zG(a:Nat×bx×Bool×Sl×Sl×Int×PH):Sl:=a.2.2.2.1
abbrev Ia(a:Nat×bx×Bool×Sl×Sl×Int×PH):Nat->Nat->Option Value:=a.2.2.2.2.2.2
attribute [push_cast] DR rF Ee vS Be O0 zG Ia
def Xw(v:bZ)(f n d t:Nat)(u j:Sl)(m:MH)(h:PH)(K:bo):Prop:=
  bJ (λb o=>aI (aW (pB f) b o) (0<=(↑t:Int)) ((↑t:Int)<(↑n:Int)) (∃(y:Sl),aK m h b (o+bM t 1) (aR y)/\∃(I:Nat×bx×Bool×Sl×PH->Prop)(D:Nat×bx×Bool×Sl×PH->Nat),(∃(x:Nat×bx×Bool×Sl×PH),aA (I x) (eQ (bO t)) (aA (aJ u) (aJ j) (aA eN (eP 6) (aA nZ (eL 45) (aA (kN (aH j==0) (DR x)) (aZ y (rF x)) (aA (bN y (rF x)) (bA x.1) (aA (cG v) (Ee (BT (pB f) n d)) (aA vS (AR x.2.1) (dY m m h (Be x))))))))))/\∀(x:Nat×bx×Bool×Sl×PH),I x->aY (↑x.1:Int) (aH (rF x)) (bJ (λz A=>aI (aW (rF x).a z A) (0<=(↑x.1:Int)) ((↑x.1:Int)<aH (rF x)) (∃(B:Sl),aK m (Be x) z (A+bM x.1 1) (aR B)/\qO (λE s=>∃(F:Int),
 oS (λG r=>aA (cC (cK v) (fQ (↑t:Int) (mQ B))=cC (cK E) (fQ F (mQ G))) (iF (Be x) s E) (aA (bS (Be x) G r) (Eh r) (∀(H:Sl)(g:PH),bQ (Be x) g (bS g H (Le s F r)) (∃(J:Sl),oS (λL a=>∃(C:ca),aI (cJ H u=cJ J L) (bS g J a) (bS g L C) (∃(I1:Nat×bx×Bool×Sl×Sl×Int×PH->Prop),iA (eW a C) 0 (nX (DR x) (HV j g (λM O=>aA (kB (gH x.2.1)) (dO (gH x.2.1)) (O0 (λc=>I1 c) t u j (λc=>aA (yR c.2.2.1) (aZ B c.2.2.2.2.1) (aA (dH (eW a C) c.2.2.2.2.2.1) (aZ (rF x) (zG c)) (aA (bN (rF x) (zG c)) (cD x.1 c.1) (aA (cG v) (Ee (BT (pB f) n d)) (aA vS (xA (gH x.2.1) M c.2.1) (aA (m=m) (O
 =Ia c) True))))))))) (O0 (λc=>I1 c) t u j (λc=>aA (kN (DR x) c.2.2.1) (aZ B c.2.2.2.2.1) (aA (dH (eW a C) c.2.2.2.2.2.1) (aZ (rF x) (zG c)) (aA (bN (rF x) (zG c)) (cD x.1 c.1) (aA (cG v) (Ee (BT (pB f) n d)) (aA vS (rG x.2.1 c.2.1) (aA (m=m) (g=Ia c) True)))))))) (O0 (λc=>I1 c) t u j (λc=>aA (kN (DR x) c.2.2.1) (aZ B c.2.2.2.2.1) (aA (dH (eW a C) c.2.2.2.2.2.1) (aZ (rF x) (zG c)) (aA (bN (rF x) (zG c)) (cD x.1 c.1) (aA (cG v) (Ee (BT (pB f) n d)) (aA vS (rG x.2.1 c.2.1) (aA (m=m) (g=Ia c) True)))))))/\∀(c:Nat×bx×Bool×Sl×Sl×Int×PH),I1 c->cV c.2.2.2.2.2.1 0 (aA (kB (gH c.2.1))
 (dO (gH c.2.1)) (∃(e:Nat×bx×Bool×Sl×PH),aA (I e) (D e<D x) (aA (eQ (bO t)) (aJ u) (aA (aJ j) eN (aA (eP 6) nZ (aA (eL 45) (kN c.2.2.1 (DR e)) (aA (aZ (zG c) (rF e)) (bN (zG c) (rF e)) (aA (gK (bE c.1 1)=bO e.1) (cG v) (aA (Ee (BT (pB f) n d)) vS (cZ (xA (gH c.2.1) c.2.2.2.2.1 e.2.1) m m (Ia c) (Be e))))))))))) (∃(e:Nat×bx×Bool×Sl×PH),aA (I e) (D e<D x) (aA (eQ (bO t)) (aJ u) (aA (aJ j) eN (aA (eP 6) nZ (aA (eL 45) (kN c.2.2.1 (DR e)) (aA (aZ (zG c) (rF e)) (bN (zG c) (rF e)) (aA (gK (bE c.1 1)=bO e.1) (cG v) (aA (Ee (BT (pB f) n d)) vS (cZ (rG c.2.1 e.2.1) m m (Ia c)
 (Be e)))))))))))))))))))) (∃(I1:bx×PH->Prop),nX (DR x) (HV j (Be x) (λs g=>aA (kB (gH x.2.1)) (dO (gH x.2.1)) (∃(c:bx×PH),aA (I1 c) (eQ (bO t)) (aA (eP 6) nZ (aA (eL 45) (Ee (BT (pB f) n d)) (aA vS (xA (gH x.2.1) s c.1) (dY m m g c.2))))))) (∃(c:bx×PH),aA (I1 c) (eQ (bO t)) (aA (eP 6) nZ (aA (eL 45) (Ee (BT (pB f) n d)) (aA vS (rG x.2.1 c.1) (dY m m (Be x) c.2)))))/\∀(c:bx×PH),I1 c->bJ (λz A=>aI (aW (pB f) z A) (0<=(↑t:Int)) ((↑t:Int)<(↑n:Int)) (bY c.2 1 (gH c.1) (λs g=>sR m z (A+bM t 1) (aR s) (λP=>K (kQ (oN (Value.slice (pB f) n d))) P g)))))))
theorem an:bm 58 atQ:=by
 refine iQ func58 ?_;rintro e m h K ⟨s,r,rfl,f,z,g⟩;refine⟨dE [] [] [] [] false,rfl,aG,am s m h K,ax,?_⟩;dsimp only[am,push_cast];obtain⟨⟨c,j,n,o⟩,u⟩:=f;exact⟨c.map VV.enc,PL c,j,bg,bg,λy h' le d=>g y h' le ⟨⟨c,d,n,o⟩,u⟩⟩
theorem SN:bm 47 bYX:=by
 refine iQ func47 ?_;rintro D m h K ⟨v,s,t,A,r,rfl,B,n,M,u⟩;refine⟨dE [(58,atQ)] [] [] [] false,rfl,aE an aG,Xv v t A m h K,ax,?_⟩;dsimp only[Xv,push_cast];have E:=B.tables.slen;have d:=bL.slen n;have c:AA s t=false->K EZ m h:=λe=>u ⟨none,0,0⟩ h (.refl _) (by simp only[Le,e];exact bL.nil _ _ _ _);refine aF (λF=>c (by simp[AA];omega)) (λF=>aF (λG=>c (by simp[AA];omega)) (λG=>?_));have e:AA s t=true:=by simp[AA];omega
 obtain⟨f,g⟩:∃f,s.tables[t.toNat]? =some f:=⟨_,getElem?_eq_getElem aC⟩
 obtain⟨b,o,y,H,rd,I⟩:=bL.at B.tables g;have O:=I.key;obtain⟨a,len,j⟩:=A;have C:len<=j:=by obtain⟨P,J,_⟩:=n.ex;exact J.cap
 have d:len=r.length:=d
 have z:(if(if(len:Int)<y.key then(len:Int)else y.key)>0 then(if(len:Int)<y.key then(len:Int)else y.key)else 0)=max 0 (min f.key r.length):=by
  omega
 refine⟨b,o,H,aC,aC,y.key,.imm (cO.part rd 2 1),?_⟩;dsimp only;rw[z];have L:Le s t r=r.take (max 0 (min f.key r.length)).toNat:=by simp only[Le,e,if_true,g];rfl
 rw[L]at u;exact⟨aC,aC,⟨a,(max 0 (min f.key r.length)).toNat,j⟩,_,rfl,n.cut aC,bg,u⟩
theorem VJ.snoc{key:Int}{ks:bn}{l:ca}{k:Int}{v:VV}(x:VJ key (ks.take i) l)(c:ks[i]? =some k)(f:Nh v)(g:BY key k i v=true):VJ key (ks.take (i+1)) (l++[v]):=by
 obtain⟨n,o,y⟩:=x;have z:=(List.getElem?_eq_some_iff.1 c).1;have A:l.length=i:=bg
 refine⟨bg,λu d=>?_,λj u B d e=>?_⟩
 .grind
 grind
theorem W2{key k c:Int}(d:c=1\/c=2)(e:(i:Int)>=key):BY key k i ⟨c,0,⟨#[]⟩⟩=true:=by
 rcases d with rfl|rfl<;>simp[BY,kA,Jm]<;>omega
theorem SD{key k:Int}{v:VV}(c:KOk k)(d:aLX k v):BY key k i v=true:=by
 obtain⟨e,f⟩:=d c;simp[BY,e,f]
theorem V1(c:Int):Nh ⟨c,0,⟨#[]⟩⟩:=⟨⟨ay,ay⟩,by show(ByteArray.mk #[]).size<=64;decide⟩
theorem a4Z:bm 44 cRZ:=by
 refine iQ func44 ?_;rintro Y m h K ⟨cb,s,key,ks,rfl,Z,Q,hl,hk,hK⟩;refine⟨chZ cb key s,rfl,aE CS (aE Ms aG),Xy cb s key m h K,ax,?_⟩;dsimp only[Xy,push_cast];have I:=Q.slen;refine⟨λz=>z.2.2.2=h/\z.1<=ks.length/\VJ key (ks.take z.1) z.2.1/\bP m z.2.2.1 cb/\bD z.2.2.1 h cb,λz=>ks.length-z.1,⟨(0,[],m,h),⟨rfl,ay,⟨ay,ay,λj u k h=>by simp at h⟩,.refl _ _,Z⟩,MT⟩,?_⟩;rintro⟨i,l,R,h'⟩ ⟨S,hi,d,J,E⟩;dsimp only at S hi d J E⊢
 subst S;have a':l.length=i:=by rw[d.1,length_take];omega
 refine aF (λL=>?_) (λa0 s' h2 A M=>?_)
 .obtain⟨k,B⟩:=eV I L;obtain⟨b,o,ea,rd⟩:=Q.at' B;have C:=hk k (mem_of_getElem? B);have F:∀(u:VV)(m':MH),Nh u->BY key k i u=true->bP R m' cb->bD m' h' cb->h'=h'/\i+1<=ks.length/\VJ key (ks.take (i+1)) (l++[u])/\bP m m' cb/\bD m' h' cb:=λu m' n hf o c=>⟨rfl,aC,d.snoc B n hf,J.trans o,c⟩
  have e:ks.length-(i+1)<ks.length-i:=by omega
  have T:IntKind.i64.wrap ((i:Int)+1)=((i+1:Nat):Int):=iS aC;refine⟨b,o,ea,aC,aC,k,.imm rd,aF (λf=>⟨cb,5,rfl,aC,aC,E,λr U O P=>aD (λ_=>?_) (λ_=>aF (λ_=>⟨cb,5,rfl,aC,aC,P,λr V W X=>aD (λ_=>?_) (λ_=>⟨cb,k,rfl,X,λu y n g G H=>?_⟩)⟩) (λ_=>⟨cb,k,rfl,P,λu y n g G H=>?_⟩))⟩) (λf=>aF (λD=>absurd D f) (λ_=>⟨cb,k,rfl,E,λu y n g G H=>?_⟩))⟩
  .refine⟨bg,bg,(i+1,l++[⟨2,0,⟨#[]⟩⟩],U,h'),F _ U (V1 2) (W2 (.inr rfl) f) O P,e,?_⟩;rw[T,map_append];exact MT
  .refine⟨bg,bg,(i+1,l++[⟨1,0,⟨#[]⟩⟩],V,h'),F _ V (V1 1) (W2 (.inl rfl) f) (O.trans W) X,e,?_⟩;rw[T,map_append];exact MT
  .refine⟨bg,bg,(i+1,l++[u],y,h'),F _ y n (SD C g) ((O.trans W).trans G) H,e,?_⟩
   grind
  .omega
  .refine⟨bg,bg,(i+1,l++[u],y,h'),F _ y n (SD C g) G H,e,?_⟩
   grind
 .rw[take_of_length_le aC]at d;exact hK s' l R h2 A ⟨⟨l,M,rfl,λi x B=>⟨x,B,rfl⟩⟩,aC⟩ d J (E.mono A)
theorem a4X:bm 46 cRJ:=by
 refine iQ func46 ?_;rintro b0 m h K ⟨v,s,tb,n,T,us,u,t,B,rs,sk,J,U,row,rfl,hs,V,hT,hn,hu,W,b1,a0,a1,C,h0,h1,hK⟩;refine⟨cgJ v ⟨some ⟨tb,0,none⟩,n,T⟩ t sk U m,rfl,aE SN (aE aa (aE an aG)),Xw v tb n T t sk U m h K,ax,?_⟩;dsimp only[Xw,push_cast];obtain⟨y,L,b2,a2⟩:=hT;have b3:t<us.length:=(List.getElem?_eq_some_iff.1 hu).1;have a3:=bL.slen W;have b':=bL.slen C;have b4:((U.len:Int)==0)=false:=bf
 have a4:(y.toList.drop (0+t*1)).take [dP u].length=[dP u]:=by
  have D:y.toList[t]? =some (Sl.val u):=by
   have e:(y.toList.take us.length)[t]? =some (Sl.val u):=bg
   grind
  have O:=(List.getElem?_eq_some_iff.1 D).1;rw[Nat.zero_add,Nat.mul_one,drop_eq_getElem_cons O,(List.getElem?_eq_some_iff.1 D).2];rfl
 refine⟨tb,0,rfl,aC,aC,u,.lent y 58 (0,0) L a4,λz=>z.2.2.2.1=u/\z.1<=rs.length/\PH.le h z.2.2.2.2/\∃out,eX z.2.2.2.2 z.2.1 out/\out.length<=2*z.1/\out++C4 B J row z.2.2.1 (rs.drop z.1)=C4 B J row false rs,λz=>rs.length-z.1,⟨(0,[],false,u,h),⟨rfl,ay,.refl _,[],eX.nil _,ay,ay⟩,bg⟩,?_⟩;rintro⟨i,F,d,u',hx⟩ ⟨e1,hi,g,out,j,G,qS⟩;dsimp only at e1 hi g j G qS⊢
 subst e1;have X:=j.len;refine aF (λO=>?_) (λb5=>?_)
 .obtain⟨r,H⟩:=eV a3 O;have a5:=(List.getElem?_eq_some_iff.1 H).1;obtain⟨b,o,w,ea,rd,hv⟩:=bL.at W H;have P:rs.drop i=r::rs.drop (i+1):=by rw[drop_eq_getElem_cons a5,(List.getElem?_eq_some_iff.1 H).2]
  rw[P,C4]at qS;refine⟨b,o,ea,aC,aC,w,.imm (rd.mono g),v,s,t,w,r,rfl,hs.mono g,bS.mono hv g,a0 r (mem_of_getElem? H),λs' h2 A a6=>⟨s',sk,_,J,rfl,a6,bS.mono a1 (g.trans A),?_⟩⟩;rw[Ip V];generalize hc:eW (oY B r) J=c at qS⊢
  refine⟨λz=>z.1=i/\z.2.2.2.1=u'/\z.2.2.2.2.1=w/\z.2.2.2.2.2.1=c/\PH.le hx z.2.2.2.2.2.2/\∃out,eX z.2.2.2.2.2.2 z.2.1 out/\out.length<=2*i+1/\out++((if c≠0 then[r]else[])++C4 B J row z.2.2.1 (rs.drop (i+1)))=C4 B J row false rs,aF (λQ=>aD (λE=>?_) (λE=>?_)) (λQ=>?_),?_⟩
  .have E:d=false:=bg
   subst E;rw[if_pos ⟨Q,rfl⟩,show(false||decide (0<=c))=true by simp;omega]at qS;refine⟨U,row,rfl,bS.mono C (g.trans A),h1,λI R f S=>⟨bg,bg,(i,F++[I],true,u',w,c,R),⟨rfl,rfl,rfl,rfl,A.trans f,out++[row],(j.mono (A.trans f)).snoc S,bg,?_⟩,?_⟩⟩
   .grind
   .rw[map_append];exact MT
  .have E:d=true:=bg
   subst E;rw[if_neg ay,Bool.true_or,nil_append]at qS;exact⟨(i,F,true,u',w,c,h2),⟨rfl,rfl,rfl,rfl,A,out,j.mono A,aC,qS⟩,MT⟩
  .rw[if_neg (λh=>Q h.1),show(d||decide (0<=c))=d by grind,nil_append]at qS;exact⟨(i,F,d,u',w,c,h2),⟨rfl,rfl,rfl,rfl,A,out,j.mono A,aC,qS⟩,MT⟩
  clear qS j G X out F;rintro⟨i',F,d,u2,w2,c2,R⟩ ⟨e2,e3,e4,e5,f,out,j,G,qS⟩;dsimp only at e2 e3 e4 e5 f j G qS⊢
  subst e2 e3 e4 e5;have X:=j.len;have hw:IntKind.i64.wrap ((i':Int)+1)=((i'+1:Nat):Int):=iS aC;refine aD (λa7=>?_) (λa7=>?_)
  .rw[if_pos bg]at qS;refine⟨bg,bg,(i'+1,F++[w2],d,u2,R),⟨rfl,aC,g.trans f,out++[r],j.snoc (bS.mono hv (g.trans f)),bg,bg⟩,aC,?_⟩;rw[hw,map_append];exact MT
  .rw[if_neg bg,nil_append]at qS;refine⟨(i'+1,F,d,u2,R),⟨rfl,aC,g.trans f,out,j,aC,qS⟩,aC,?_⟩
   grind
 .have a8:i=rs.length:=by omega
  rw[a8,drop_length,C4]at qS;refine⟨λz=>PH.le h z.2/\eX z.2 z.1 (C4 B J row false rs),aD (λE=>?_) (λE=>?_),?_⟩
  .have E:d=false:=bg
   rw[E,if_neg ay]at qS;refine⟨U,row,rfl,bS.mono C g,h1,λI R f S=>⟨bg,bg,(F++[I],R),⟨g.trans f,by rw[<-qS];exact(j.mono f).snoc S⟩,?_⟩⟩;rw[map_append];exact MT
  .have E:d=true:=bg
   rw[E,if_pos rfl,append_nil]at qS;exact⟨(F,hx),⟨g,bg⟩,MT⟩
  rintro⟨b6,R⟩ ⟨f,M⟩;dsimp only at f M⊢
  have b7:=OA (t:=B) (key:=J) (row:=row) (l:=rs) (d:=false);refine⟨tb,0,rfl,aC,aC,λI h4 Y a9=>⟨y,58,⟨L⟩,?_,λm' Z=>hK I m' h4 (f.trans Y) ((M.mono Y).rows a9 bg) ⟨_,Z.at_,?_,?_⟩ ⟨λb hb=>(Z.other b hb).symm▸rfl⟩⟩⟩
  .omega
  .have a':splice y.toList (0+((t:Int)).toNat*1) [dP I]=y.toList.set t (Sl.val I):=by
    rw[set_eq_take_append_cons_drop,if_pos bg];simp only[splice,Int.toNat_natCast,Nat.zero_add,Nat.mul_one,length_singleton,append_assoc];rfl
   grind
  .have a':splice y.toList (0+((t:Int)).toNat*1) [dP I]=y.toList.set t (Sl.val I):=by
    rw[set_eq_take_append_cons_drop,if_pos bg];simp only[splice,Int.toNat_natCast,Nat.zero_add,Nat.mul_one,length_singleton,append_assoc];rfl
   rw[a',length_set,map_set, <-a2,take_set]
def RE{α:Type}(T:List α->α->Prop):List α->List α->Prop
 |_,[]=>True
 |pre,x::r=>T pre x/\RE T (pre++[x]) r
theorem WZ{α:Type}{T:List α->α->Prop}:∀{l c:List α},RE T c l->∀(j:Nat) x,l[j]? =some x->T (c++l.take j) x
 |[],_,_,j,x,e=>by simp at e
 |y::r,c,h,0,x,e=>by simp at e;subst e;simpa using h.1
 |y::r,c,h,j+1,x,e=>by
  have:=WZ h.2 j x (bk e)
  grind
theorem Bn{α:Type}{T:List α->α->Prop}{l:List α}(h:RE T [] l):Good T l:=λj x e=>bk (WZ h j x e)
theorem aVZ{α:Type}{T:List α->α->Prop}{l:List α}(h:Good T l)(n:Nat):Good T (l.take n):=λj x e=>by
 rw[getElem?_take]at e;split at e
 .rename_i c;rw[take_take,Nat.min_eq_left aC];exact h j x e
 .cases e
theorem bnQ(u:s.tables.length<=8)(g:∀t∈s.tables,t.columns.length<=8/\t.refs=[]/\t.checks=[])(y:0<=s.version)(z:s.version<=1000)(A:Good E5 s.tables):eH s=0:=by
 have c:Ey s:=⟨u,λj t e=>by
  obtain⟨n,d,o⟩:=g t (mem_of_getElem? e);exact⟨n,by simp[d],by simp[o]⟩⟩
 have ok:LO s:=⟨y,z,A,λj t e=>by
  obtain⟨n,d,o⟩:=g t (mem_of_getElem? e);unfold GG;rw[d];intro i x B;simp at B⟩
 rw[L4 c ok];refine Ex _ λe f=>?_;obtain⟨i,_,f⟩:=mem_flatMap.1 f;unfold yK at f
 grind
theorem YS{id:Int}(h:id=4\/id=5):Good E5 (vA id):=by
 have c:gM id=true:=by rcases h with rfl|rfl<;>rfl
 refine Bn ⟨⟨?_,?_,?_,?_,Bn ⟨⟨?_,?_,?_⟩,⟨?_,?_,?_⟩,trivial⟩⟩,⟨?_,?_,?_,?_,Bn ⟨⟨?_,?_,?_⟩,⟨?_,?_,?_⟩,⟨?_,?_,?_⟩,⟨?_,?_,?_⟩,trivial⟩⟩,⟨?_,?_,?_,?_,Bn ⟨⟨?_,?_,?_⟩,⟨?_,?_,?_⟩,trivial⟩⟩,⟨?_,?_,?_,?_,Bn ⟨⟨?_,?_,?_⟩,trivial⟩⟩,trivial⟩
 all_goals first|exact c|rfl|(simp;done)|decide
theorem PZ(h:BJ s):eH s=0/\s.tables≠[]:=by
 obtain⟨f,n,id,g,j,o,u,c,rfl⟩:=h.ex;refine⟨bnQ bg (λt d=>?_) g bg (aVZ (YS c) n),λe=>?_⟩
 .have d:=mem_of_mem_take d;simp only[vA,mem_cons,not_mem_nil,or_false]at d
  grind
 .have:=congrArg List.length e;simp[vA]at this;omega
theorem aRQ(h:BJ s){t:Am}(d:t∈s.tables):1<=t.key/\1<=t.columns.length/\t.columns.length<=4/\∀c∈t.columns,KOk c.kind:=by
 obtain⟨g,n,id,o,u,y,z,f,rfl⟩:=h.ex;have j:KOk id:=by rcases f with rfl|rfl;exact .inr (.inl rfl);exact .inr (.inr rfl)
 have d:=mem_of_mem_take d;simp only[vA,mem_cons,not_mem_nil,or_false]at d;rcases d with rfl|rfl|rfl|rfl
 all_goals
  refine⟨ay,ay,ay,λc e=>?_⟩;simp only[mem_cons,not_mem_nil,or_false]at e
 .rcases e with rfl|rfl<;>exact .inr (.inl rfl)
 .rcases e with rfl|rfl|rfl|rfl
  .exact j
  .exact .inr (.inl rfl)
  .exact .inr (.inr rfl)
  .exact .inl rfl
 .rcases e with rfl|rfl<;>exact .inr (.inl rfl)
 grind
structure VA(s:jQ)(st:List br):Prop where
 len:st.length=s.tables.length
 few:∀l∈st,l.length<=4
 ok:Pw s st
 val:StV st
def bSJ:Vc.Spec:=λc m h K=>∃cb v s,c=[cP cb,aS v,cI 3]/\bD m h cb/\iF h s v/\BJ s/\∀d e m' h',PH.le h h'->GK h' e d->VA s d->bP m m' cb->bD m' h' cb->K (aSt e) m' h'
noncomputable def cpZ(cb:Nat)(v:bZ):Ctx:=qV [(19,Nl),(45,u7),(44,cRZ),(47,bYX),(46,cRJ)] [(3,{A:=Nat×Sl×MH×PH,st:=λ⟨i,s,m,h⟩=>bU 51 54 [(0,pv cb),(2,iv 3),(4,.at (.ptr 4 0)),(6,.at (.ptr 6 0)),(7,.at (.ptr 7 0)),(18,iv v.tables.len),(19,iv i)] [(4,.cells 27 (v.enc.map .val)),(6,.cells 52 [.val cE.val]),(7,.cells 52 [.val (.slice s.a s.len s.cap)])] m h}),
 (6,{A:=Nat×Int×Sl×MH×PH,st:=λ⟨i,n,s,m,h⟩=>bU 51 54 [(0,pv cb),(2,iv 3),(4,.at (.ptr 4 0)),(6,.at (.ptr 6 0)),(7,.at (.ptr 7 0)),(8,iv i),(9,iv n),(18,iv v.tables.len),(19,iv i)] [(4,.cells 27 (v.enc.map .val)),(6,.cells 52 [.val cE.val]),(7,.cells 52 [.val (.slice s.a s.len s.cap)])] m h})] [] [] [2050] [] false
abbrev Ce(a b:Sl):Prop:=oQ 52 (wA (yG a))=oQ 52 (wA (yG b))
abbrev vU(a:Nat×Int×Sl×MH×PH):MH×PH:=a.2.2.2
attribute [push_cast] Ce vU
def Q8(cb:Nat)(v:bZ)(m:MH)(h:PH)(K:bo):Prop:=
  aA (cH (kM v)) (kM v<=kM v) (aA (zU (kM v*24)) (zU (kM v)) (jU (λs M=>sA m M h s 58 1 (wG (kM v) fW)->KT (λI x=>aA (I x) (cQ cb) (aA (iI 3) (eP 4) (aA (eP 6) (eP 7) (aA (kC v) (bA x.1) (aA (cG v) vS (aA (Ce s (kK x)) (dJ M (jT x)) (kZ (fC h (jT x))))))))) (λI O x=>I x->aY (↑x.1:Int) (aH v.tables) (kD cb 5 (qB x) (qC x) (λk m3=>∃(I1:Nat×Int×Sl×MH×PH->Prop)(P:Nat×Int×Sl×MH×PH->Nat),(∃(d:Nat×Int×Sl×MH×PH),aA (I1 d) (cQ cb) (aA (iI 3) (eP 4) (aA (eP 6) (eP 7) (aA (cD x.1 d.1) (dH k d.2.1) (aA (kC v) (cD x.1 d.1) (aA (cG v) vS (aI (Ce (kK x) d.2.2.1) (dJ m3 (vU d)) (dA (jT x) (vU d)) True)))))))
 /\∀(d:Nat×Int×Sl×MH×PH),I1 d->fR d.2.1 0 (bJ (λb o=>aI (aW (BU v) b o) (0<=(↑d.1:Int)) ((↑d.1:Int)<aH v.tables) (∃(y:Int),aA (aK (vU d).1 (vU d).2 b (o+bM d.1 5+2) (bB y)) (j3 (vU d).2 b (o+bM d.1 5) 2 (bB y)) (AQ v (↑d.1:Int) (vU d).2 (λs1 F=>∃(c:Nat)(Q:Sl)(R:Int)(A:bn),aA (cY cb (cX s1 (eZ (iR y) 3))=cY c (cX Q (eZ (iR R) 3))) (bD (vU d).1 F c) (aA (Ints F Q A) (gS A) ((∀(f:Int),List.Mem f A->f=3\/f=4\/f=5)/\∀(G:Sl)(r:ca),eT (λB j=>bQ F j (bS j G r) (bG (VJ R A r) (bP (vU d).1 B c) (oV B j c (qO (λS T=>∃(t:Int),oS (λU H=>aA (cC (cK v) (fQ (↑d.1:Int) (mQ G))=cC
 (cK S) (fQ t (mQ U))) (iF j T S) (aA (bS j U H) (Eh H) (∀(V:Sl)(g:PH),bQ j g (bS g V (Le T t H)) (qO (λW X=>bJ (λz n=>K5 (λY u=>∃(Z:Sl)(C:Nat)(t3:Am)(D:br),oS (λs8 f=>oS (λs9 E=>aA (cC (cK v) (cC (aR d.2.2.1) (iR (↑d.1:Int)::cJ V G))=cC (cK W) (cC (oN (Value.slice (pB z) n Y)) (iR (↑C:Int)::cJ s8 s9))) (iF g X W) (aA (O6 X C t3) (biJ B z u) (aA (n=u.length) (CD u C Z) (aA (Rows g Z D) (nO D.length) (aA (HW D (λr4=>Eh r4)) (bS g s8 f) (aA (bS g s9 E) (0<E.length) (Eh E/\∀(u2:Sl),eT (λJ L=>bQ g L (Rows L u2 (C4 t3 f E false D)) (bG (biJ J z (List.set u C u2)) (bP B J z) (∃(e:Nat×Int×
 Sl×MH×PH),aA (I1 e) (P e<P d) (aA (cQ cb) (iI 3) (aA (eP 4) (eP 6) (aA (eP 7) (cD d.1 e.1) (aA (dH (fG (d.2.1-1)) e.2.1) (kC v) (aA (cD d.1 e.1) (cG v) (aA vS (oQ 52 (wA (BT (pB z) n Y))=oQ 52 (wA (yG e.2.2.1))) (aA (dJ J (vU e)) (fC L (vU e)) True))))))))))))))))))))))))))))))))))))) (∃(e:Nat×Sl×MH×PH),aA (I e) (O e<O x) (aA (cQ cb) (iI 3) (aA (eP 4) (eP 6) (aA (eP 7) (kC v) (aA (gK (bE d.1 1)=bO e.1) (cG v) (aA vS (Ce d.2.2.1 (kK e)) (aA (fJ (vU d) (jT e)) (dA (vU d) (jT e)) True))))))))) (K (kQ (aR (kK x))) (qB x) (qC x))))))
theorem cN.iceB{n:MH}{hx:PH}{r:CV}{f:Nat}{d:Array Value}{E:TypeId}(g:n f=some (.cells d E (0,0)))(le:PH.le h hx)(y:∀u,PH.le hx u->(∀i,u f i=d[i]?)->K r (λb=>if b=f then none else n b) u):cN h K r n hx:=by
 intro j;have z:∀i,hx f i=none:=j f _ g
 have c:PH.le hx (λx i=>if x=f then d[i]? else hx x i):=⟨λx i v e=>by
  grind⟩
 refine⟨_,_,λb o e=>?_,le.trans c,λx i v e=>?_,y _ c (λi=>ay)⟩
 .grind
 grind
structure TSt(h:PH)(s:jQ)(m:MH)(tb:Nat)(us:bx)(st:List br):Prop where
 tbl:biJ m tb us
 ulen:us.length=s.tables.length
 slen:st.length=s.tables.length
 rows:∀(j:Nat) u l,us[j]? =some u->st[j]? =some l->Rows h u l
 ok:Pw s st
 val:StV st
 few:∀l∈st,l.length<=4
theorem TSt.mono{c:Nat}{us:bx}{st:List br}(x:TSt h s m c us st)(le:PH.le h h')(e:m' c=m c):TSt h' s m' c us st:=by
 obtain⟨d,o,f,g⟩:=x.tbl;exact⟨⟨d,bg,f,g⟩,x.ulen,x.slen,λj u l a b=>bL.mono (x.rows j u l a b) le λr t n=>bS.mono n le,x.ok,x.val,x.few⟩
theorem b8Z{t:Am}{r:ca}(h:VJ t.key (t.columns.map pS.kind) r):EO t r=true:=by
 obtain⟨c,_,d⟩:=h;rw[length_map]at c;refine Hm.2 ⟨c,λi e=>?_⟩
 grind
theorem bwJ{key k:Int}{v:VV}(h:BY key k i v=true)(c:Nh v):uR v.kind/\uR v.int:=by
 simp only[BY,Bool.and_eq_true]at h;have:=Ns h.1;exact⟨⟨aC,aC⟩,c.int_⟩
theorem TSt.put{B t:Nat}{us:bx}{st:List br}{C:Sl}{c:Am}{l:br}{row:ca}(x:TSt h s m B us st)(le:PH.le h h')(I:s.tables[t]? =some c)(D:st[t]? =some l)(M:biJ m' B (us.set t C))(g:Rows h' C (C4 c (oY c row) row false l))(A:VJ c.key (c.columns.map pS.kind) row)(S:l.length<=3):
 TSt h' s m' B (us.set t C) (st.set t (C4 c (oY c row) row false l)):=by
 have E:=b8Z A;have F:=(List.getElem?_eq_some_iff.1 D).1;have y:=x.ok t c l I D;refine⟨M,by rw[length_set];exact x.ulen,by rw[length_set];exact x.slen,λj u n J f=>?_,λj O n o f=>?_,λn f=>?_,λn f=>?_⟩
 .by_cases e:t=j
  .grind
  .rw[getElem?_set_ne e]at J f;exact bL.mono (x.rows j u n J f) le λr t z=>bS.mono z le
 .by_cases e:t=j
  .subst e;rw[getElem?_set_self F]at f;rw[I]at o;cases f;cases o;refine⟨λr g=>?_,λi r P Q R=>(PT (R0.of y.2)).adj i r P Q R⟩;rcases Oz g with rfl|g
   .exact E
   .exact y.1 r g
  .rw[getElem?_set_ne e]at f;exact x.ok j O n o f
 .rcases mem_or_eq_of_mem_set f with G|rfl
  .exact x.val n G
  .intro r g v z;rcases Oz g with rfl|g
   .obtain⟨i,L,rfl⟩:=mem_iff_getElem.1 z;have H:i<(c.columns.map pS.kind).length:=by rw[<-A.1];exact L
    exact bwJ (A.2.2 i _ _ (getElem?_eq_getElem L) (getElem?_eq_getElem H)) (A.2.1 _ z)
   .exact x.val l (mem_of_getElem? D) r g v z
 .rcases mem_or_eq_of_mem_set f with G|rfl
  .exact x.few n G
  .have:=OA (t:=c) (key:=oY c row) (row:=row) (l:=l) (d:=false)
   grind
theorem bdX:bm 13 bSJ:=by
 refine RU func13 ?_;rintro c9 m h K ⟨cb,v,s,rfl,hc,hs,hp,hK⟩;refine⟨cpZ cb v,rfl,aE Ol (aE Ir (aE a4Z (aE SN (aE a4X aG)))),Q8 cb v m h (cN h K),ax,?_⟩;show Q8 cb v m h (cN h K);dsimp only[Q8,push_cast];have b2:=hs.tables.slen;obtain⟨a6,b3⟩:=PZ hp;have h8:=Jd a6;have b4:=Aq a6;have d':0<s.tables.length:=length_pos_iff.2 b3;refine⟨aC,aC,aC,aC,λV m1 I=>?_⟩;rw[show((v.tables.len:Int)).toNat=s.tables.length by omega]at I
 obtain⟨J,E,C,S,L,_,_,a7,a1⟩:∃b E C,V=⟨some ⟨b,0,none⟩,s.tables.length,E⟩/\m1 b=some (.cells C 58 (0,0))/\s.tables.length<=E/\E<=maxLen/\C.size=E*1/\C.toList.take (s.tables.length*1)=(replicate s.tables.length [oM]).flatten:=by
  rcases I.row.ex with⟨_,e⟩|⟨b,E,C,W,e2,e3,e4,e5,e6⟩
  .have:=congrArg List.length e;grind
  grind
 have b5:s.tables.length<=E:=by assumption
 have X:cF m h J:=I.fresh J 0 (by rw[S])
 have M:J≠cb:=λe=>by
  obtain⟨cs,e2⟩:=hc.blk;rw[<-e,X.m_]at e2;cases e2
 have Y:∀b,b≠J->m1 b=m b:=λb hb=>I.other b λi e=>by
  grind
 have a8:bD m1 h cb:=hc.keep (Y cb (Ne.symm M)) (.refl _)
 have a9:TSt h s m1 J (replicate s.tables.length ⟨none,0,0⟩) (replicate s.tables.length []):=by
  refine⟨⟨C,L,bg,?_⟩,ay,ay,λj u l R F=>?_,λj t l ht F=>?_,λl F=>?_,λl F=>?_⟩
  .rw[length_replicate, <-Nat.mul_one s.tables.length,a1,Nat.mul_one,map_replicate];generalize s.tables.length=k
   induction k with
   |zero=>rfl
   |succ k ih=>rw[replicate_succ,flatten_cons,ih,replicate_succ];rfl
  .have R:=mem_of_getElem? R;have F:=mem_of_getElem? F;rw[eq_of_mem_replicate R,eq_of_mem_replicate F];exact bL.nil _ _ _ _
  .rw[eq_of_mem_replicate (mem_of_getElem? F)];exact⟨λr hr=>by simp at hr,λi r r' e=>by simp at e⟩
  .grind
  grind
 clear a1 a7 L C;refine⟨λz=>z.1<=s.tables.length/\z.2.1=V/\PH.le h z.2.2.2/\bD z.2.2.1 z.2.2.2 cb/\(∀b,b≠J->b≠cb->z.2.2.1 b=m b)/\∃G H,TSt z.2.2.2 s z.2.2.1 J G H/\∀j l,z.1<=j->H[j]? =some l->l=[],λz=>s.tables.length-z.1,⟨(0,V,m1,h),⟨ay,rfl,.refl _,a8,λb h1 _=>Y b h1,_,_,a9,λj l _ e=>eq_of_mem_replicate (mem_of_getElem? e)⟩,MT⟩,?_⟩;clear a9 a8;rintro⟨i,a2,m2,h2⟩ ⟨hi,W,T,c2,o2,G,H,g,B⟩;dsimp only at hi W T c2 o2 g B⊢
 rw[W];clear W a2;refine aF (λb6=>?_) (λd0=>?_)
 .obtain⟨D,f⟩:=eV b2 b6;have a3:=mem_of_getElem? f;obtain⟨tk,tc,d1,b7⟩:=aRQ hp a3;have b':=(List.getElem?_eq_some_iff.1 f).1
  have O:H[i]? =some []:=by
   have:=getElem?_eq_getElem (l:=H) (i:=i) (by rw[g.slen];exact b')
   grind
  refine⟨cb,5,rfl,c2,λk m3 k0 k1 o3 c3=>?_⟩;refine⟨λz=>z.1=i/\z.2.2.1=V/\z.2.1<=4/\PH.le h z.2.2.2.2/\bD z.2.2.2.1 z.2.2.2.2 cb/\(∀b,b≠J->b≠cb->z.2.2.2.1 b=m b)/\∃G H l,TSt z.2.2.2.2 s z.2.2.2.1 J G H/\H[i]? =some l/\((l.length:Int)<=4-z.2.1)/\0<=z.2.1/\∀j l,i+1<=j->H[j]? =some l->l=[],λz=>z.2.1.toNat,⟨(i,k,V,m3,h2),⟨rfl,rfl,bg,T,c3,λb h1 h2=>by show m3 b=m b;rw[o3.other b h2];grind,G,H,[],g.mono (.refl _) (o3.other J M),O,bf,k0,λj l hj=>B j l aC⟩,MT⟩,?_⟩;clear o3 c3 m3 k0 k1 g B O G H k o2 c2 m2;rintro⟨i',n,a2,m3,h3⟩ ⟨W,e2,b8,A,c3,o3,G,H,l,g,F,b9,b0,B⟩;dsimp only at W e2 b8 A c3 o3 g F b9 b0 B⊢
  rw[W,e2];clear W e2 i' a2;refine aF (λhn=>?_) (λhn=>?_)
  .obtain⟨b,o,y,ea,rd,hy⟩:=bL.at (hs.mono A).tables f;have c':jA s (i:Int)=D.columns.map pS.kind:=by rw[jA,if_neg aC,Int.toNat_natCast,f]
   refine⟨b,o,ea,aC,aC,D.key,.imm (by rw[<-hy.key];exact cO.part rd 2 1),by rw[<-hy.key];exact cO.part rd 2 1,v,s,i,rfl,hs.mono A,b4,λks h4 P b1=>?_⟩;rw[c']at b1;refine⟨cb,ks,D.key,_,rfl,c3.mono P,b1,bg,λk hk=>?_,λsr row m5 h5 U Z a' o5 c5=>?_⟩
   .obtain⟨c,hc,rfl⟩:=mem_map.1 hk;exact b7 c hc
   have d2:row.length=D.columns.length:=by rw[a'.1,length_map]
   refine⟨v,s,i,sr,row,rfl,hs.mono ((A.trans P).trans U),Z,aC,λsk h6 Q a0=>?_⟩;rw[Ip f]at a0;have a4:=g.mono ((P.trans U).trans Q) (o5.other J M);obtain⟨u,R⟩:∃u,G[i]? =some u:=⟨_,getElem?_eq_getElem (by rw[g.ulen];exact b')⟩
   have d3:=mem_of_getElem? F;refine⟨v,s,J,s.tables.length,E,G,u,i,D,l,sk,oY D row,sr,row,by rw[S],hs.mono (((A.trans P).trans U).trans Q),f,a4.tbl,g.ulen.symm,R,a4.rows i u l R F,aC,λr hr=>?_,a0,bS.mono Z Q,aC,aC,λu' m7 h7 a5 c0 c1 o7=>?_⟩
   .have:=(Vb ((g.ok i D l f F).1 r hr)).1;omega
   have hw:IntKind.i64.wrap (n-1)=n-1:=fB aC aC;have c4:=OA (t:=D) (key:=oY D row) (row:=row) (l:=l) (d:=false);simp at c4;refine⟨(i,n-1,V,m7,h7),⟨rfl,rfl,bg,(((A.trans P).trans U).trans Q).trans a5,(c5.mono (Q.trans a5)).keep (o7.other cb (Ne.symm M)) (.refl _),λb h1 h2=>by show m7 b=m b;rw[o7.other b h1,o5.other b h2];grind,G.set i u',H.set i _,_,a4.put a5 f F c1 c0 a' aC,getElem?_set_self (List.getElem?_eq_some_iff.1 F).1,bg,bg,λj l' hj e=>?_⟩,bg,?_⟩
   .grind
   .grind
  .refine⟨(i+1,V,m3,h3),⟨aC,rfl,A,c3,o3,G,H,g,B⟩,aC,?_⟩;rw[iS aC];exact MT
 .obtain⟨C,L,a7,a1⟩:=g.tbl;refine cN.iceB L T λh3 A c8=>hK H V _ h3 (T.trans A) ⟨⟨⟨G,⟨by rw[S,length_map];exact g.ulen.symm,.inr ⟨J,0,by rw[S],λj e hj=>⟨λn x hx=>?_⟩⟩,bg⟩,by rw[g.slen,g.ulen],λj l F=>?_⟩,by rw[g.slen];omega⟩,by rw[g.slen];omega,g.val⟩ ⟨g.slen,g.few,g.ok,g.val⟩ ⟨λb hb=>?_⟩ ?_
  .rw[getElem?_map,Option.map_eq_some_iff]at hj;obtain⟨u,R,rfl⟩:=hj;have hn:n=0:=by have:=(List.getElem?_eq_some_iff.1 hx).1;simp[eS]at this;omega
   subst hn
   have hx:u.val=x:=by
    simp[eS]at hx;exact hx
   subst hx;have e:(C.toList.take G.length)[j]? =some u.val:=bg
   grind
  .have c6:=(List.getElem?_eq_some_iff.1 F).1;have c7:j<G.length:=by rw[g.ulen, <-g.slen];exact c6
   have R:G[j]? =some G[j]:=getElem?_eq_getElem c7;exact⟨_,R,bL.mono (g.rows j _ l R F) A λr t hv=>bS.mono hv A⟩
  .by_cases e:b=J
   .subst e;simp[X.m_]
   grind
  .refine bD.keep c2 ?_ A
   grind
abbrev Rel:=br
abbrev dm:=List Rel
def cMZ(a b:Rel):Rel:=Eb (a++b)
def cNJ(a b:Rel):Rel:=a.filter λx=>GO b x==false
def cOZ(a b:Rel):Rel:=a.filter λx=>GO b x==true
theorem azX{l:Rel}{x:ca}:GO l x=false↔x∉l:=by
 rw[<-D0];grind
theorem b6J{a b:Rel}{x:ca}:x∈cMZ a b↔x∈a\/x∈b:=by simp[cMZ,ED]
theorem b7Q{a b:Rel}{x:ca}:x∈cNJ a b↔x∈a/\x∉b:=by simp only[cNJ,mem_filter,beq_iff_eq,azX]
theorem b7X{a b:Rel}{x:ca}:x∈cOZ a b↔x∈a/\x∈b:=by simp only[cOZ,mem_filter,beq_iff_eq,D0]
def cSJ:Vc.Spec:=λc m h K=>∃s t l r,c=[cS s,cS t]/\Rows h s l/\bS h t r/\lN l/\K (cB (GO l r)) m h
def b1J:Vc.Spec:=λc m h K=>∃s t i l k,c=[cS s,cS t,cB i]/\Rows h s l/\Rows h t k/\lN k/\l.length<=8000000/\∀d h',PH.le h h'->Rows h' d (l.filter λx=>GO k x==i)->K (cS d) m h'
def cSQ:Vc.Spec:=λc m h K=>∃n,c=[cI n]/\K (aV ⟨4,n,⟨#[]⟩⟩) m h
def cVZ:Query->Int
 |.mk op _ _ _ _ _ _ _ _=>op
def opE(q:Query):Int:=cVZ (fX q)
structure QsU(h:PH)(us:da)(qs:ce):Prop where
 len:us.length=qs.length
 at_:∀(i:Nat) q,qs[i]? =some q->∃v,us[i]? =some v/\dG h q v
theorem QsU.mono{us:da}{c:ce}(x:QsU h us c)(le:PH.le h h'):QsU h' us c:=⟨x.len,λi q e=>let⟨v,e1,e2⟩:=x.at_ i q e;⟨v,e1,e2.mono le⟩⟩
theorem QsU.snoc{us:da}{c:ce}{q:Query}(x:QsU h us c)(g:dG h q v):QsU h (us++[v]) (c++[q]):=by
 have d:=x.len;refine⟨by simp[d],λi p e=>?_⟩;by_cases f:i<c.length
 .rw[getElem?_append_left f]at e;obtain⟨u,j,n⟩:=x.at_ i p e
  grind
 grind
def cTJ(N:Nat):Vc.Spec:=λc m h K=>∃v q s,c=[aQ v]/\dG h q v/\SizeOf.sizeOf q<N/\(aL s [] q).2=0/\∀d h',PH.le h h'->dG h' (fX q) d->d.op=opE q->K (aQ d) m h'
def VL:Vc.Spec:=λc m h K=>∃sc v s q,c=[aS sc,aQ v]/\iF h s sc/\dG h q v/\(fI s [] q).2=0/\∀d h',PH.le h h'->dG h' (fX q) d->d.op=opE q->K (.tup [aQ d,cI 0]) m h'
def cUQ:Vc.Spec:=λc m h K=>∃v q s,c=[aQ v]/\dG h q v/\(aL s [] q).2=0/\∀d h',PH.le h h'->dG h' (fX q) d->d.op=opE q->K (aQ d) m h'
noncomputable def clJ(s t:Sl)(m:MH)(h:PH):Ctx:=
 dE [(55,I8)] [(2,{A:=Nat×Nat,st:=λ⟨c,d⟩=>bU 42 44 [(0,sv s),(1,sv t),(5,iv c),(6,iv d)] [] m h})] [] [] false
noncomputable def clX(s t:Sl)(i:Bool)(m:MH)(h:PH):Ctx:=
 dE [(21,cSJ)] [(3,{A:=Nat×bx,st:=λ⟨j,c⟩=>bU 27 30 [(1,sv t),(2,bv i),(7,.at (.lst 24)),(10,sv s),(11,iv s.len),(12,iv j)] [(24,.lst 65 1 (c.map eS))] m h})] [] [] false
noncomputable def ceZ(N:Nat)(v:QV)(m:MH):Ctx:=
 dE [(42,bUZ),(68,cTJ N),(77,atX),(78,Po),(79,VN)] [(5,{A:=Nat×da×PV×Sl×Sl×PH,st:=λ⟨i,c,w,s,t,h⟩=>bU 44 45 [(2,.at (.ptr 2 0)),(3,.at (.ptr 3 0)),(29,sv v.args),(30,iv v.args.len),(31,iv i)] [(2,.cells 41 zQ),(3,.cells 41 ((QV.enc ⟨v.op,v.table,w,s,t,cE,cE,0,cE⟩).take 20 |>.map .val |>.append [.lst 40])),(40,.lst 41 21 (c.map QV.enc))] m h})] [(4,{A:=PV×Sl×Sl×PH,st:=λ⟨w,s,t,h⟩=>bU 44 45 [(1,.at (.ptr 1 0)),(2,.at (.ptr 2 0)),(3,.at (.ptr 3 0))] [(1,.cells 41 (v.enc.map .val)),(2,.cells 41 zQ),(3,.cells 41 ((QV.enc ⟨v.op,v.table,w,s,t,cE,cE,0,cE⟩).map .val))] m h})] [] false
abbrev HM(a:Nat×Nat):Int:=bE a.1 (fG (Int.tdiv (fG ((↑a.2:Int)-(↑a.1:Int))) 2))
attribute [push_cast] HM
def XV(s t:Sl)(m:MH)(h:PH)(K:bo):Prop:=
  Ib (λI x=>aA (I x) (aJ s) (aA (aJ t) (bA x.1) (cZ (bO s.len=bO x.2) m m h h))) (λI g x=>I x->aY (↑x.1:Int) (↑x.2:Int) (mK ((2:Int)=0)/\bJ (λb o=>aI (aW s.a b o) (0<=HM x) (HM x<aH s) (∃(y:Sl),aK m h b (o+gY (HM x) 1) (aR y)/\∃(d:Sl),oS (λe a=>∃(f:ca),aI (cJ y t=cJ d e) (bS h d a) (bS h e f) (aY (eW a f) 0 (∃(c:Nat×Nat),aA (I c) (g c<g x) (aA (aJ s) (aJ t) (aA (SV.at (At.val (fV (fG (HM x+1))))=bO c.1) (cD x.2 c.2) (aA (m=m) (h=h) True)))) (∃(c:Nat×Nat),aA (I c) (g c<g x) (aA (aJ s) (aJ t) (aA (cD x.1 c.1) (SV.at (At.val (fV (HM x)))=bO c.2) (aA (m=m) (h=h) True))))))))) (aY (↑x.1:Int) (aH s) (bJ (λb o=>aI (aW
 s.a b o) (0<=(↑x.1:Int)) ((↑x.1:Int)<aH s) (∃(y:Sl),aK m h b (o+bM x.1 1) (aR y)/\∃(d:Sl),oS (λe a=>∃(f:ca),aI (cJ y t=cJ d e) (bS h d a) (bS h e f) (K (Af (eW a f==0)) m h))))) (K bH m h)))
def XT(s t:Sl)(i:Bool)(m:MH)(h:PH)(K:bo):Prop:=
  O2 (λI x=>aA (I x) (aJ t) (aA (eQ (sQb i)) (eL 24) (aA (aJ s) (bI s) (aA (bA x.1) (AR x.2) (dY m m h h))))) (λI x=>I x) (λx=>x) s (λI d x b o y=>aK m h b (o+bM x.1 1) (aR y)/\Jq (λe f l r=>aA (cJ t y=cJ e f) (Rows h e l) (aA (bS h f r) (lN l) (branch (GO l r==i) (aA (kB (gH x.2)) (dO (gH x.2)) (∃(c:Nat×bx),aA (I c) (d c<d x) (aA (aJ t) (eQ (sQb i)) (aA (eL 24) (aJ s) (aA (bI s) (gK (bE x.1 1)=bO c.1) (cZ (xA (gH x.2) y c.2) m m h h)))))) (∃(c:Nat×bx),aA (I c) (d c<d x) (aA (aJ t) (eQ (sQb i)) (aA (eL 24) (aJ s) (aA (bI s) (gK (bE x.1 1)=bO c.1) (cZ (rG x.2 c.2) m m h h))))))))) h K m
abbrev AK(a:Int):bt:=bF (fV 4) (fV a) C7
attribute [push_cast] AK
def av(n:Int)(m:MH)(h:PH)(K:bo):Prop:=
  K (kQ (AK n)) m h
abbrev Ky(a:QV)(b:PH)(c:Sl->PH->(PV×Sl×Sl×PH)->Prop):Prop:=G6 (λx e=>aA (eO (mQ a.on) (mQ x)) (jC b x e) (∀(f:Sl)(d:PH),bQ b d (jC d f e) (∃(g:PV×Sl×Sl×PH),c f d g)))
abbrev vT(a:QV)(b:PV)(c d:Sl)(e:ct):ct:=gA (j9 a.op) (yT a) (pQ b (gA (yG c) (yG d) (gA JJ JJ e)))
abbrev Ba(a:PV×Sl×Sl×PH):Sl:=a.2.2.1
abbrev xJ(a:PV×Sl×Sl×PH):Nat->Nat->Option Value:=a.2.2.2
abbrev Kz:ct:=oJ hU (At.lst 40)
abbrev wI(a:Nat×da×PV×Sl×Sl×PH):PV×Sl×Sl×PH:=a.2.2
abbrev zT(a:Nat×da×PV×Sl×Sl×PH):PV:=(wI a).1
abbrev F5(a:Nat×da×PV×Sl×Sl×PH):List bt:=List.map QV.enc a.2.1
attribute [push_cast] Ky vT Ba xJ Kz wI zT F5
def Xn(N:Nat)(v:QV)(m:MH)(h:PH)(K:bo):Prop:=
  ∃(o:Int),hX (rR v.op o) (DB o) (bJ (λb z=>aI (aW v.args.a b z) ((0:Int)<=0) (0<aH v.args) (∃(y:QV),aK m h b (z+0) y.enc/\oW (λg q=>∃(s:jQ),aA (vG (cA y)=vG (cA g)) (dG h q g) (aA (xQ q N) ((aL s [] q).2=0) (∀(e:QV)(d:PH),bQ h d (dG d (fX q) e) (e.op=opE q->K (cA e) m d))))))) (∃(I:PV×Sl×Sl×PH->Prop),(sP (λg p=>aA (eO (gP v.where_) (gP g)) (fH h p g) (∀(e:PV)(d:PH),bQ h d (fH d p e) (xC v.columns d (λl=>∀(s:Sl)(f:PH),bQ d f (Ints f s l) (Ky v f (λn u x=>aA (I x) eM (aA (eP 2) jR (aA (eJ v) jZ (aA (oQ 41 (vT v e s n Ej)=oQ 41 (vT v x.1 x.2.1 (Ba x) Ej)) (m=m) (bT u (xJ x))))))/\Ky v f (λn u x=>
 aA (I x) eM (aA (eP 2) jR (aA (eJ v) jZ (aA (oQ 41 (vT v e s n Ej)=oQ 41 (vT v x.1 x.2.1 (Ba x) Ej)) (m=m) (bT u (xJ x))))))))/\xC v.columns d (λl=>∀(s:Sl)(f:PH),bQ d f (Ints f s l) (Ky v f (λn u x=>aA (I x) eM (aA (eP 2) jR (aA (eJ v) jZ (aA (oQ 41 (vT v e s n Ej)=oQ 41 (vT v x.1 x.2.1 (Ba x) Ej)) (m=m) (bT u (xJ x)))))))))))/\sP (λg p=>aA (eO (gP v.where_) (gP g)) (fH h p g) (∀(e:PV)(d:PH),bQ h d (fH d p e) (xC v.columns d (λl=>∀(s:Sl)(f:PH),bQ d f (Ints f s l) (Ky v f (λn u x=>aA (I x) eM (aA (eP 2) jR (aA (eJ v) jZ (aA (oQ 41 (vT v e s n Ej)=oQ 41 (vT v x.1 x.2.1 (Ba x) Ej)) (m=m)
 (bT u (xJ x))))))))))))/\∀(x:PV×Sl×Sl×PH),I x->∃(I1:Nat×da×PV×Sl×Sl×PH->Prop)(A:Nat×da×PV×Sl×Sl×PH->Nat),(∃(c:Nat×da×PV×Sl×Sl×PH),aA (I1 c) iU (aA (eP 3) (aJ v.args) (aA (vV v) (bA c.1) (aA jZ (oQ 41 (vT v x.1 x.2.1 (Ba x) Kz)=oQ 41 (vT v (zT c) (wI c).2.1 (Ba (wI c)) Kz)) (cZ (uW 41 21 (F5 c)) m m (xJ x) (xJ (wI c)))))))/\∀(c:Nat×da×PV×Sl×Sl×PH),I1 c->aY (↑c.1:Int) (aH v.args) (bJ (λb z=>aI (aW v.args.a b z) (0<=(↑c.1:Int)) ((↑c.1:Int)<aH v.args) (∃(y:QV),aK m (xJ (wI c)) b (z+bM c.1 21) y.enc/\oW (λg q=>∃(s:jQ),aA (vG (cA y)=vG (cA g)) (dG (xJ (wI c)) q g) (aA
 (xQ q N) ((aL s [] q).2=0) (∀(e:QV)(d:PH),bQ (xJ (wI c)) d (dG d (fX q) e) (e.op=opE q->aA (i7 (jW (F5 c) 1) 280) (dO (F5 c)) (∃(j:Nat×da×PV×Sl×Sl×PH),aA (I1 j) (A j<A c) (aA iU jR (aA (aJ v.args) (bI v.args) (aA (gK (bE c.1 1)=bO j.1) jZ (aA (oQ 41 (vT v (zT c) (wI c).2.1 (Ba (wI c)) Kz)=oQ 41 (vT v (zT j) (wI j).2.1 (Ba (wI j)) Kz)) (bR 41 21 (dL (F5 c) e.enc)=bR 41 21 (F5 j)) (aA (m=m) (d=xJ (wI j)) True))))))))))))) (bY (xJ (wI c)) 21 (F5 c) (λs d=>K (kQ (bF (fV v.op) (rW v) (bF (fV (zT c).op) (fV (zT c).cmp) (bF (nR (zT c).left) (yQ (zT c).left) (bF (fV (pY (zT
 c).left)) (tT (zT c).left) (F6 (zT c) (dP (wI c).2.1) (tP (dP (Ba (wI c))) (aR s)))))))) m d)))
def XJ(sc:bZ)(v:QV)(m:MH)(h:PH)(K:bo):Prop:=
  KC sc v h (λs p q d=>cV (yS s p q) 0 (K (CV.tup (eF zV (CV.val (fV (yS s p q))))) m d) (oW (λg c=>∃(j:jQ),aI (eO (cA v) (cA g)) (dG d c g) ((aL j [] c).2=0) (∀(e:QV)(f:PH),bQ d f (dG f (fX c) e) (e.op=opE c->K (CV.tup (eZ (cA e) 0)) m f)))))
theorem a9X:bm 21 cSJ:=by
 refine iQ func21 ?_;rintro T m h K ⟨s,t,l,r,rfl,C,O,U,E⟩;refine⟨clJ s t m h,rfl,aE aa aG,XV s t m h K,ax,?_⟩;dsimp only[XV,push_cast];have V:=bL.slen C;have W:=C.len;refine⟨λx=>x.1<=x.2/\x.2<=l.length/\(∀(j:Nat) y,j<x.1->l[j]? =some y->eW y r<0)/\(∀(j:Nat) y,x.2<=j->l[j]? =some y->0<=eW y r),λx=>x.2-x.1,⟨(0,l.length),⟨ay,ay,λj y g=>by simp at g,λj y g n=>bg⟩,bg⟩,?_⟩;rintro⟨c,d⟩ ⟨X,P,Q,R⟩;dsimp only at X P Q R⊢
 have S:∀{i j:Nat}{x y},l[i]? =some x->l[j]? =some y->i<j->eW x y<0:=fun{i j x y} Y n F=>by
  obtain⟨G,rfl⟩:=List.getElem?_eq_some_iff.1 Y;obtain⟨H,rfl⟩:=List.getElem?_eq_some_iff.1 n;exact pairwise_iff_getElem.1 U i j G H F
 refine aF (λZ=>?_) (λa'=>?_)
 .have e1:IntKind.i64.wrap ((d:Int)-(c:Int))=((d-c:Nat):Int):=by
   rw[show(d:Int)-(c:Int)=((d-c:Nat):Int)by omega];exact fB aC aC
  have A:(((d-c:Nat):Int)).tdiv 2=(((d-c)/2:Nat):Int):=by
   grind
  have e3:IntKind.i64.wrap ((((d-c)/2:Nat):Int))=(((d-c)/2:Nat):Int):=fB aC aC
  have e4:IntKind.i64.wrap ((c:Int)+(((d-c)/2:Nat):Int))=((c+(d-c)/2:Nat):Int):=by
   rw[show(c:Int)+(((d-c)/2:Nat):Int)=((c+(d-c)/2:Nat):Int)by omega];exact fB aC aC
  rw[e1,A,e3,e4];generalize D:c+(d-c)/2=k;have I:c<=k:=by omega
  have a0:k<d:=by omega
  rw[iS aC];have f:k<l.length:=by omega
  obtain⟨b,o,u,J,rd,L⟩:=bL.at C (getElem?_eq_getElem f);refine⟨az,b,o,J,aC,aC,u,.imm rd,u,t,l[k],r,rfl,L,O,aF (λz=>?_) (λz=>?_)⟩
  .refine⟨(k+1,d),⟨aC,P,λj y g n=>?_,R⟩,aC,MT⟩;by_cases M:j=k
   .grind
   .exact Gp (S n (getElem?_eq_getElem f) aC) z
  .refine⟨(c,k),⟨I,aC,Q,λj y g n=>?_⟩,aC,MT⟩;by_cases M:j=k
   .grind
   .have h6:=S (getElem?_eq_getElem f) n aC;refine Int.not_lt.1 λh7=>?_;exact z (Gp h6 h7)
 .have e:c=d:=by omega
  subst e;refine aF (λz=>?_) (λz=>?_)
  .have B:c<l.length:=by omega
   obtain⟨b,o,u,J,rd,L⟩:=bL.at C (getElem?_eq_getElem B);refine⟨b,o,J,aC,z,u,.imm rd,u,t,l[c],r,rfl,L,O,?_⟩
   have A:(eW l[c] r==0)=GO l r:=by
    rw[Bool.eq_iff_iff,beq_iff_eq,D0,lB];refine⟨λe=>e▸getElem_mem B,λD=>?_⟩;obtain⟨j,g⟩:=getElem?_of_mem D;have hz:eW r r=0:=lB.2 rfl
    grind
   rw[A];exact E
  .have A:GO l r=false:=by
    rw[azX];intro D;obtain⟨j,g⟩:=getElem?_of_mem D;have hz:eW r r=0:=lB.2 rfl
    grind
   rw[A]at E;exact E
theorem a8Z:bm 22 b1J:=by
 refine iQ func22 ?_;rintro E m h K ⟨s,t,i,l,k,rfl,A,F,G,M,H⟩;refine⟨clX s t i m h,rfl,aE a9X aG,XT s t i m h K,ax,?_⟩;dsimp only[XT,push_cast];have f:=bL.slen A;refine⟨λx=>x.1<=l.length/\x.2.length<=x.1/\eX h x.2 ((l.take x.1).filter λx=>GO k x==i),λx=>l.length-x.1,⟨(0,[]),⟨ay,ay,bk (eX.nil h)⟩,MT⟩,?_⟩;rintro⟨j,B⟩ ⟨I,g,d⟩;dsimp only at I g d⊢
 refine aF (λc=>?_) (λJ=>?_)
 .obtain⟨r,C⟩:=eV f c;obtain⟨b,o,u,e,rd,D⟩:=bL.at A C;have n:=jF (λx=>GO k x==i) C;rw[iS aC];refine⟨b,o,e,aC,c,u,.imm rd,t,u,k,r,rfl,F,D,G,aD (λy=>?_) (λy=>?_)⟩
  .rw[if_pos y]at n;exact⟨bg,bg,(j+1,B++[u]),⟨aC,bf,by rw[n];exact d.snoc D⟩,aC,by rw[map_append];exact MT⟩
  .rw[if_neg (by rw[y];simp),append_nil]at n;exact⟨(j+1,B),⟨aC,bg,bg⟩,aC,MT⟩
 .rw[take_of_length_le aC]at d
  exactλL h' le z=>H L h' le ((d.mono le).rows z bg)
theorem aw:bm 56 cSQ:=by
 refine iQ func56 ?_;rintro c m h K ⟨n,rfl,d⟩;refine⟨dE [] [] [] [] false,rfl,aG,av n m h K,ax,?_⟩;exact d
theorem aCX:∀N,bm 68 (cTJ N)
 |0=>by
  refine fK (fn:=Tryz.f68) (c:=dX Tryz.f68) func68 rfl az ?_;rintro V m h K ⟨v,q,s,rfl,_,hN,_⟩;omega
 |N+1=>by
  refine iQ func68 ?_;rintro V m h K ⟨v,q,s,rfl,hq,hN,hk,hK⟩;refine⟨ceZ N v m,rfl,aE SO (aE (aCX N) (aE SJ (aE Mt (aE SI aG)))),Xn N v m h K,ax,?_⟩;dsimp only[Xn,push_cast];have d:=@C3 q;obtain⟨op,ta,w,co,on,gr,od,li,args⟩:=q;simp only[Query.args]at d;have x:=hq.parts;have W:=x.args_.slen;have a1:=x.args_.len;obtain⟨G,a2,_⟩:=lL hk;have C:=x.op_;refine⟨v.op,rfl,aD (λS=>?_) (λS=>⟨λz=>PH.le h z.2.2.2/\fH z.2.2.2 w z.1/\Ints z.2.2.2 z.2.1 co/\jC z.2.2.2 z.2.2.1 on,?_,?_⟩)⟩
  .rw[C]at S;have X:=UK S
   obtain⟨a,f,rfl⟩:∃a f,args=a::f:=by
    cases args with
    |nil=>
     exfalso;have:(1:Int)<=arity op:=by rcases X with rfl|rfl|rfl<;>decide
     grind
    |cons a f=>grind
   obtain⟨b,o,u,e,r,Y⟩:=x.args_.at (i:=0) (x:=a) rfl;have Z:=d (q:=a) ay
   exact⟨b,o,e,aC,bg,u,.imm (bk r),u,a,s,rfl,Y,aC,G a ay,λv' h' le H X=>by
    have e:fX (.mk op ta w co on gr od li (a::f))=fX a:=by rw[fX,if_pos S,GB];rfl
    exact hK v' h' le bg (by rw[opE,e];exact X)⟩
  .repeat' (first
    |(refine⟨v.where_,w,rfl,x.where_,λv1 h1 D r1=>?_⟩)
    |(refine⟨v.columns,co,rfl,x.columns_.mono D,λT h2 E r2=>?_⟩)
    |(refine⟨v.on,on,rfl,x.on_.mono (D.trans E),λU I F r3=>?_⟩)
    |(exact⟨(v1,T,U,I),⟨(D.trans E).trans F,r1.mono (E.trans F),r2.mono F,r3⟩,MT⟩)
    |apply And.intro)
  .rintro⟨w',T,U,hx⟩ ⟨J,L,M,O⟩;dsimp only at J L M O⊢
   refine⟨λz=>z.1<=args.length/\z.2.1.length=z.1/\z.2.2.1=w'/\z.2.2.2.1=T/\z.2.2.2.2.1=U/\PH.le hx z.2.2.2.2.2/\QsU z.2.2.2.2.2 z.2.1 ((args.take z.1).map fX),λz=>args.length-z.1,⟨(0,[],w',T,U,hx),⟨aC,rfl,rfl,rfl,rfl,.refl _,⟨rfl,λi q e=>by simp at e⟩⟩,MT⟩,?_⟩;rintro⟨i,us,w2,t2,t3,hy⟩ ⟨hi,P,e1,e2,e3,g,j⟩;dsimp only at hi P e1 e2 e3 g j⊢
   subst e1 e2 e3;have A:=J.trans g;have n:DB op=false:=bg
   have B:fX (.mk op ta w co on gr od li args)= .mk op ta w co on gr od li (args.map fX):=by rw[fX,if_neg (by simp[n]),EW]
   refine aF (λQ=>?_) (λa3 s4 h' le a'=>hK ⟨v.op,v.table,w2,t2,t3,cE,cE,0,s4⟩ h' (A.trans le) ?_ (by rw[opE,B];exact C))
   rotate_left
   .rw[B];rw[take_of_length_le aC]at j
    have a0:gr=[]/\od=[]/\li=0:=by
     obtain⟨_,_,a,b,_,_,I⟩:=lL hk;unfold eK at I;by_cases c0:arity op<0\/¬cR (.mk op ta w co on gr od li args)
     .rw[if_pos c0]at I;simp[eC]at I
     .rw[not_or]at c0;obtain⟨_,_,_,_,u5⟩:cR (.mk op ta w co on gr od li args):=Classical.not_not.1 c0.2;rcases u5 with e|e|e
      .rw[e]at n;cases n
      .rw[e]at n;cases n
      .exact e
    obtain⟨rfl,rfl,rfl⟩:=a0;have lx:=g.trans le;exact tU.rep ⟨C,x.table_,L.mono lx,M.mono lx,O.mono lx,mY h',u9 h',rfl,⟨⟨us,a',j.len.symm,(j.mono le).at_⟩,bg⟩⟩
   obtain⟨q,y⟩:=eV W Q;have R:=mem_of_getElem? y;obtain⟨b,o,u,e,r,Y⟩:=(x.args_.mono A).at y;have Z:=d R;have a4:=(List.getElem?_eq_some_iff.1 y).1;exact⟨b,o,e,aC,Q,u,.imm r,u,q,s,rfl,Y,aC,G q R,λv' h' le H _=>⟨bg,bg,(i+1,us++[v'],w2,t2,t3,h'),⟨aC,by simp[P],rfl,rfl,rfl,g.trans le,by dsimp only;rw[take_add_one,y,Option.toList_some,map_append];exact(j.mono le).snoc H⟩,aC,by rw[map_append];exact MT⟩⟩
theorem a3X:bm 68 cUQ:=mM aCX λ_ _ _ _⟨v,q,s,e,c,d,f⟩=>⟨SizeOf.sizeOf q+1,v,q,s,e,c,aC,d,f⟩
theorem cKQ{q:Query}(j:iF h s sc)(f:dG h q v)(g:(fI s [] q).2=0)(n:∀c h',PH.le h h'->dG h' (fX q) c->c.op=opE q->K (.tup [aQ c,cI 0]) m h'):XJ sc v m h K:=
 ⟨sc,cE,v,s,[],q,rfl,j,WT h,f,(Bw g).2.2.1,λ_ y d _=>aD (λe=>bg) (λ_=>⟨v,q,s,rfl,f.mono d,(NF g).1,λc h' le o u=>n c h' (d.trans le) o u⟩)⟩
theorem SR:bm 29 VL:=by
 refine iQ func29 ?_;rintro c m h K ⟨sc,v,s,q,rfl,d,e,f,g⟩;refine⟨dE [(37,BI),(68,cUQ)] [] [] [] false,rfl,aE Gi (aE a3X aG),XJ sc v m h K,ax,?_⟩;exact cKQ d e f g
theorem bpZ{q:Query}{B:Nat}(c:eH s=0)(g:gO s q)(E:lO q<=24)(F:gI 4 q<=B)(n:B*60<=8000000):
 Ao s [] [] (lS s q) (qU (yF s) q (fX q))/\(lS s q).1.length<=200/\(lS s q).2.length<=24/\IN (fP s q []).1/\kY (fP s q []).1=lO q:=by
 have o:=Wf c;obtain⟨u,_,d,e⟩:=VY o q [] g (Ez.nil s) bf;obtain⟨y,f⟩:=bpX _ d;rw[e]at f;have j:=d.get;rw[e]at j;obtain⟨_,z,_,A,_,_,_⟩:=j;have ev:=De q g;have C:=Dw s q [];simp only[length_nil,Nat.zero_add]at C;have G:2*B*kY (fP s q []).1<=2*B*24:=Nat.mul_le_mul_left _ aC;have H:=iP (fP s q []).1 ((fP s q []).1.env:Int) (fP s q []).2 [];have D:=wO c (fP s q []).1 B (2*B) B (fP s q []).1.env (fP s q []).2 [] d u z bg bg (Nat.le_refl _) bg aC aC;rw[e,A]at D;refine⟨D.shift (nil_prefix),?_,?_,y,f⟩
 .show(gC _ _ _ _).1.length<=200;omega
 .show(gC _ _ _ _).2.length<=24
  grind
structure aKX(s:jQ)(q:Query):Prop where
 ok:VG s q
 valid:jD s (lS s q).1 (lS s q).2=0
 run:∀st,kJ s st=0->StV st->(∀l∈st,l.length<=4)->IM s st (lS s q).1/\(∀l∈oP st (lS s q).1,l.length<=8000000/\∀r∈l,r.length<=1000)/\L8 st (lS s q)=(qU (yF s) q (fX q)).map (nW st)
theorem aTX{s:jQ}{q:Query}{B:Nat}(e:eH s=0)(g:gO s q)(E:lO q<=24)(F:gI 4 q<=B)(j:B*60<=8000000):aKX s q:=by
 obtain⟨D,L,M,G,O⟩:=bpZ e g E F j;obtain⟨P,o,H,I⟩:=D.ex;rw[nil_append]at o;refine⟨λh=>⟨aQZ h,G,aC,aC⟩,Wu D.inv e aC aC λr u=>?_,λy n J z=>?_⟩
 .grind
 .have f:∀i,i<(lS s q).1.length->iG (aL s [] (aU (lS s q).1 i)).1.length (nW y (aU (lS s q).1 i))/\(nW y (aU (lS s q).1 i)).length<=8000000:=λi c=>by
   have x:=PG n J z aC (D.inv.good i c).k (D.inv.good i c).bnd
   grind
  refine⟨⟨D.inv.ar,D.inv.fit,λi c=>(D.inv.good i c).kinds,4,aC,z,λi c=>(D.inv.good i c).bnd⟩,λl A=>?_,?_⟩
  .unfold oP at A;obtain⟨i,c,rfl⟩:=mem_map.1 A;have c:i<(lS s q).1.length:=bg
   refine⟨(f i c).2,λr u=>?_⟩;have Q:=(f i c).1.wid r u;have R:=lM s [] (aU (lS s q).1 i);omega
  .unfold L8;rw[o, <-I,map_map,map_map];refine map_congr_left λd C=>?_;have C:=H d C;simp only[Function.comp,Int.toNat_natCast,oP]
   grind
end Go.Ps
