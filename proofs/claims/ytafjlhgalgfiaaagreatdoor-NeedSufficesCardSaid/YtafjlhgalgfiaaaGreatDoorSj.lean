/- Own work. -/
import Derived.Test.YtafjlhgalgfiaaaGreatDoorSi
set_option linter.unusedVariables false
set_option linter.unusedSimpArgs false
namespace Go.Ps
open Go Go.Vc Go.Proofs List Tryz
variable{K:cn}{m:MH}{h:PH}{s:jP}{ps:cq}{ts:dg}{cb:Nat}{sc:cA}{v:QV}{t:Step}{p:Pred}{l:cq}{i:Nat}{N:Nat}{m':MH}{h':PH}{co:cq}{gr:cq}{od:cv}{ta:Int}{li:Int}{xs:List cr}{sz:Nat}{ks:List cq}{rs:cq}{r:Sl}{a:cq}{b:Nat}
def Sp:Vc.Spec:=λc m h K=>∃s t d v od a b,c=[cS s,cS t,cP d]/\m d=some (.cells ⟨xC.enc v⟩ 101 (0,0))/\jC h v.order od/\bS h s a/\bS h t b/\K (cI (jR od a b)) m h
def aSX:Vc.Spec:=λd m h K=>∃(s:Sl)(e:Nat)(v:xC)(od:cv)(w:Nat)(ps:dm),d=[cS s,.val (.func (.func 165) #[] #[.pointer (some ⟨e,0,none⟩)])]/\m e=some (.cells ⟨xC.enc v⟩ 101 (0,0))/\(∀i,s.a≠some ⟨e,i,none⟩)/\jC h v.order od/\cW m s 65 1 (ps.map λp=>eS p.1)/\(∀p∈ps,bS h p.1 p.2)/\(∀p∈ps,p.2.length=w)/\ps.length<=140737488355328/\
 ∀(c:dm)(m':MH),c.Perm ps->c.Pairwise (λp q=>¬jR od q.2 p.2<0)->cW m' s 65 1 (c.map λp=>eS p.1)->(∀b,(∀i,s.a≠some ⟨b,i,none⟩)->m' b=m b)->K (.tup []) m' h
def Zn:Vc.Spec:=λc m h K=>∃v s gr od l w,c=[aT v,cS s]/\Ints h v.group gr/\jC h v.order od/\Rows h s l/\iL w l/\jM w gr/\eD m/\
 ∀y d e f g,m y=none->(∀b,b≠y->d b=m b)->PH.le h e->sM rF d e y gr od l f g->K (.val (.map (some y))) d e
noncomputable def bWX s:=rI [(100,U2),(135,aSX)] [(3,{A:=Nat×Nat×Nat×MH×PH,st:=λ⟨b,y,i,m,h⟩=>bZ 41 43 [(2,pv b),(5,vv (.map (some y))),(12,sv s),(13,iv s.len),(14,iv i)] [] m h}),
 (9,{A:=Nat×Nat×Nat×MH×PH,st:=λ⟨b,y,r,m,h⟩=>bZ 41 43 [(2,pv b),(5,vv (.map (some y))),(32,pv r)] [] m h})] [] [] [200002,1058,400000,0] [] false
def bnQ(s t:Sl)(c:Nat)(m:MH)(h:PH)(K:cn):=
  kW m h c 18 (λy=>Lb y s t h (λo a b=>K (gG (jR o a b)) m h))
noncomputable abbrev iO a b:=Value.string (rF (pick a b))
abbrev K8(a:MH)(b:Nat×Nat×Nat×MH×PH)(c:db)(d:MH->(Nat×Nat×Nat×MH×PH)->Prop):=∀(x:MH),bF (j6 a x (fT b)) (pU x (fT b) c) (∃(e:Nat×Nat×Nat×MH×PH),d x e)
attribute [push_cast] iO K8
def NL(v:xC)(s:Sl)(m:MH)(h:PH)(K:cn):=
  ∀(b:Nat)(J:MH),bF (cK m h b) (bL m J b v.enc 101) (xO J h (λP Q=>PG (λI x=>aA (I x) (bY b x.1) (aA (kZ P (fT x)) (aJ s) (aA (bJ s) (bE (fS x)) (aA (bW Q (fK x)) (eH h (fK x)) True)))) (λI n x=>I x->bA (↑(fS x):Int) (aG s) (bK (λD o=>aI (aW s.a D o) (0<=(↑(fS x):Int)) ((↑(fS x):Int)<aG s) (∃(y:Sl),aL (lM x) (jV x) D (o+bM (fS x) 1) (aM y)/\∃(L:Sl),aL (lM x) (jV x) x.1 17 (aM L)/\∃(u:Sl),AN (λt r c=>aA (cJ y L=cJ u t) (bS (jV x) u r) (aA (Ints (jV x) t c) (Pb r) (aA (AM r c) (eD (lM x)) (tJ (lM x) (fT x) (λO=>O (iO r c)) (iO r c) (∃(e:List cr),F3 (lM x) e y (λB f=>rM f (fT
 x) (λO=>O (iO r c)) (iO r c) (λk=>K8 f x (gZ k (iO r c) (dX B) []) (λg d=>aA (I d) (n d<n x) (aA (bY x.1 d.1) (kZ (fT x) (fT d)) (aA (aJ s) (bJ s) (aA (gX (bH (fS x) 1)=bP (fS d)) (bW g (fK d)) (lF (dC (fK x) (fK d)))))))) (λl C z=>gZ l (iO r c) C z) (λl z=>K8 f x (gZ l (iO r c) (dX B) z) (λg d=>aA (I d) (n d<n x) (aA (bY x.1 d.1) (kZ (fT x) (fT d)) (aA (aJ s) (bJ s) (aA (gX (bH (fS x) 1)=bP (fS d)) (bW g (fK d)) (lF (dC (fK x) (fK d)))))))))) (λM=>∃(e:List cr),aI (cW (lM x) (dO M) 65 1 e) (kP e) (dR e) (jY (λB f=>gK (lM x) f (dO M) B 65 1 (dN e (aM y))->rM
 f (fT x) (λO=>O (iO r c)) (iO r c) (λk=>K8 f x (gZ k (iO r c) (dX B) []) (λg d=>aA (I d) (n d<n x) (aA (bY x.1 d.1) (kZ (fT x) (fT d)) (aA (aJ s) (bJ s) (aA (gX (bH (fS x) 1)=bP (fS d)) (bW g (fK d)) (lF (dC (fK x) (fK d)))))))) (λl C z=>gZ l (iO r c) C z) (λl z=>K8 f x (gZ l (iO r c) (dX B) z) (λg d=>aA (I d) (n d<n x) (aA (bY x.1 d.1) (kZ (fT x) (fT d)) (aA (aJ s) (bJ s) (aA (gX (bH (fS x) 1)=bP (fS d)) (bW g (fK d)) (lF (dC (fK x) (fK d)))))))))))))))))) (Lf (lM x) (fT x) (jV x) (λr f=>PG (λI1 e=>aA (I1 e) (bY x.1 e.1) (aA (kZ (fT x) (fT e)) (bY r (fS e)) (aA (bW
 f (fK e)) (dC (fK x) (fK e)) True))) (λI1 g e=>Le (I1 e) (lM e) (fS e) (K (CV.val (Dt (fT e))) (lM e) (jV e)) (λE=>QT (λD k l d=>Es E D (fS e) k l d/\∃(u:Sl)(F:Nat)(C:xC)(o:cv)(w:Nat)(p:dm),aA (gC (CV.val d.2) (mR 165 (Ca e.1))=gT u (mR 165 (Ca F))) (E F=Option.some (gO (Array.mk C.enc) 101 0)) (aA (∀(i:Nat),mS (aW u.a F i)) (jC (jV e) C.order o) (aA (F2 E u p) (∀(j:Sl×da),List.Mem j p->bS (jV e) j.1 j.2) (aA (∀(j:Sl×da),List.Mem j p->j.2.length=w) (oC p.length) (∀(j:dm)(G:MH),bF (List.Perm j p) (List.Pairwise (fun(R:Sl×da)=>fun(q:Sl×da)=>¬(jR o q.2 R.2<0)) j) (bF
 (F2 G u j) (∀(H:Nat),(∀(i:Nat),mS (aW u.a H i))->G H=E H) (∃(A:Nat×Nat×Nat×MH×PH),aA (I1 A) (g A<g e) (aA (bY e.1 A.1) (kZ (fT e) (fT A)) (aI (bY (fS e) (fS A)) (bW G (fK A)) (dC (fK e) (fK A)) True))))))))))))))))
theorem anZ:cm 165 Sp:=by
 refine iU func165 ?_;rintro c m h K ⟨s,t,d,v,od,a,b,rfl,e,f,g,j,n⟩;refine⟨rI [(110,H9)] [] [] [] [0] [] false,rfl,aE GV aH,bnQ s t d m h K,ax,?_⟩;exact⟨v.order,.of_m e rfl,v.order,s,t,od,a,b,rfl,f,g,j,n⟩
theorem YD:cm 135 aSX:=by
 refine⟨⟨Tryz.f135,func135,rfl,az⟩,?_⟩;rintro j f m h w K ⟨s,c,v,od,n,ps,rfl,I,u,z,A,B,C,D,E⟩ d
 obtain⟨F,e,rfl⟩:∃v e,f=[v,e]:=by
  have:=(rJ d.args).1
  match f,this with
  |[v,e],_=>grind
 have G:F=s.val:=d.args.1;have H:e= .func (.func 165) #[] #[.pointer (some ⟨c,0,none⟩)]:=d.args.2.1;subst G H;refine MB (R:=λl=>l.length=n) (g:=165) (cb:=[.pointer (some ⟨c,0,none⟩)]) (m2:=λb=>if b=c then m c else none) (cf:=jR od) rfl d ⟨Tryz.f165,func165,rfl,az⟩ A B C D (YW od) ⟨Sp,anZ,λx y=>⟨x.s,y.s,c,v,od,x.l,y.l,rfl,bg,z,x.ok,y.ok,rfl,rfl,rfl⟩⟩ (λb o J=>?_) E
 grind
theorem nK.appV{m0 y kk us key s e}{Q:MH->Prop}(g:nK m0 m y kk us)(A:∃o,m0 y=some o)(E:(us key).length<=502633886983)(B:∀m' f,nK m0 m' y f (O3 us key e)->Q m')(n:DH kk key s):
 ∃xs:List cr,cW m (Sl.mk s.a s.len s.cap) 65 1 xs/\(xs.length+1)*24<=140737488355328/\xs.length<140737488355328/\∀(j:Sl)(d:MH),gK m d (Sl.mk s.a s.len s.cap) j 65 1 (xs++[[dX e]])->
 ∃(c:db)(Ok:Value->Prop),pU d y c/\KeyLaw Tryz.prog 9 Ok/\Ok (.string key)/\Instr.sameBits 10000 (Value.string key) (Value.string key)=true/\(∀e,List.Mem e c->Ok e.1)/\((∀e,List.Mem e c->e.1=Value.string key->False)->∀m':MH,j6 d m' y->pU m' y (c++[(Value.string key,dX j)])->Q m')/\
  ∀(u:db)(C:Value)(z:db),c=u++(Value.string key,C)::z->∀m':MH,j6 d m' y->pU m' y (u++(Value.string key,dX j)::z)->Q m':=
 ⟨_,(n.row g).1,bf,bf,λ_ _ D=>g.put A n D B⟩
theorem awQ:cm 106 Zn:=by
 refine SF func106 ?_;rintro b9 m h K ⟨v,s,gr,od,l,w,rfl,a7,a8,Z,c,H,hT,hK⟩;refine⟨bWX s,rfl,aE Dy (aE YD aH),NL v s m h (cQ h K),ax,?_⟩;show NL v s m h (cQ h K);dsimp only[NL,push_cast];intro bq m1 a' B y I J C;obtain⟨s1,nq⟩:=iT (Sub.refl m) a' B;obtain⟨s2,ny⟩:=iT s1 J C;have D:bq≠y:=λe=>by have:=J.m_;rw[<-e,B.at_]at this;cases this
 have L:I bq=some (.cells ⟨xC.enc v⟩ 101 (0,0)):=by rw[C.other bq D];exact B.at_
 have n:I y=some (.map #[] 0):=C.at_;have a9:=bN.slen Z;have b':=c.len;clear B C a' J s1;have a0:∀{E kk us},nK I E y kk us->Sub m E:=λg z o j=>g.old z o (s2 z o j) (λF=>bg);refine⟨λx=>x.1=bq/\x.2.1=y/\x.2.2.1<=l.length/\x.2.2.2.2=h/\N4 I x.2.2.2.1 h y (mK rF gr (l.take x.2.2.1)),λx=>l.length-x.2.2.1,⟨(bq,y,0,I,h),⟨rfl,rfl,Nat.zero_le _,rfl,⟨[],_,nK.new n,λk=>by simpa[mK]using fA.nil h⟩⟩,MT⟩,?_⟩;rintro⟨M,O,i,E,P⟩ ⟨Q,j,hi,F,⟨kk,uk,g,hg⟩⟩;dsimp only at Q j hi F g hg⊢
 subst Q j F;refine aF (λb0=>?_) (λc'=>?_)
 .obtain⟨r,hr⟩:=fF a9 b0;obtain⟨b,o,u,ea,rd,hv⟩:=bN.at Z hr;have a1:=bo hr;have rq:aL E P M 17 [dX v.group]:=.of_m (g.old M _ L D) rfl
  have hl:(uk (rF (pick r gr))).length<=502633886983:=by
   have h5:=(hg (rF (pick r gr))).len;have h6:(mK rF gr (l.take i) (rF (pick r gr))).length<=(l.take i).length:=length_filter_le _ _
   grind
  rw[iY aC];have nx:∀(m':MH)(d:dr),nK I m' O d (O3 uk (rF (pick r gr)) u)->N4 I m' P O (mK rF gr (l.take (i+1))):=λm' d g'=>N4.upd g' hg hv (by rw[mK,jZ _ hr,if_pos ay];rfl) (λk2 c0=>by rw[mK,jZ _ hr,if_neg bg,append_nil];rfl);exact⟨b,o,ea,aC,aC,u,.imm rd,v.group,rq,u,v.group,r,gr,rfl,hv,a7,c.row r a1,by rw[c.wid r a1];exact H,hT.sub (a0 g),g.get2 (λZ=>g.appV ⟨_,n⟩ hl (λm' d g'=>⟨(M,O,i+1,m',P),⟨rfl,rfl,bg,rfl,nx m' d g'⟩,bg,MT⟩) Z) (λs Z=>g.appV ⟨_,n⟩ hl (λm' d g'=>⟨(M,O,i+1,m',P),⟨rfl,rfl,bg,rfl,nx m' d g'⟩,bg,MT⟩) Z)⟩
 .rw[bt aC]at hg;have mq:=g.old M _ L D;refine⟨_,g.map_,λr m5 b3 b4 it=>?_⟩;have b5:E r=none:=b3.m_
  have a2:∀{z o},E z=some o->m5 z=E z/\z≠r:=fun{z o} j=>by
   have:z≠r:=λF=>bg
   exact⟨b4.other z this,this⟩
  have R:∀p∈kk,∀x i,p.2.a=some ⟨x,i,none⟩->∃o,E x=some o:=λp hp x i j=>⟨_,((g.row p hp).blk j).choose_spec⟩
  refine⟨λz=>z.1=M/\z.2.1=O/\z.2.2.1=r/\z.2.2.2.2=P/\(∀b o,E b=some o->(∀p∈kk,∀i,p.2.a≠some ⟨b,i,none⟩)->z.2.2.2.1 b=some o)/\∃left,mL z.2.2.2.1 O r (kk.map λp=>(Value.string p.1,dX p.2)) left/\∀p∈kk,caZ z.2.2.2.1 P od p (mK rF gr l) ((Value.string p.1,dX p.2)∉left),λz=>leftOf z.2.2.2.1 z.2.2.1,⟨(M,O,r,m5,P),⟨rfl,rfl,rfl,rfl,λb o e _=>(a2 e).1.trans e,_,it,λp hp=>?_⟩,MT⟩,?_⟩
  .obtain⟨ps,Q,j,F⟩:=cEZ (hg p.1);refine⟨ps,?_,F,by rw[j],λhn=>(hn (mem_map_of_mem (f:=λp:ByteArray×Sl=>(Value.string p.1,dX p.2)) hp)).elim⟩;have e5:(ps.map λq=>eS q.1)=(uk p.1).map eS:=by rw[<-Q,map_map];rfl
   rw[e5];exact cW.keep (g.row p hp) λb i e=>(a2 (R p hp b i e).choose_spec).1
  .rintro⟨c1,c2,c3,mz,hz⟩ ⟨Q,j,F,e4,S,left,G,A⟩;dsimp only at Q j F e4 S G A⊢
   subst Q j F e4;refine⟨c2,_,left,G,λT=>?_,λl1 x l2 b6 m6 b7 a3=>?_⟩
   .subst T;exact OL s2 ny n g hg (.refl _) b' S G A hK
   .obtain⟨p0,ps,rfl,a4,a5,hv,hw,c4,U⟩:=OK (m4y:=n) g c b5 S G A b6 b7 a3;have hb:=a4 c1 _ L D;refine⟨c2,_,_,_,a3,p0.2,c1,v,od,w,ps,rfl,hb.1,hb.2,a8,a5,hv,hw,aC,λb8 m7 V W X a6=>?_⟩;obtain⟨k1,⟨Y,k2,k3⟩,k4⟩:=U b8 m7 V W X a6;exact⟨(c1,c2,c3,m7,hz),⟨rfl,rfl,rfl,rfl,k1,Y,k2,k3⟩,k4,rfl,rfl,rfl,rfl,rfl,trivial⟩
def b9Q:Vc.Spec:=λe m h K=>∃v on f g c d,e=[aT v,cS f,cS g]/\jD h v.on on/\Rows h f c/\Rows h g d/\eD m/\cgJ on [c,d]/\c.length*d.length<=8000000/\∀j h',PH.le h h'->Rows h' j (c.flatMap (kL on d))->K (cS j) m h'
noncomputable def cjJ:=rI [(99,NZ),(100,U2),(160,Mu),(161,Su)] [(4,{A:=Nat×Nat×Sl×Sl×Sl×Sl×MH×PH,st:=λ⟨i,y,l,a,b,r,m,h⟩=>bZ 76 79 [(1,sv l),(7,sv a),(8,sv b),(9,vv (.map (some y))),(25,sv r),(26,iv r.len),(27,iv i)] [] m h}),
 (12,{A:=Nat×Nat×Sl×Sl×cu×MH×PH,st:=λ⟨i,y,l,a,c,m,h⟩=>bZ 76 79 [(7,sv a),(9,vv (.map (some y))),(13,.at (.lst 72)),(46,sv l),(47,iv l.len),(48,iv i)] [(72,.lst 65 1 (c.map eS))] m h}),
 (16,{A:=Nat×Nat×Nat×Sl×Sl×Sl×Sl×cu×MH×PH,st:=λ⟨j,i,y,l,a,e,g,c,m,h⟩=>bZ 76 79 [(7,sv a),(9,vv (.map (some y))),(13,.at (.lst 72)),(15,sv e),(46,sv l),(47,iv l.len),(48,iv i),(60,sv g),(61,iv g.len),(62,iv j)] [(72,.lst 65 1 (c.map eS))] m h})] [] [] [1058,400000,0] [] false
noncomputable abbrev uQ(a:Nat×Nat×Sl×Sl×Sl×Sl×MH×PH):=a.2.2.1
noncomputable abbrev v8(a:Nat×Nat×Sl×Sl×Sl×Sl×MH×PH):=a.2.2.2.1
noncomputable abbrev kU(a:Nat×Nat×Sl×Sl×Sl×Sl×MH×PH):=a.2.2.2.2
noncomputable abbrev uB(a:Nat×Nat×Sl×Sl×Sl×Sl×MH×PH):=a.2.1
noncomputable abbrev nC a:=(kU a).2.1
noncomputable abbrev GD a:=(iH (kU a)).1
abbrev K9(a:MH)(b:Nat×Nat×Sl×Sl×Sl×Sl×MH×PH)(c:db)(d:MH->(Nat×Nat×Sl×Sl×Sl×Sl×MH×PH)->Prop):=∀(x:MH),bF (j6 a x (uB b)) (pU x (uB b) c) (∃(e:Nat×Nat×Sl×Sl×Sl×Sl×MH×PH),d x e)
abbrev Ly a b c:=aI (gX (bH a.1 1)=bP b.1) (bW c (iH (kU b))) (dC (iH (kU a)) (iH (kU b))) True
noncomputable abbrev iB(a:Nat×Sl×Sl×cu×MH×PH):=a.2.2
noncomputable abbrev Bn(a:Nat×Nat×Sl×Sl×cu×MH×PH):=(iB a.2).1
noncomputable abbrev pO(a:Nat×Nat×Sl×Sl×cu×MH×PH):=a.2.2.1
noncomputable abbrev D8(a:Nat×Nat×Sl×Sl×cu×MH×PH):=nX 65 (iB a.2).2.1
noncomputable abbrev lT(a:Sl×cu×MH×PH):=a.2.2
noncomputable abbrev tN(a:Nat×Nat×Sl×Sl×cu×MH×PH):=lT (iB a.2)
noncomputable abbrev mO a:=(lT a).1
noncomputable abbrev kQ a:=(lT a).2
noncomputable abbrev CG(a:Nat×Nat×Nat×Sl×Sl×Sl×Sl×cu×MH×PH):=a.2.2.2.2.1
noncomputable abbrev CH(a:Nat×Nat×Nat×Sl×Sl×Sl×Sl×cu×MH×PH):=a.2.2.1
noncomputable abbrev CF(a:Nat×Nat×Nat×Sl×Sl×Sl×Sl×cu×MH×PH):=a.2.2.2.2.2.1
noncomputable abbrev qP(a:Nat×Nat×Nat×Sl×Sl×Sl×Sl×cu×MH×PH):=a.2.2.2.1
noncomputable abbrev wW(a:Nat×Nat×Nat×Sl×Sl×Sl×Sl×cu×MH×PH):=a.2.2.2.2.2.2
noncomputable abbrev oN a:=(wW a).1
noncomputable abbrev Gw a:=nX 65 (wW a).2.1
noncomputable abbrev tM a:=lT (wW a)
noncomputable abbrev nO(a:Sl×cu×MH×PH):=iC a.2.1
attribute [push_cast] uQ v8 kU uB nC GD K9 Ly iB Bn pO D8 lT tN mO kQ CG CH CF qP wW oN Gw tM nO
def Ro(v:xC)(R M:Sl)(m:MH)(h:PH)(K:cn):=
  Lc v.on h (λa b P=>xO m P (λS T=>∃(I:Nat×Nat×Sl×Sl×Sl×Sl×MH×PH->Prop)(z:Nat×Nat×Sl×Sl×Sl×Sl×MH×PH->Nat),(∃(x:Nat×Nat×Sl×Sl×Sl×Sl×MH×PH),aA (I x) (aZ R (uQ x)) (aA (aZ a (v8 x)) (aZ b (kU x).1) (aA (kZ S (uB x)) (aZ M (nC x)) (aA (bQ M (nC x)) (bE x.1) (aA (bW T (iH (kU x))) (eH P (iH (kU x))) True)))))/\∀(x:Nat×Nat×Sl×Sl×Sl×Sl×MH×PH),I x->bA (↑x.1:Int) (aG (nC x)) (bK (λD o=>aI (aW (nC x).a D o) (0<=(↑x.1:Int)) ((↑x.1:Int)<aG (nC x)) (∃(y:Sl),aL (GD x) (iH (kU x)).2 D (o+bM x.1 1) (aM y)/\∃(s:Sl),AN (λt r c=>aA (cJ y (kU x).1=cJ s t) (bS (iH (kU x)).2 s r) (aA (Ints (iH (kU
 x)).2 t c) (AM r c) (branch (LI r c) (∃(E:Sl),AN (λF g j=>aA (cJ y (kU x).1=cJ E F) (bS (iH (kU x)).2 E g) (aA (Ints (iH (kU x)).2 F j) (Pb g) (aA (AM g j) (eD (GD x)) (tJ (GD x) (uB x) (λO=>O (iO g j)) (iO g j) (∃(e:List cr),F3 (GD x) e y (λA n=>rM n (uB x) (λO=>O (iO g j)) (iO g j) (λk=>K9 n x (gZ k (iO g j) (dX A) []) (λu d=>aA (I d) (z d<z x) (aA (aZ (uQ x) (uQ d)) (aZ (v8 x) (v8 d)) (aA (aZ (kU x).1 (kU d).1) (kZ (uB x) (uB d)) (aA (aZ (nC x) (nC d)) (bQ (nC x) (nC d)) (Ly x d u)))))) (λl J C=>gZ l (iO g j) J C) (λl C=>K9 n x (gZ l (iO g j)
 (dX A) C) (λu d=>aA (I d) (z d<z x) (aA (aZ (uQ x) (uQ d)) (aZ (v8 x) (v8 d)) (aA (aZ (kU x).1 (kU d).1) (kZ (uB x) (uB d)) (aA (aZ (nC x) (nC d)) (bQ (nC x) (nC d)) (Ly x d u)))))))) (λB=>∃(e:List cr),aI (cW (GD x) (dO B) 65 1 e) (kP e) (dR e) (jY (λA n=>gK (GD x) n (dO B) A 65 1 (dN e (aM y))->rM n (uB x) (λO=>O (iO g j)) (iO g j) (λk=>K9 n x (gZ k (iO g j) (dX A) []) (λu d=>aA (I d) (z d<z x) (aA (aZ (uQ x) (uQ d)) (aZ (v8 x) (v8 d)) (aA (aZ (kU x).1 (kU d).1) (kZ (uB x) (uB d)) (aA (aZ (nC x) (nC d)) (bQ (nC x) (nC d)) (Ly x d u)))))) (λl
 J C=>gZ l (iO g j) J C) (λl C=>K9 n x (gZ l (iO g j) (dX A) C) (λu d=>aA (I d) (z d<z x) (aA (aZ (uQ x) (uQ d)) (aZ (v8 x) (v8 d)) (aA (aZ (kU x).1 (kU d).1) (kZ (uB x) (uB d)) (aA (aZ (nC x) (nC d)) (bQ (nC x) (nC d)) (Ly x d u)))))))))))))) (∃(e:Nat×Nat×Sl×Sl×Sl×Sl×MH×PH),aA (I e) (z e<z x) (aA (aZ (uQ x) (uQ e)) (aZ (v8 x) (v8 e)) (aA (aZ (kU x).1 (kU e).1) (kZ (uB x) (uB e)) (aA (aZ (nC x) (nC e)) (bQ (nC x) (nC e)) (aI (gX (bH x.1 1)=bP e.1) (fH (iH (kU x)) (iH (kU e))) (dC (iH (kU x)) (iH (kU e))) True))))))))))) (∃(I1:Nat×Nat×Sl×Sl×cu×MH×PH->Prop)(n:
 Nat×Nat×Sl×Sl×cu×MH×PH->Nat),(∃(e:Nat×Nat×Sl×Sl×cu×MH×PH),aA (I1 e) (aZ (v8 x) (Bn e)) (aA (kZ (uB x) e.2.1) (eL 72) (aA (aZ (uQ x) (pO e)) (bQ (uQ x) (pO e)) (aA (bE e.1) (J1 65 1 (D8 e)) (aA (fH (iH (kU x)) (tN e)) (dC (iH (kU x)) (tN e)) True)))))/\∀(e:Nat×Nat×Sl×Sl×cu×MH×PH),I1 e->bA (↑e.1:Int) (aG (pO e)) (bK (λD o=>aI (aW (pO e).a D o) (0<=(↑e.1:Int)) ((↑e.1:Int)<aG (pO e)) (∃(y:Sl),aL (mO (iB e.2)) (kQ (iB e.2)) D (o+bM e.1 1) (aM y)/\∃(s:Sl),AN (λt r c=>aA (cJ y (Bn e)=cJ s t) (bS (kQ (iB e.2)) s r) (aA (Ints (kQ (iB e.2)) t c) (AM r c) (oF (LI r
 c) (∃(d:Nat×Nat×Sl×Sl×cu×MH×PH),aA (I1 d) (n d<n e) (aA (aZ (Bn e) (Bn d)) (kZ e.2.1 d.2.1) (aA (eL 72) (aZ (pO e) (pO d)) (aA (bQ (pO e) (pO d)) (gX (bH e.1 1)=bP d.1) (aI (D8 e=D8 d) (fH (tN e) (tN d)) (dC (tN e) (tN d)) True))))) (∃(E:Sl),AN (λF g j=>aA (cJ y (Bn e)=cJ E F) (bS (kQ (iB e.2)) E g) (aA (Ints (kQ (iB e.2)) F j) (Pb g) (aA (AM g j) (eD (mO (iB e.2))) (tJ (mO (iB e.2)) e.2.1 (λO=>O (iO g j)) (iO g j) (∃(I2:Nat×Nat×Nat×Sl×Sl×Sl×Sl×cu×MH×PH->Prop)(u:Nat×Nat×Nat×Sl×Sl×Sl×Sl×cu×MH×PH->Nat),(∃(d:Nat×Nat×Nat×Sl×Sl×Sl×Sl×cu×MH×PH),aA
 (I2 d) (aZ (Bn e) (CG d)) (aA (kZ e.2.1 (CH d)) (eL 72) (aA (aZ y (CF d)) (aZ (pO e) (qP d)) (aA (bQ (pO e) (qP d)) (cG e.1 d.2.1) (aA (sQn=sQs (oN d)) (bE (oN d).len) (aA (bE d.1) (D8 e=Gw d) (aA (fH (tN e) (tM d)) (dC (tN e) (tM d)) True)))))))/\∀(d:Nat×Nat×Nat×Sl×Sl×Sl×Sl×cu×MH×PH),I2 d->bA (↑d.1:Int) (aG (oN d)) (bK (λG H=>aI (aW (oN d).a G H) (0<=(↑d.1:Int)) ((↑d.1:Int)<aG (oN d)) (∃(B:Sl),aL (mO (wW d)) (kQ (wW d)) G (H+bM d.1 1) (aM B)/\La (kQ (wW d)) (CF d) B (λA L=>aA (kP (nO (wW d))) (dR (nO (wW d))) (∃(f:Nat×Nat×Nat×Sl×Sl×Sl×
 Sl×cu×MH×PH),aA (I2 f) (u f<u d) (aA (aZ (CG d) (CG f)) (kZ (CH d) (CH f)) (aA (eL 72) (aZ (CF d) (CF f)) (aA (aZ (qP d) (qP f)) (bQ (qP d) (qP f)) (aA (cG d.2.1 f.2.1) (aZ (oN d) (oN f)) (aA (bQ (oN d) (oN f)) (gX (bH d.1 1)=bP f.1) (aI (bV 65 1 (dN (nO (wW d)) (aM A))=Gw f) (fH (tM d) (tM f)) (eH L (tM f)) True))))))))))) (∃(f:Nat×Nat×Sl×Sl×cu×MH×PH),aA (I1 f) (n f<n e) (aA (aZ (CG d) (Bn f)) (kZ (CH d) f.2.1) (aA (eL 72) (aZ (qP d) (pO f)) (aA (bQ (qP d) (pO f)) (gX (bH d.2.1 1)=bP f.1) (aI (Gw d=D8 f) (fH (tM d) (tN f)) (dC (tM d)
 (tN f)) True)))))) (λB=>∃(I2:Nat×Nat×Nat×Sl×Sl×Sl×Sl×cu×MH×PH->Prop)(u:Nat×Nat×Nat×Sl×Sl×Sl×Sl×cu×MH×PH->Nat),(∃(d:Nat×Nat×Nat×Sl×Sl×Sl×Sl×cu×MH×PH),aA (I2 d) (aZ (Bn e) (CG d)) (aA (kZ e.2.1 (CH d)) (eL 72) (aA (aZ y (CF d)) (aZ (pO e) (qP d)) (aA (bQ (pO e) (qP d)) (cG e.1 d.2.1) (aA (aZ B (oN d)) (bQ B (oN d)) (aA (bE d.1) (D8 e=Gw d) (aA (fH (tN e) (tM d)) (dC (tN e) (tM d)) True)))))))/\∀(d:Nat×Nat×Nat×Sl×Sl×Sl×Sl×cu×MH×PH),I2 d->bA (↑d.1:Int) (aG (oN d)) (bK (λG H=>aI (aW (oN d).a G H) (0<=(↑d.1:Int)) ((↑d.1:Int)<aG (oN d)) (∃(Q:Sl),aL
 (mO (wW d)) (kQ (wW d)) G (H+bM d.1 1) (aM Q)/\La (kQ (wW d)) (CF d) Q (λA L=>aA (kP (nO (wW d))) (dR (nO (wW d))) (∃(f:Nat×Nat×Nat×Sl×Sl×Sl×Sl×cu×MH×PH),aA (I2 f) (u f<u d) (aA (aZ (CG d) (CG f)) (kZ (CH d) (CH f)) (aA (eL 72) (aZ (CF d) (CF f)) (aA (aZ (qP d) (qP f)) (bQ (qP d) (qP f)) (aA (cG d.2.1 f.2.1) (aZ (oN d) (oN f)) (aA (bQ (oN d) (oN f)) (gX (bH d.1 1)=bP f.1) (aI (bV 65 1 (dN (nO (wW d)) (aM A))=Gw f) (fH (tM d) (tM f)) (eH L (tM f)) True))))))))))) (∃(f:Nat×Nat×Sl×Sl×cu×MH×PH),aA (I1 f) (n f<n e) (aA (aZ (CG d) (Bn
 f)) (kZ (CH d) f.2.1) (aA (eL 72) (aZ (qP d) (pO f)) (aA (bQ (qP d) (pO f)) (gX (bH d.2.1 1)=bP f.1) (aI (Gw d=D8 f) (fH (tM d) (tN f)) (dC (tM d) (tN f)) True))))))))))))))))) (uM (kQ (iB e.2)) (nO (iB e.2)) K (mO (iB e.2))))))
theorem Tu:cm 99 NZ:=by
 refine iU func99 ?_;rintro c m h K ⟨s,on,rfl,d,e⟩;refine⟨Yt s m h,rfl,aH,I9 s m h K,ax,?_⟩;exact aOJ d e
theorem aoZ:cm 160 Mu:=by
 refine iU func160 ?_;rintro d m h K ⟨s,t,r,c,rfl,e,f,g,j⟩;refine⟨Ys s t m h,rfl,aE GS aH,I8 s t m h K,ax,?_⟩;exact aOZ e f g j
theorem nK.get1{m0 y kk us key K0}{K:Sl->Prop}(g:nK m0 m y kk us)(d:∀s,DH kk key s->K s)(e:K ⟨none,0,0⟩=K0):
 ∃(c:List (Value×Sl))(Ok:Value->Prop),u6 m y (c.map λp=>(p.1,dX p.2))/\KeyLaw Tryz.prog 9 Ok/\Ok (.string key)/\(∀e,List.Mem e c->Ok e.1)/\((∀e,List.Mem e c->e.1=Value.string key->False)->K0)/\∀t,List.Mem (Value.string key,t) c->K t:=g.get2 (λf=>e▸d _ f) d
theorem a8X:cm 98 b9Q:=by
 refine SF func98 ?_;rintro c9 m h K ⟨v,on,s1,s2,D,f,rfl,ho,L,M,hT,c',d',hK⟩;refine⟨cjJ,rfl,aE Tu (aE Dy (aE aoZ (aE RL aH))),Ro v s1 s2 m h (cQ h K),ax,?_⟩;show Ro v s1 s2 m h (cQ h K);dsimp only[Ro,push_cast];obtain⟨-,wa,wb,n,c,c0,a8⟩:=c';have n:iL wa D:=n;have c:iL wb f:=c;have d0:=n.len;have c6:=c.len;refine⟨v.on,on,rfl,ho,λsa sb h1 B O a9 y m2 b' a0=>?_⟩;obtain⟨st,ny⟩:=iT (Sub.refl m) b' a0;have b0:m2 y=some (.map #[] 0):=a0.at_;have U:∀{mx kk us},nK m2 mx y kk us->Sub m mx:=λg z o J=>g.old z o (st z o J) (λP=>bg);clear a0 b';have L:=bN.mono L B (λ_ _ h=>bS.mono h B);have M:=bN.mono M B (λ_ _ h=>bS.mono h B);have b1:=bN.slen L;have b2:=bN.slen M;refine⟨λx=>x.1<=f.length/\x.2.1=y/\x.2.2.1=s1/\x.2.2.2.1=sa/\x.2.2.2.2.1=sb/\x.2.2.2.2.2.1=s2/\x.2.2.2.2.2.2.2=h1/\N4 m2 x.2.2.2.2.2.2.1 h1 y (under rF (eU on) (f.take x.1)),λx=>f.length-x.1,⟨(0,y,s1,sa,sb,s2,m2,h1),⟨Nat.zero_le _,rfl,rfl,rfl,rfl,rfl,rfl,⟨[],_,nK.new b0,λk=>by simpa[under]using fA.nil h1⟩⟩,MT⟩,?_⟩;rintro⟨i,y',t1,ta,tb,t2,mx,hx⟩ ⟨hi,V,J,P,W,e5,e6,⟨kk,uk,g,hg⟩⟩;dsimp only at hi V J P W e5 e6 g hg⊢
 subst V J P W e5 e6;refine aF (λa1=>?_) (λb3=>?_)
 .obtain⟨r,E⟩:=fF b2 a1;obtain⟨b,o,u,ea,rd,Q⟩:=bN.at M E;have A:=bo E;have C:jM r.length (eU on):=by rw[c.wid r A];exact a8
  rw[iY aC];refine⟨b,o,ea,aC,aC,u,.imm rd,u,tb,r,eU on,rfl,Q,a9,C,aD (λd=>?_) (λd=>?_)⟩
  .have hl:(uk (rF (pick r (eU on)))).length<=502633886983:=by
    have h5:=(hg (rF (pick r (eU on)))).len;have h6:(under rF (eU on) (f.take i) (rF (pick r (eU on)))).length<=(f.take i).length:=length_filter_le _ _
    grind
   exact⟨u,tb,r,eU on,rfl,Q,a9,c.row r A,C,hT.sub (U g),g.get1 (λs hs=>g.appV ⟨_,b0⟩ hl (λm' d1 g'=>⟨(i+1,y',t1,ta,tb,t2,m',hx),⟨aC,rfl,rfl,rfl,rfl,rfl,rfl,N4.upd g' hg Q (by rw[AH E,if_pos];simpa[wN]using d) (λk2 d2=>by rw[AH E,if_neg,append_nil];grind)⟩,aC,MT⟩) hs) rfl⟩
  .refine⟨(i+1,y',t1,ta,tb,t2,mx,hx),⟨aC,rfl,rfl,rfl,rfl,rfl,rfl,⟨kk,uk,g,λk2=>?_⟩⟩,aC,MT⟩;dsimp only;rw[AH E,if_neg,append_nil]
   .exact hg k2
   .simp[wN,d]
 .rw[bt aC]at hg;have gx:∀{X},PH.le hx X->∀key,fA X (uk key) (under rF (eU on) f key):=λle key=>(hg key).mono le;have sx:=U g;refine⟨λx=>x.1<=D.length/\x.2.1=y'/\x.2.2.1=t1/\x.2.2.2.1=ta/\x.2.2.2.2.2.1=mx/\PH.le hx x.2.2.2.2.2.2/\fA x.2.2.2.2.2.2 x.2.2.2.2.1 ((D.take x.1).flatMap (kL on f)),λx=>D.length-x.1,⟨(0,y',t1,ta,[],mx,hx),⟨Nat.zero_le _,rfl,rfl,rfl,rfl,.refl _,bk (fA.nil hx)⟩,MT⟩,?_⟩;rintro⟨k,y2,a2,F,us,my,hy⟩ ⟨hk,V,J,P,W,le,R⟩;dsimp only at hk V J P W le R⊢
  subst V J P W;refine aF (λa1=>?_) (λb3=>?_)
  .obtain⟨r,E⟩:=fF b1 a1;obtain⟨b,o,u,ea,rd,Q⟩:=bN.at L E;have A:=bo E;have C:jM r.length (jH on):=by rw[n.wid r A];exact c0
   have Q:=bS.mono Q le;have O:=O.mono le;rw[iY aC];refine⟨b,o,ea,aC,aC,u,.imm (rd.mono le),u,F,r,jH on,rfl,Q,O,C,aD (λd=>?_) (λd=>?_)⟩
   .refine⟨(k+1,y2,a2,F,us,my,hy),⟨aC,rfl,rfl,rfl,rfl,le,?_⟩,aC,MT⟩;have:kL on f r=[]:=if_neg (by simpa[wN]using d);dsimp only;rw[tS _ E,this,append_nil];exact R
   .have d:(pick r (jH on)).all pW=true:=bg
    have c1:under rF (eU on) f (rF (pick r (jH on)))=f.filter λy=>wN (eU on) y&&agree on r y:=by
     refine filter_congr λz X=>?_;congr 1;have h5:=C6 LX (n.row r A) (c.row z X) C (by rw[c.wid z X];exact a8)
     grind
    have a3:kL on f r=(under rF (eU on) f (rF (pick r (jH on)))).map (r++ ·):=by rw[c1];exact if_pos (by simpa[wN]using d)
    have b4:((D.take k).flatMap (kL on f)).length+(under rF (eU on) f (rF (pick r (jH on)))).length<=8000000:=by
     have h5:((D.take (k+1)).flatMap (kL on f)).length<=(D.take (k+1)).length*f.length:=vF λx _=>yR;rw[tS _ E,br,a3,length_map]at h5;have h6:(D.take (k+1)).length*f.length<=D.length*f.length:=Nat.mul_le_mul_right _ bg;omega
    have a4:=gx le (rF (pick r (jH on)));generalize hG:under rF (eU on) f (rF (pick r (jH on)))=G at a3 b4 a4;have c2:=a4.len;refine⟨u,F,r,jH on,rfl,Q,O,n.row r A,C,hT.sub sx,g.get1 (λs hs=>?_) rfl⟩;refine⟨λz=>z.1<=G.length/\z.2.1=k/\z.2.2.1=y2/\z.2.2.2.1=a2/\z.2.2.2.2.1=F/\z.2.2.2.2.2.1=u/\z.2.2.2.2.2.2.1=s/\z.2.2.2.2.2.2.2.2.1=my/\PH.le hy z.2.2.2.2.2.2.2.2.2/\fA z.2.2.2.2.2.2.2.2.2 z.2.2.2.2.2.2.2.1 ((D.take k).flatMap (kL on f)++(G.take z.1).map (r++ ·)),λz=>G.length-z.1,⟨(0,k,y2,a2,F,u,s,us,my,hy),⟨Nat.zero_le _,rfl,rfl,rfl,rfl,rfl,rfl,rfl,.refl _,bg⟩,MT⟩,?_⟩;rintro⟨j,k',y3,Y,Z,ee,gg,b5,mz,X⟩ ⟨S,V,J,P,W,e5,e6,e7,H,a5⟩;dsimp only at S V J P W e5 e6 e7 H a5⊢
    subst V J P W e5 e6 e7;have a':=(hs.row g).1;have c3:=a'.slen;rw[length_map,c2]at c3;refine aF (λc7=>?_) (λb3=>?_)
    .have b6:j<G.length:=by omega
     obtain⟨w,hw,c4⟩:=a4.at_ j _ (bn b6);obtain⟨b8,e8,d3⟩:=a'.rd (h:=X) (i:=j) (e:=[dX w]) (by rw[getElem?_map,hw];rfl);have b7:=a5.len;simp only[br,length_map,length_take]at b7;rw[iY aC];refine⟨b8,0,e8,aC,aC,w,bg,λc5 h3 T a6=>⟨c5,[r,G[j]],rfl,?_,ay,?_,λsl h4 b9 c8=>⟨bg,bg,(j+1,k',y3,Y,Z,ee,gg,b5++[sl],mz,h4),⟨aC,rfl,rfl,rfl,rfl,rfl,rfl,rfl,H.trans (T.trans b9),?_⟩,aC,?_⟩⟩⟩
     .refine fA.rows (us:=[ee,w]) ?_ a6 ay;refine⟨rfl,λj z S=>?_⟩
      match j,S with
      |0,S=>
       simp at S;subst S;exact⟨ee,rfl,bS.mono Q (H.trans T)⟩
      |1,S=>
       simp at S;subst S;exact⟨w,rfl,bS.mono c4 (H.trans T)⟩
     .intro z I;have I:z∈[r,G[j]]:=I;rcases mem_cons.1 I with rfl|I
      .exact(n.row _ A).len
      .have e7:=mem_singleton.1 I
       have:z∈f:=by
        have h9:z∈under rF (eU on) f (rF (pick r (jH on))):=bg
        grind
       exact(c.row _ this).len
     .have e7:(G.take (j+1)).map (r++ ·)=(G.take j).map (r++ ·)++[r++G[j]]:=by rw[cd,bn b6,bu];rfl
      dsimp only;rw[e7, <-append_assoc];exact(a5.mono (T.trans b9)).snoc bg
     .dsimp only;rw[bu];exact MT
    .have:j=G.length:=by omega
     subst this;rw[iY aC];refine⟨(k'+1,y3,Y,Z,b5,mz,X),⟨aC,rfl,rfl,rfl,rfl,le.trans H,?_⟩,aC,MT⟩;dsimp only;rw[tS _ E,a3]
     grind
  .rw[bt aC]at R
   refineλs h' a7 a6=>cQ.sub sx (B.trans (le.trans a7)) (hK s h' (B.trans (le.trans a7)) ((R.mono a7).rows a6 ?_))
   have h5:(D.flatMap (kL on f)).length<=D.length*f.length:=vF λx _=>yR;omega
def aDJ:Vc.Spec:=λc m h K=>∃u b v w r,c=[cS u,cP b]/\m b=some (.cells ⟨xC.enc v⟩ 101 (0,0))/\fO h w v.where_/\bS h u r/\K (cB (oA r w)) m h
def caQ(t:Bool):Vc.Spec:=λc m h K=>∃u b s l r,c=[cS u,cP b]/\m b=some (.cells #[.slice s.a s.len s.cap] 58 (0,0))/\Rows h s l/\mG l/\bS h u r/\l.length<=8000000/\K (cB (JF l r==t)) m h
def b4Q:Vc.Spec:=λe m h K=>∃u d f y s r c ks,e=[cS u,cP d,cP f]/\m d=some (.cells #[.map (some y)] 157 (0,0))/\m f=some (.cells #[.slice s.a s.len s.cap] 36 (0,0))/\sJ m y ks/\Ints h s c/\bS h u r/\Pb r/\jM r.length c/\eD m/\∀t:Bool,(t=true↔rF (pick r c)∈ks)->K (cB t) m h
def ccJ:Vc.Spec:=λc m h K=>∃i:Nat,∃d e f v od g s rs r x,c=[cI i,cP d,cP e,cP f]/\m d=some (.cells ⟨xC.enc v⟩ 101 (0,0))/\m e=some (.cells #[Sl.val g] 58 (0,0))/\m f=some (.cells #[Sl.val s] 65 (0,0))/\jC h v.order od/\Rows h g rs/\bS h s r/\rs[i]? =some x/\
 K (cB (decide (jR od x r>=0))) m h
def Zg:Vc.Spec:=λc m h K=>∃(n d e f:Nat)(v:xC)(od:cv)(g s:Sl)(rs:ct)(r:da)(w:Nat),c=[cI n,.val (.func (.func 109) #[] #[.pointer (some ⟨d,0,none⟩),.pointer (some ⟨e,0,none⟩),.pointer (some ⟨f,0,none⟩)])]/\
 m d=some (.cells ⟨xC.enc v⟩ 101 (0,0))/\m e=some (.cells #[Sl.val g] 58 (0,0))/\m f=some (.cells #[Sl.val s] 65 (0,0))/\jC h v.order od/\Rows h g rs/\bS h s r/\rs.length=n/\tU od rs/\(∀x∈rs,x.length=w)/\r.length=w/\
 K (cI ((rs.countP λy=>decide (jR od y r<0):Nat):Int)) m h
def aCJ:Vc.Spec:=λc m h K=>∃u d e v y gr od l f g r w,c=[cS u,cP d,cP e]/\m d=some (.cells #[.map (some y)] 160 (0,0))/\m e=some (.cells ⟨xC.enc v⟩ 101 (0,0))/\sM rF m h y gr od l f g/\iL w l/\jM w gr/\Ints h v.group gr/\jC h v.order od/\bS h u r/\Pb r/\r.length=w/\eD m/\
 K (cB (decide (((l.countP λy=>uI gr r y&&decide (jR od y r<0):Nat):Int)<v.limit))) m h
def Zh:Vc.Spec:=λe m h K=>∃v t f g c d,e=[aT v,cS f,cS g]/\u0 h t v/\Rows h f c/\Rows h g d/\eD m/\2<=t.op/\t.op<=10/\QK t.op t.query [c,d]/\c.length<=8000000/\d.length<=8000000/\∀j h',PH.le h h'->Rows h' j (Fb t.op t.query [c,d])->K (cS j) m h'
noncomputable def bWQ:=rI [(100,U2),(108,Zg)] [] [(2,{A:=Nat×Nat×Nat×MH×PH,st:=λ⟨q,e,g,m,h⟩=>bZ 21 24 [(2,pv q),(3,pv e),(5,pv g)] [] m h})] [] [200003,200005,0] [] false
noncomputable def f50_ctx:=rI [(95,cJJ),(71,bsZ),(98,b9Q),(99,NZ),(100,U2),(102,U5),(106,Zn)] [(7,{A:=Nat×Nat×Sl×cu×MH×PH,st:=λ⟨i,b,s,c,m,h⟩=>bZ 140 143 [(3,pv b),(7,.at (.lst 33)),(34,sv s),(35,iv s.len),(36,iv i)] [(33,.lst 65 1 (c.map eS))] m h}),
 (11,{A:=Nat×Nat×Nat×Sl×Sl×Sl×cu×da×MH×PH,st:=λ⟨k,i,b,s,u,co,c,l,m,h⟩=>bZ 140 143 [(3,pv b),(7,.at (.lst 33)),(9,sv u),(10,.at (.lst 43)),(34,sv s),(35,iv s.len),(36,iv i),(45,sv co),(46,iv co.len),(47,iv k)] [(33,.lst 65 1 (c.map eS)),(43,.lst 30 3 (l.map VV.enc))] m h}),
 (24,{A:=Nat×Nat×Nat×Sl×Sl×Sl×MH×PH,st:=λ⟨i,a,b,s,t,r,m,h⟩=>bZ 140 143 [(1,sv s),(13,pv a),(14,sv t),(15,pv b),(82,sv r),(83,iv r.len),(84,iv i)] [] m h}),
 (38,{A:=Nat×cu×Nat×MH×PH,st:=λ⟨b,c,r,m,h⟩=>bZ 140 143 [(3,pv b),(18,.at (.lst 131)),(118,pv r)] [(131,.lst 65 1 (c.map eS))] m h})] [] [] [200003,200005,200013,200015,200021,400000,410000,0] [] false
def bGX(u:Sl)(b:Nat)(m:MH)(h:PH)(K:cn):=
  ∃(y:PV),aL m h b 2 y.enc/\IJ (λv s p r=>aI (zS y u=zS v s) (fO h p v) (bS h s r) (K (As (oA r p)) m h))
def bpQ(u:Sl)(a b:Nat)(m:MH)(h:PH)(K:cn):=
  ∃(y:Nat),aL m h a 0 (oI y)/\∃(d:Sl),aA (aL m h b 0 (aM d)) (dM m h a y) (∃(s:Sl),D1 u d s h m a y (λ_ _=>aL m h b 0 (aM d)) (λr c=>∃(k:dv)(O:Value->Prop),aA (u6 m y (List.map (fun(p:Value×Bool)=>(p.1,Value.bool p.2)) k)) (Ds O) (aA (O (iO r c)) (∀(e:Value×Bool),List.Mem e k->O e.1) (((∀(e:Value×Bool),Gx e k (iO r c))->K bG m h)/\∀(f:Bool),List.Mem (iO r c,f) k->K (As f) m h))))
def boJ(u:Sl)(b:Nat)(m:MH)(h:PH)(K:cn):=
  kW m h b 0 (λy=>J0 (λs c l r=>aA (cJ y u=cJ s c) (Rows h s l) (aA (mG l) (bS h c r) (Cb l/\K (CV.val (Value.bool (!(JF l r)))) m h))))
def boX(u:Sl)(b:Nat)(m:MH)(h:PH)(K:cn):=
  kW m h b 0 (λy=>J0 (λs c l r=>aA (cJ y u=cJ s c) (Rows h s l) (aA (mG l) (bS h c r) (Cb l/\K (As (JF l r)) m h))))
def UG(i g d j:Nat)(m:MH)(h:PH)(K:cn):=
  Gc m h g 18 (λy c=>aL m h d 0 (aM c)/\bK (λb o=>aI (aW c.a b o) (0<=(↑i:Int)) ((↑i:Int)<aG c) (∃(e:Sl),aL m h b (o+bM i 1) (aM e)/\∃(f:Sl),aA (aL m h j 0 (aM f)) (aL m h d 0 (aM c)) (Lb y e f h (λn a u=>aL m h d 0 (aM c)/\K (As (decide (jR n a u>=0))) m h)))))
abbrev F4(a:MH)(b:Nat)(c:(Array Value)->cr)(d:MH->(Nat×Nat×Nat×MH×PH)->Prop):=jN (λx e=>aA (yP a b (gO x e 0)) (0<x.size) (∀(f:MH),bL a f b (c x) e->∃(g:Nat×Nat×Nat×MH×PH),d f g))
attribute [push_cast] F4
def NK(u:Sl)(a b:Nat)(m:MH)(h:PH)(K:cn):=
  ∀(j:Nat)(d:MH),bF (cK m h j) (bL m d j (aM u) 65) (∃(I:Nat×Nat×Nat×MH×PH->Prop),(∃(y:Nat),aL d h a 0 (oI y)/\∃(z:Sl),aL d h j 0 (aM z)/\∃(A:Sl),aA (aL d h b 17 (aM A)) (aL d h a 0 (oI y)/\∃(s:Sl),D1 z A s h d a y (λr c=>aA (aL d h j 0 (aM z)) (aL d h b 17 (aM A)) (tJ d y (λO=>O (iO r c)) (iO r c) (aI (dM d h a y) (aL d h j 0 (aM z)) (aL d h b 17 (aM A)) (∀(e:Nat)(f:MH),bF (cK d h e) (bL d f e iP 58) (F4 f e (λB=>fE pV 1 B) (λC x=>aA (I x) (bY b x.1) (aA (bY j (fT x)) (bY e (fS x)) (aA (bW C (fK x)) (eH h (fK x)) True)))))) (λD=>aI (dM d h a y) (aL d h j 0 (aM z)) (aL d h b 17 (aM A)) (∀(e:Nat)
 (f:MH),bF (cK d h e) (bL d f e iP 58) (F4 f e (λB=>fE (dX D) 1 B) (λC x=>aA (I x) (bY b x.1) (aA (bY j (fT x)) (bY e (fS x)) (aA (bW C (fK x)) (eH h (fK x)) True)))))))) (λr c=>aI (dM d h a y) (aL d h j 0 (aM z)) (aL d h b 17 (aM A)) (∀(e:Nat)(f:MH),bF (cK d h e) (bL d f e iP 58) (aA (aL f h j 0 (aM z)) (aL f h b 17 (aM A)) (tJ f y (λO=>O (iO r c)) (iO r c) (F4 f e (λB=>fE pV 1 B) (λC x=>aA (I x) (bY b x.1) (aA (bY j (fT x)) (bY e (fS x)) (aA (bW C (fK x)) (eH h (fK x)) True)))) (λD=>F4 f e (λB=>fE (dX D) 1 B) (λC x=>aA (I x) (bY b x.1) (aA (bY j (fT x)) (bY e (fS x)) (aA
 (bW C (fK x)) (eH h (fK x)) True))))))))) (aA (dM d h a y) (aL d h j 0 (aM z)) (aL d h b 17 (aM A)/\∀(e:Nat)(f:MH),bF (cK d h e) (bL d f e iP 58) (aL f h a 0 (oI y)/\∃(s:Sl),D1 z A s h f a y (λ_ _=>aL f h j 0 (aM z)) (λr c=>aL f h b 17 (aM A)/\tJ f y (λO=>O (iO r c)) (iO r c) (F4 f e (λB=>fE pV 1 B) (λC x=>aA (I x) (bY b x.1) (aA (bY j (fT x)) (bY e (fS x)) (aA (bW C (fK x)) (eH h (fK x)) True)))) (λD=>F4 f e (λB=>fE (dX D) 1 B) (λC x=>aA (I x) (bY b x.1) (aA (bY j (fT x)) (bY e (fS x)) (aA (bW C (fK x)) (eH h (fK x)) True)))))))))/\∀(x:Nat×Nat×Nat×MH×PH),I x->kW (lM x) (jV x)
 (fS x) 0 (λy=>bK (λn e=>bK (λF G=>∃(v:xC)(o:cv),J0 (λg s r E=>∃(w:Nat),aA (gC (gG (aG y)) (mR 109 (Array.mk (aX (SS x.1 0) (SS (fS x) 0) (z8 (fT x)))))=gC (gG (↑n:Int)) (mR 109 (Array.mk (aX (SS e 0) (SS F 0) (z8 G))))) ((fK x).1 e=Option.some (gO (Array.mk v.enc) 101 0)) (aA ((fK x).1 F=Option.some (gO (Array.mk (aM g)) 58 0)) ((fK x).1 G=Option.some (gO (Array.mk (aM s)) 65 0)) (aA (jC (jV x) v.order o) (Rows (jV x) g r) (aA (bS (jV x) s E) (r.length=n) (aI (tU o r) (IB r (λH=>H.length=w)) (E.length=w) (∃(z:Int),aL (lM x) (jV x) x.1 19 (bC z)/\K (CV.val (Value.bool (decide ((↑(countP (fun(A:da)=>decide (jR o A E<0)) r):Int)<z)))) (lM
 x) (jV x)))))))))))
abbrev Iy(a:Sl)(b:CV)(c:PH)(d:Nat->cr->ct->(da->Bool)->Sl->da->Prop)(e:cn)(g:MH):=∃(x:Sl),VB (λj n=>∃(f:ct)(o:da->Bool),aA (gT a b=gT x (mR j (Array.mk n))) (Rows c x f) (aA (Cb f) (∀(u:Sl)(y:da),d j n f o u y) (PR c o f e g)))
noncomputable abbrev mD(a:Nat×Nat×Sl×cu×MH×PH):=a.2.2
noncomputable abbrev IK(a:Nat×Nat×Nat×Sl×Sl×Sl×cu×da×MH×PH):=a.2.2.2.2.1
noncomputable abbrev CI(a:Nat×Nat×Nat×Sl×Sl×Sl×cu×da×MH×PH):=a.2.2.2.1
noncomputable abbrev Bo(a:Nat×Nat×Nat×Sl×Sl×Sl×cu×da×MH×PH):=a.2.2.2.2.2.1
noncomputable abbrev Gy(a:Nat×Nat×Nat×Sl×Sl×Sl×cu×da×MH×PH):=EM a.2.2.2.2.2.2.2.1
noncomputable abbrev wA(a:Nat×Nat×Nat×Sl×Sl×Sl×cu×da×MH×PH):=a.2.2.2.2.2.2.2.2
abbrev MX(a:Sl->Sl->ct->ct->Prop):=sG (λx c=>∃(d e:ct),a x c d e)
noncomputable abbrev Gz(a:Nat×Nat×Nat×Sl×Sl×Sl×MH×PH):=a.2.2.2.1
noncomputable abbrev sD(a:Nat×Nat×Nat×Sl×Sl×Sl×MH×PH):=a.2.2.2.2
noncomputable abbrev Bp(a:Nat×Nat×Nat×Sl×Sl×Sl×MH×PH):=a.2.2.1
noncomputable abbrev uR a:=(sD a).2.1
noncomputable abbrev zU a:=(iH (sD a)).1
noncomputable abbrev Bv a:=(iH (sD a)).2
noncomputable abbrev IT(a:Nat×cu×Nat×MH×PH):=a.2.2.1
attribute [push_cast] Iy mD IK CI Bo Gy wA MX Gz sD Bp uR zU Bv IT
def af(v:xC)(H s2:Sl)(m:MH)(h:PH)(K:cn):=
  ∀(b:Nat)(m1:MH),bF (cK m h b) (bL m m1 b v.enc 101) (∀(U:Nat)(n:MH),bF (cK m1 h U) (bL m1 n U (aM s2) 58) (∃(y:Int),aL n h b 0 (bC y)/\dP (y==2) (Iy H (mR 96 (Ca b)) h (λg c l p u r=>bF (List.Mem r l) (bS h u r) (CJ g 4 (dE u (List.map CV.val c)) n h (λx z f=>aA (x=uA (p r)) (z=n) (f=h)))) K n) (y==3) (aA (cM 0) (cM (aG H)) (aA (Ah H 24) (Af (aG H)) (∃(I:Nat×Nat×Sl×cu×MH×PH->Prop)(z:Nat×Nat×Sl×cu×MH×PH->Nat),(∃(x:Nat×Nat×Sl×cu×MH×PH),aA (I x) (bY b x.2.1) (aA (eL 33) (aZ H (mD x).1) (aA (bQ H (mD x).1) (bE x.1) (aA (J1 65 1 (nX 65 (mD x).2.1)) (bW n (lT (mD x))) (lF (eH h (lT (mD x))))))))/\∀(x:Nat×Nat
 ×Sl×cu×MH×PH),I x->bA (↑x.1:Int) (aG (mD x).1) (bK (λJ o=>aI (aW (mD x).1.a J o) (0<=(↑x.1:Int)) ((↑x.1:Int)<aG (mD x).1) (∃(F:Sl),aL (mO (mD x)) (kQ (mD x)) J (o+bM x.1 1) (aM F)/\∃(A:Sl),aA (aL (mO (mD x)) (kQ (mD x)) x.2.1 15 (aM A)) (cM (aG A)) (aA (aG A<=aG A) (Ah A 32) (Af (aG A)/\∃(G:Sl),aL (mO (mD x)) (kQ (mD x)) x.2.1 15 (aM G)/\∃(I1:Nat×Nat×Nat×Sl×Sl×Sl×cu×da×MH×PH->Prop)(M:Nat×Nat×Nat×Sl×Sl×Sl×cu×da×MH×PH->Nat),(∃(d:Nat×Nat×Nat×Sl×Sl×Sl×cu×da×MH×PH),aA (I1 d) (bY x.2.1 d.2.2.1) (aA (eL 33) (aZ F (IK d)) (aA (eL 43) (aZ (mD x).1 (CI d)) (aA (bQ (mD
 x).1 (CI d)) (cG x.1 d.2.1) (aA (aZ G (Bo d)) (bQ G (Bo d)) (aA (bE d.1) (nX 65 (mD x).2.1=nX 65 d.2.2.2.2.2.2.1) (aI (bV 30 3 (AK (aG A) zT)=bV 30 3 (Gy d)) (fH (lT (mD x)) (wA d)) (dC (lT (mD x)) (wA d)) True)))))))/\∀(d:Nat×Nat×Nat×Sl×Sl×Sl×cu×da×MH×PH),I1 d->bA (↑d.1:Int) (aG (Bo d)) (bK (λV o1=>aI (aW (Bo d).a V o1) (0<=(↑d.1:Int)) ((↑d.1:Int)<aG (Bo d)) (∃(B:Int),aL (wA d).1 (wA d).2 V (o1+bM d.1 1) (bC B)/\bK (λZ o2=>aI (aW (IK d).a Z o2) (0<=B) (B<aG (IK d)) (∃(y5:VV),CM (aL (wA d).1 (wA d).2 Z (o2+iA B 3) y5.enc) 0 (↑d.1:Int) (Gy d) (λe=>aA (mQ
 (Gy d) (pD d.1) e) (3<=e.length) (∃(j:Nat×Nat×Nat×Sl×Sl×Sl×cu×da×MH×PH),aA (I1 j) (M j<M d) (aA (bY d.2.2.1 j.2.2.1) (eL 33) (aA (aZ (IK d) (IK j)) (eL 43) (aA (aZ (CI d) (CI j)) (bQ (CI d) (CI j)) (aA (cG d.2.1 j.2.1) (aZ (Bo d) (Bo j)) (aA (bQ (Bo d) (Bo j)) (gX (bH d.1 1)=bP j.1) (aA (Bu d.2.2.2.2.2.2.1 j.2.2.2.2.2.2.1) (bV 30 3 (List.set (Gy d) (pD d.1) (aX (fV y5.kind) (fV y5.int) (JA (Value.string y5.text) 3 e)))=bV 30 3 (Gy j)) (aA (fH (wA d) (wA j)) (dC (wA d) (wA j)) True)))))))))))))) (cF (wA d).2 3 (Gy d) (λs f=>aA (kP (iC d.2.2.2.2.2.2.1)) (dR (iC d.2.2.2.2.2.2.1)) (∃(j:Nat×Nat×Sl×cu×
 MH×PH),aA (I j) (z j<z x) (aA (bY d.2.2.1 j.2.1) (eL 33) (aA (aZ (CI d) (mD j).1) (bQ (CI d) (mD j).1) (aA (gX (bH d.2.1 1)=bP j.1) (bV 65 1 (dN (iC d.2.2.2.2.2.2.1) (aM s))=nX 65 (mD j).2.1) (aA (fH (wA d) (lT (mD j))) (eH f (lT (mD j))) True)))))))))))) (cF (kQ (mD x)) 1 (nO (mD x)) (λs f=>∃(C:Sl),F5 s C (mO (mD x)) f K))))) (dP (y==4) (∃(F:xC),aL n h b 0 F.enc/\∃(A:Sl),aL n h U 0 (aM A)/\∃(L:xC)(o:cw),MX (λs C l D=>aA (cE F.enc (cJ H A)=cE L.enc (cJ s C)) (jD h L.on o) (aA (Rows h s l) (Rows h C D) (aI (eD n) (cgJ o [l,D]) (l.length*D.length<=8000000) (∀(W:Sl)(f:PH),bR h f (Rows f W
 (flatMap (kL o D) l)) (K (qW W) n f)))))) (y==5) (kW n h b 16 (λF=>Lc F h (λa J f=>∀(V:Nat)(z:MH),bF (cK n f V) (bL n z V iP 36) (jN (λc E=>aA (yP z V (gO c E 0)) (0<c.size) (∀(M:MH),bL z M V (fE (dX a) 1 c) E->xO M f (λZ P=>∀(X:Nat)(Q:MH),bF (cK P f X) (bL P Q X (oW EI) 157) (jN (λY E1=>aA (yP Q X (gO Y E1 0)) (0<Y.size) (∀(m7:MH),bL Q m7 X (fE (Dt Z) 1 Y) E1->kW m7 f U 0 (λA=>∃(I:Nat×Nat×Nat×Sl×Sl×Sl×MH×PH->Prop)(m8:Nat×Nat×Nat×Sl×Sl×Sl×MH×PH->Nat),(∃(x:Nat×Nat×Nat×Sl×Sl×Sl×MH×PH),aA (I x) (aZ H (Gz x)) (aA (bY V x.2.1) (aZ J (sD x).1) (aA (bY X (Bp x)) (aZ A (uR x)) (aA
 (bQ A (uR x)) (bE x.1) (aA (bW m7 (iH (sD x))) (eH f (iH (sD x))) True)))))/\∀(x:Nat×Nat×Nat×Sl×Sl×Sl×MH×PH),I x->bA (↑x.1:Int) (aG (uR x)) (bK (λb6 o=>aI (aW (uR x).a b6 o) (0<=(↑x.1:Int)) ((↑x.1:Int)<aG (uR x)) (∃(G:Sl),aL (zU x) (Bv x) b6 (o+bM x.1 1) (aM G)/\∃(B:Nat),aA (dM (zU x) (Bv x) (Bp x) B) (dM (zU x) (Bv x) (Bp x) B) (∃(s:Sl),AN (λt r R=>aA (cJ G (sD x).1=cJ s t) (bS (Bv x) s r) (aA (Ints (Bv x) t R) (Pb r) (aI (AM r R) (eD (zU x)) (dM (zU x) (Bv x) (Bp x) B) (rM (zU x) B (λO=>O (iO r R)) (iO r R) (λk=>∀(S:MH),bF (j6 (zU x) S B) (pU S B (GH k (iO r R)))
 (∃(d:Nat×Nat×Nat×Sl×Sl×Sl×MH×PH),aA (I d) (m8 d<m8 x) (aA (aZ (Gz x) (Gz d)) (bY x.2.1 d.2.1) (aA (aZ (sD x).1 (sD d).1) (bY (Bp x) (Bp d)) (aA (aZ (uR x) (uR d)) (bQ (uR x) (uR d)) (aI (gX (bH x.1 1)=bP d.1) (bW S (iH (sD d))) (dC (iH (sD x)) (iH (sD d))) True)))))) (λl L D=>gZ l (iO r R) L D) (λl D=>∀(S:MH),bF (j6 (zU x) S B) (pU S B (gZ l (iO r R) Du D)) (∃(d:Nat×Nat×Nat×Sl×Sl×Sl×MH×PH),aA (I d) (m8 d<m8 x) (aA (aZ (Gz x) (Gz d)) (bY x.2.1 d.2.1) (aA (aZ (sD x).1 (sD d).1) (bY (Bp x) (Bp d)) (aA (aZ (uR x) (uR d)) (bQ (uR x) (uR d)) (aI (gX (bH x.1 1)=bP d.1)
 (bW S (iH (sD d))) (dC (iH (sD x)) (iH (sD d))) True)))))))))))))) (Iy (Gz x) (mR 101 (Array.mk (j5 (SS (Bp x) 0) (SS x.2.1 0)))) (Bv x) (λg R l p u r=>bF (List.Mem r l) (bS (Bv x) u r) (CJ g 4 (dE u (List.map CV.val R)) (zU x) (Bv x) (λd S T=>aA (d=uA (p r)) (bW S (iH (sD x))) (eH T (iH (sD x)))))) K (zU x))))))))))))) (dP (y==6) (kW n h U 0 (λF=>cF h 1 (mE (aM H) (aM F)) (λs f=>∃(C:Sl)(l D:ct),aA (tA s=tA C) (Leaves f C [l,D]) (aA (Cb l) (Cb D) (∀(W:Sl)(T:PH),bR f T (Rows T W (l++D)) (∃(s5:Sl),F5 W s5 n T K)))))) (y==7) (Iy H (mR 103 (Ca U)) h (λg c l p u r=>bF (List.Mem r l) (bS h u r) (CJ g
 4 (dE u (List.map CV.val c)) n h (λx z f=>aA (x=uA (p r)) (z=n) (f=h)))) K n) (dP (y==8) (Iy H (mR 105 (Ca U)) h (λg c l p u r=>bF (List.Mem r l) (bS h u r) (CJ g 4 (dE u (List.map CV.val c)) n h (λx z f=>aA (x=uA (p r)) (z=n) (f=h)))) K n) (y==9) (∃(F:xC),aL n h b 0 F.enc/\∃(L:xC),QX (λs g o=>∃(l:ct)(w:Nat),IL (gC (tO F) (qW H)) (gC (tO L) (qW s)) h L.group g (jC h L.order o) (Rows h s l) w l n (λA z f k g1=>Iz n A z (bR h f (sM rF z f A g o l k g1) (Lf z A f (λr M=>∃(I:Nat×cu×Nat×MH×PH->Prop)(P:Nat×cu×Nat×MH×PH->Nat),(∃(x:Nat×cu×Nat×MH×PH),aA (I x) (bY b x.1) (aA (eL 131) (bY r (IT x)) (aI (F6 x.2.1)
 (bW M x.2.2.2) (eH f x.2.2.2) True)))/\∀(x:Nat×cu×Nat×MH×PH),Le (I x) (pC x.2.2) (IT x) (cF (kY x.2.2) 1 (iC x.2.1) (λC T=>∃(W:Sl),F5 C W (pC x.2.2) T K)) (λQ=>QT (λJ k1 D d=>Es Q J (IT x) k1 D d/\∃(C:Sl),d.2=dX C/\∃(G:Int),aI (aL Q (kY x.2.2) x.1 19 (bC G)) (0<=oP C G) (oP C G<=(↑C.cap:Int)) (∃(B:List cr),aA (fU 1 B) (uZ Q (kY x.2.2) (Sl.mk C.a (oP C G).toNat C.cap) 1 B) (aA (sY (iC x.2.1) B 24) (sZ (iC x.2.1) B) (∃(j:Nat×cu×Nat×MH×PH),aA (I j) (P j<P x) (aA (bY x.1 j.1) (eL 131) (aA (bY (IT x) (IT j)) (bV 65 1 (iC x.2.1++B)=nX 65 j.2.1) (aA (bW Q j.2.2.2) (dC x.2.2.2 j.2.2.2)
 True)))))))))))))) (∃(F:xC),aL n h b 0 F.enc/\∃(A:Sl),aL n h U 0 (aM A)/\∃(L:xC),QX (λs g o=>∃(l:ct)(w:Nat),IL (gC (tO F) (qW A)) (gC (tO L) (qW s)) h L.group g (jC h L.order o) (Rows h s l) w l n (λG z f k g1=>Iz n G z (bR h f (sM rF z f G g o l k g1) (∀(J:Nat)(M:MH),bF (cK z f J) (bL z M J (oW EI) 160) (jN (λc E=>aA (yP M J (gO c E 0)) (0<c.size) (∀(P:MH),bL M P J (fE (Dt G) 1 c) E->Iy H (mR 107 (Array.mk (j5 (SS J 0) (SS b 0)))) f (λg2 Y D p u r=>bF (List.Mem r D) (bS f u r) (CJ g2 4 (dE u (List.map CV.val Y)) P f (λx Q T=>aA (x=uA (p r)) (Q=P) (T=f)))) K P)))))))))))))
theorem a8Z:cm 96 aDJ:=by
 refine iU func96 ?_;rintro c m h K ⟨u,b,v,w,r,rfl,d,e,f,g⟩;refine⟨rI [(97,aDZ)] [] [] [] [0] [] false,rfl,aE Tv aH,bGX u b m h K,ax,?_⟩;exact⟨v.where_,.of_m d rfl,v.where_,u,w,r,rfl,e,f,g⟩
theorem axQ:cm 101 b4Q:=by
 refine iU func101 ?_;rintro j m h K ⟨u,e,n,y,s,r,c,ks,rfl,f,g,o,z,A,B,d,C,D⟩;refine⟨rI [(100,U2)] [] [] [] [0] [] false,rfl,aE Dy aH,bpQ u e n m h K,ax,?_⟩;exact⟨y,.of_m f rfl,s,.of_m g rfl,.of_m f rfl,u,s,r,c,rfl,A,z,B,d,C,.of_m f rfl,.of_m g rfl,o.get D⟩
theorem awZ:cm 103 (caQ false):=by
 refine iU func103 ?_;rintro e m h K ⟨u,b,s,l,r,rfl,f,g,c,j,n,d⟩;refine⟨rI [(104,cbJ)] [] [] [] [0] [] false,rfl,aE RV aH,boJ u b m h K,ax,?_⟩;exact⟨s,.of_m f rfl,s,u,l,r,rfl,g,c,j,n,by rw[show(JF l r==false)= !JF l r by grind]at d;exact d⟩
theorem awX:cm 105 (caQ true):=by
 refine iU func105 ?_;rintro e m h K ⟨u,b,s,l,r,rfl,f,g,c,j,n,d⟩;refine⟨rI [(104,cbJ)] [] [] [] [0] [] false,rfl,aE RV aH,boX u b m h K,ax,?_⟩;exact⟨s,.of_m f rfl,s,u,l,r,rfl,g,c,j,n,by rw[show(JF l r==true)=JF l r by grind]at d;exact d⟩
theorem avX:cm 109 ccJ:=by
 refine iU func109 ?_;rintro j m h K ⟨i,n,e,o,v,od,g,s,rs,r,x,rfl,y,z,A,B,c,C,f,D⟩;refine⟨rI [(110,H9)] [] [] [] [0] [] false,rfl,aE GV aH,UG i n e o m h K,ax,?_⟩;dsimp only[UG,push_cast];have J:=bN.slen c;have L:=(bm f);obtain⟨E,F,u,G,H,I⟩:=bN.at c f;have d:aL m h e 0 [dX g]:=.of_m z rfl;exact⟨v.order,.of_m y rfl,g,d,E,F,G,aC,aC,u,.imm H,s,.of_m A rfl,d,v.order,u,s,od,x,r,rfl,B,I,C,d,D⟩
theorem YO:cm 108 Zg:=Qq avX λy m h K⟨n,j,o,u,v,od,g,s,rs,r,z,e,A,B,C,D,c,E,F,d,G,f,H⟩=>⟨n,j,o,u,z,od,rs,r,e,by have:=c.len;omega,F,d,G,f,λi x I=>⟨i,j,o,u,v,od,g,s,rs,r,x,rfl,A,B,C,D,c,E,I,rfl,rfl,rfl⟩,H⟩
structure cGZ(m:MH)(h:PH)(v:xC)(bq be:Nat)(e:Sl)(Gk:ct)(c:Nat×Nat×Nat×MH×PH):Prop where
 c1:c.1=bq
 c2:c.2.1=be
 c3:c.2.2.2.2=h
 sub:Sub m c.2.2.2.1
 q_:c.2.2.2.1 bq=some (.cells ⟨xC.enc v⟩ 101 (0,0))
 e_:c.2.2.2.1 be=some (.cells #[Sl.val e] 65 (0,0))
 g_:∃s,c.2.2.2.1 c.2.2.1=some (.cells #[Sl.val s] 58 (0,0))/\Rows h s Gk
theorem avJ:cm 107 aCJ:=by
 refine SF func107 ?_;rintro b' m h K ⟨u,ba,M,v,y,gr,od,l,kk,G,r,w,rfl,X,H,Y,L,O,Z,a7,hu,hr,a',hT,hK⟩;refine⟨bWQ,rfl,aE Dy (aE YO aH),NK u ba M m h (cQ h K),ax,?_⟩;show NK u ba M m h (cQ h K);dsimp only[NK,push_cast];intro T D a8 a0;obtain⟨F,n1⟩:=iT (Sub.refl m) a8 a0;have I:D T=some (.cells #[Sl.val u] 65 (0,0)):=a0.at_;have a1:jM r.length gr:=bg
 have g1:=Y.keep (λo e=>F _ o e) (.refl _)
 have a2:∀{g j},cK D h g->lK D j g (.cells #[pV] 58 (0,0))->∀z o,D z=some o->j z=some o:=fun{g j} f d z o B=>by
  have:z≠g:=λU=>by rw[U,f.m_]at B;cases B
  rw[d.other z this];exact B
 have fin:∀s,DH kk (rF (pick r gr)) s->∀g j,cK D h g->lK D j g (.cells #[pV] 58 (0,0))->∃(cs:Array Value)(E:TypeId),yP j g (.cells cs E (0,0))/\0<cs.size/\∀m9,lK j m9 g (.cells (Array.mk (dX s::cs.toList.drop 1)) E (0,0))->
  ∃c:Nat×Nat×Nat×MH×PH,cGZ m h v M T u (G (rF (pick r gr))) c/\WY M 0=WY c.1 0/\WY T 0=WY c.2.1 0/\WY g 0=WY c.2.2.1 0/\m9=c.2.2.2.1/\h=c.2.2.2.2/\True:=λs A g j f d=>by
  refine⟨_,_,⟨d.at_⟩,ay,λm9 a3=>⟨(M,T,g,m9,h),?_,MT⟩⟩
  have P:∀z o,D z=some o->m9 z=some o:=λz o B=>by
   have:z≠g:=λU=>by rw[U,f.m_]at B;cases B
   rw[a3.other z this,d.other z this];exact B
  exact⟨rfl,rfl,rfl,λz o B=>P z o (F z o B),P _ _ (F _ _ H),P _ _ I,s,a3.at_,Y.at_ A⟩
 have Q:aL D h ba 0 [Value.map (some y)]:=.of_m (F _ _ X) rfl;have V:aL D h T 0 [dX u]:=.of_m I rfl;have W:aL D h M 17 [dX v.group]:=.of_m (F _ _ H) rfl;refine⟨cGZ m h v M T u (G (rF (pick r gr))),⟨y,Q,u,V,v.group,W,⟨Q,u,v.group,r,gr,rfl,hu,Z,hr,a1,hT.sub F,Q,⟨V,W,g1.get2 (λA=>⟨Q,V,W,fin _ A⟩) (λs A=>⟨Q,V,W,fin _ A⟩)⟩,Q,V,W,λg j f d=>?_⟩,Q,V,W,λg j f d=>?_⟩,?_⟩
 .have J:=a2 f d;exact⟨.of_m (J _ _ I) rfl,.of_m (J _ _ (F _ _ H)) rfl,(g1.keep (J y) (.refl _)).get2 (λA=>fin _ A g j f d) (λs A=>fin _ A g j f d)⟩
 .have J:=a2 f d;have a4:aL j h ba 0 [Value.map (some y)]:=.of_m (J _ _ (F _ _ X)) rfl;exact⟨a4,u,v.group,r,gr,rfl,hu,Z,hr,a1,(hT.sub F).sub J,a4,.of_m (J _ _ I) rfl,.of_m (J _ _ (F _ _ H)) rfl,(g1.keep (J y) (.refl _)).get2 (λA=>fin _ A g j f d) (λs A=>fin _ A g j f d)⟩
 .rintro⟨c1,c2,g,mz,hz⟩ ⟨e1,B,U,a5,R,a6,s,S,C⟩;dsimp only at e1 B U a5 R a6 S⊢
  subst e1 B U;have n:=HK LX (od:=od) L O hr a';rw[<-(Y.perm _).countP_eq]at n;refine⟨s,.of_m S rfl,s.len,c1,g,c2,v,od,s,u,G (rF (pick r gr)),r,w,rfl,R,S,a6,a7,C,hu,C.slen.symm,Y.sort _,λz a9=>?_,a',v.limit,.of_m R rfl,?_⟩
  .have:=(Y.perm _).mem_iff.1 (show z∈_ from a9);exact L.wid z (mem_filter.1 this).1
  .rw[n];exact cQ.keep a5 (.refl _) hK
theorem c4J x:Vc.valOf Tryz.prog 4 [x]=x:=ax
theorem Ml{g S u}{c:cr}{b}(d:cm g S)(e:∀K:CV->MH->PH->Prop,K (cB b) m h->S (cS u::c.map .val) m h K):FAt Tryz.prog g 4 (cS u::c.map .val) m h λx m' h'=>x=[.bool b]/\m'=m/\h'=h:=
 Sound.fat (vs:=Sl.val u::c) d (e _ ⟨[.bool b],(congrArg CV.val (c4J _)).symm,rfl,rfl,rfl⟩)
structure StM(m m2:MH)(b b2:Nat)(v:xC)(s2:Sl):Prop where
 sub:Sub m m2
 b_:m2 b=some (.cells ⟨xC.enc v⟩ 101 (0,0))
 s_:m2 b2=some (.cells #[Sl.val s2] 58 (0,0))
 tab:eD m2
theorem au:cm 50 Zh:=by
 refine SF func50 ?_;rintro k0 m h K ⟨v,t,R,S,n,B,rfl,U,G,I,hT,h2,g8,P,W,b0,J⟩;refine⟨f50_ctx,rfl,aE a8J (aE Fm (aE a8X (aE Tu (aE Dy (aE awJ (aE awQ aH)))))),af v R S m h (cQ h K),ax,?_⟩;show af v R S m h (cQ h K);dsimp only[af,push_cast];obtain⟨op,ta,w,co,on,gr,od,li,lf,rt⟩:=t;dsimp only[Step.query]at P J h2 g8;intro b m1 d1 a5 b2 m2 b1 a6
 have M:StM m m2 b b2 v S:=by
  obtain⟨R,n1⟩:=iT (Sub.refl m) d1 a5;obtain⟨st,n2⟩:=iT R b1 a6;have g9:b≠b2:=λe=>by have:=b1.m_;rw[<-e,a5.at_]at this;cases this
  exact⟨st,by rw[a6.other b g9];exact a5.at_,a6.at_,hT.sub st⟩
 clear d1 a5 b1 a6;have d2:=bN.slen G;have d3:=bN.slen I;have e0:v.op=op:=U.op_;have go:∀k,(v.op==k)=true->op=k:=λk e=>e0.symm.trans (eq_of_beq e);have b6:∀{m' h'},m' b=some (.cells ⟨xC.enc v⟩ 101 (0,0))->aL m' h' b 0 (xC.enc v):=λh=>.of_m h (take_length ..);refine⟨v.op,.of_m M.b_ rfl,aD (λe=>?_) (λn2=>aD (λe=>?_) (λn3=>aD (λe=>?_) (λn4=>aD (λe=>?_) (λn5=>aD (λe=>?_) (λn6=>aD (λe=>?_) (λn7=>aD (λe=>?_) (λn8=>aD (λe=>?_) (λn9=>?_))))))))⟩
 .obtain rfl:=go _ e;exact⟨R,96,[.pointer (some ⟨b,0,none⟩)],n,λr=>oA r w,rfl,G,W,λu r j X=>Ml a8Z λK J=>⟨u,b,v,w,r,rfl,M.b_,U.where_,X,J⟩,λL h' le j=>cQ.sub M.sub le (J L h' le j)⟩
 .obtain rfl:=go _ e;obtain⟨_,k3,wd,d,C⟩:=(show MR (.mk 3 ta w co on gr od li []) [n,B]from P)
  have d:iL wd n:=d;have hc:Ints h v.columns co:=U.columns_;have h4:=hc.slen;refine⟨aC,aC,aC,aC,λx=>x.1<=n.length/\x.2.1=b/\x.2.2.1=R/\x.2.2.2.2.1=m2/\PH.le h x.2.2.2.2.2/\fA x.2.2.2.2.2 x.2.2.2.1 ((n.take x.1).map λr=>pick r co),λx=>n.length-x.1,⟨(0,b,R,[],m2,h),⟨Nat.zero_le _,rfl,rfl,rfl,.refl _,bk (fA.nil h)⟩,MT⟩,?_⟩;rintro⟨i,b',t1,us,mx,Y⟩ ⟨hi,e1,A,O,le,j⟩;dsimp only at hi e1 A O le j⊢
  subst e1 A O;refine aF (λb7=>?_) (λd4=>?_)
  .obtain⟨r,D⟩:=fF d2 b7;obtain⟨bb,o,u,ea,rd,X⟩:=bN.at G D;have k4:=d.wid r (bo D);have d5:=bS.mono X le;have k5:=bN.slen d5;have k6:(pick r co).length=co.length:=by simp[pick]
   have d6:=j.len;rw[length_map,length_take]at d6;refine⟨bb,o,ea,aC,aC,u,.imm (rd.mono le),v.columns,.of_m M.b_ rfl,aC,aC,aC,aC,v.columns,.of_m M.b_ rfl,λz=>z.1<=co.length/\z.2.1=i/\z.2.2.1=b'/\z.2.2.2.1=t1/\z.2.2.2.2.1=u/\z.2.2.2.2.2.1=v.columns/\z.2.2.2.2.2.2.1=us/\z.2.2.2.2.2.2.2.1=(pick r co).take z.1++replicate (co.length-z.1) zeroV/\z.2.2.2.2.2.2.2.2.1=mx/\z.2.2.2.2.2.2.2.2.2=Y,λz=>co.length-z.1,⟨(0,i,b',t1,u,v.columns,us,replicate co.length zeroV,mx,Y),⟨Nat.zero_le _,rfl,rfl,rfl,rfl,rfl,rfl,ay,rfl,rfl⟩,?_⟩,?_⟩
   .dsimp only;rw[map_replicate,show((v.columns.len:Int)).toNat=co.length by omega];exact MT
   .rintro⟨k,i',d7,d8,u',cc,d9,cells,my,hy⟩ ⟨hk,e1,A,O,e4,e5,e6,e7,e8,e9⟩;dsimp only at hk e1 A O e4 e5 e6 e7 e8 e9⊢
    subst e1 A O e4 e5 e6 e7 e8 e9;refine aF (λe'=>?_) (λd4=>?_)
    .obtain⟨c,f'⟩:=fF h4 e';obtain⟨b4,o4,e4,k7⟩:=(hc.mono le).at f';obtain⟨y,h7,h8,h0,h1⟩:=KI (r:=r) bg f';obtain⟨b5,o5,y',e5,h9,rfl⟩:=bN.at d5 h7;have f0:k<co.length:=by omega
     have f1:=Xe h8 f0;refine⟨b4,o4,e4,aC,aC,c,.imm bg,b5,o5,e5,h0,aC,y,.imm h9,aC,bf,_,Ta f0,by simp[VV.enc],(k+1,i',d7,d8,u',v.columns,d9,(pick r co).take (k+1)++replicate (co.length-(k+1)) zeroV,my,hy),⟨aC,rfl,rfl,rfl,rfl,rfl,rfl,rfl,rfl,rfl⟩,aC,?_⟩;dsimp only;refine⟨rfl,rfl,rfl,rfl,rfl,rfl,rfl,rfl,rfl,by rw[iY aC],rfl,?_,rfl,rfl,trivial⟩;rw[<-f1,map_set];rfl
    .have:k=co.length:=by omega
     subst this;rw[bt aC,Nat.sub_self,replicate_zero,append_nil]
     refineλs3 h3 E T=>⟨bg,bg,(i'+1,d7,d8,d9++[s3],my,h3),⟨aC,rfl,rfl,rfl,le.trans E,?_⟩,aC,?_⟩
     .dsimp only;rw[cd,D,bu];exact(j.mono E).snoc ⟨⟨_,T,rfl,λi x Y=>⟨x,Y,rfl⟩⟩,bg⟩
     .dsimp only;rw[iY aC,bu];exact MT
  .rw[bt aC]at j
   exactλs3 h3 E T=>⟨s3,us,_,rfl,.imm T,j.mono E,bf,λL h' a' b8=>cQ.sub M.sub (le.trans (E.trans a')) (J L h' (le.trans (E.trans a')) b8)⟩
 .obtain rfl:=go _ e;obtain⟨h5,h6⟩:=(show MS (.mk 4 ta w co on gr od li []) [n,B]from P)
  exact⟨v,b6 M.b_,S,.of_m M.s_ rfl,v,on,R,S,n,B,rfl,U.on_,G,I,M.tab,h5,h6,λL h' le j=>cQ.sub M.sub le (J L h' le j)⟩
 .obtain rfl:=go _ e;obtain⟨_,wa,wb,d,f,f2,b9⟩:=(show MP (.mk 5 ta w co on gr od li []) [n,B]from P)
  have d:iL wa n:=d;have f:iL wb B:=f;refine⟨v.on,.of_m M.b_ rfl,v.on,on,rfl,U.on_,λsa sb h1 F i0 i1 b3 m3 f3 c'=>⟨_,_,⟨c'.at_⟩,ay,λm4 a0 y m5 i2 Z b4 m6 f4 c0=>⟨_,_,⟨c0.at_⟩,ay,λm7 c5=>?_⟩⟩⟩;obtain⟨k8,n3⟩:=iT M.sub f3 c'
  have Q:∀{z o},m2 z=some o->m4 z=some o:=fun{z o} A=>by
   have:z≠b3:=λO=>by rw[O,f3.m_]at A;cases A
   rw[a0.other z this,c'.other z this];exact A
  have c6:∀{z o},m4 z=some o->m7 z=some o/\z≠y:=fun{z o} A=>by
   have O:z≠y:=λO=>by rw[O,i2.m_]at A;cases A
   have e5:m5 z=some o:=by rw[Z.other z O];exact A
   have e4:z≠b4:=λe4=>by rw[e4,f4.m_]at e5;cases e5
   exact⟨by rw[c5.other z e4,c0.other z e4];exact e5,O⟩
  have y4:y≠b4:=λe=>by have:=f4.m_;rw[<-e,Z.at_]at this;cases this
  have i3:m7 y=some (.map #[] 0):=by rw[c5.other y y4,c0.other y y4];exact Z.at_
  have i4:m7 b2=some (.cells #[Sl.val S] 58 (0,0)):=(c6 (Q M.s_)).1;have f5:=c6 a0.at_;have V:∀{z o},m z=some o->m7 z=some o/\z≠y:=fun{z o} e=>c6 (Q (M.sub z o e));have G:=bN.mono G F (λ_ _ h=>bS.mono h F);have I:=bN.mono I F (λ_ _ h=>bS.mono h F);refine⟨S,.of_m i4 rfl,λz=>z.1<=B.length/\z.2.1=b3/\z.2.2.1=b4/\z.2.2.2.1=R/\z.2.2.2.2.1=sb/\z.2.2.2.2.2.1=S/\z.2.2.2.2.2.2.2=h1/\(∀x o,m7 x=some o->x≠y->z.2.2.2.2.2.2.1 x=some o)/\sJ z.2.2.2.2.2.2.1 y ((B.take z.1).map λr=>rF (pick r (eU on))),λz=>B.length-z.1,⟨(0,b3,b4,R,sb,S,m7,h1),⟨Nat.zero_le _,rfl,rfl,rfl,rfl,rfl,rfl,λ_ _ e _=>e,bk (sJ.new i3)⟩,MT⟩,?_⟩;rintro⟨i,c3,c4,t1,tb,t2,mx,Y⟩ ⟨hi,e1,A,O,e4,e5,e6,a1,a7⟩;dsimp only at hi e1 A O e4 e5 e6 a1 a7⊢
  subst e1 A O e4 e5 e6;have T7:eD mx:=hT.sub λz o e=>a1 z o (V e).1 (V e).2;have f6:mx c4=some (.cells #[.map (some y)] 157 (0,0)):=a1 c4 _ c5.at_ (Ne.symm y4);refine aF (λb7=>?_) (λd4=>?_)
  .obtain⟨r,D⟩:=fF d3 b7;obtain⟨bb,o,u,ea,rd,X⟩:=bN.at I D;have f7:=bo D;have r4:aL mx Y c4 0 [Value.map (some y)]:=.of_m f6 rfl;rw[iY aC];refine⟨bb,o,ea,aC,aC,u,.imm rd,y,r4,r4,u,tb,r,eU on,rfl,X,i1,f.row r f7,by rw[f.wid r f7];exact b9,T7,r4,a7.put (λm' i5 f8=>⟨(i+1,c3,c4,t1,tb,t2,m',Y),⟨aC,rfl,rfl,rfl,rfl,rfl,rfl,λz o A c7=>by dsimp only;rw[i5.other z c7];grind,?_⟩,aC,MT⟩)⟩;obtain⟨kk,h5,h6⟩:=f8.ex;exact⟨kk,h5,λq=>by rw[h6,cd,D];grind⟩
  .rw[bt aC]at a7;refine⟨t1,101,[.pointer (some ⟨c4,0,none⟩),.pointer (some ⟨c3,0,none⟩)],n,λx=>B.any λy=>agree on x y,rfl,G,W,λu r j X=>Ml axQ λK J=>⟨u,c4,c3,y,sa,r,jH on,_,rfl,f6,a1 c3 _ f5.1 f5.2,a7,i0,X,d.row r j,by rw[d.wid r j];exact f2,T7,λt U=>?_⟩,λL h' le j=>cQ.sub (λz o e=>a1 z o (V e).1 (V e).2) (F.trans le) (J L h' (F.trans le) j)⟩;have f9:jM r.length (jH on):=by rw[d.wid r j];exact f2
   have h1:(rF (pick r (jH on))∈B.map λz=>rF (pick z (eU on)))↔(B.any λy=>agree on r y)=true:=by
    rw[mem_map,any_eq_true];constructor
    .rintro⟨z,hz,A⟩;exact⟨z,hz,(C6 LX (d.row r j) (f.row z hz) f9 (by rw[f.wid z hz];exact b9)).1 A.symm⟩
    .rintro⟨z,hz,A⟩;exact⟨z,hz,((C6 LX (d.row r j) (f.row z hz) f9 (by rw[f.wid z hz];exact b9)).2 A).symm⟩
   grind
 .obtain rfl:=go _ e;refine⟨S,.of_m M.s_ rfl,λs h1 F D=>⟨s,n,B,rfl,⟨⟨[R,S],D,rfl,λi x Y=>?_⟩,ay⟩,W,b0,λsl h2 H j=>?_⟩⟩
  .match i,Y with
   |0,Y=>cases Y;exact⟨R,rfl,bN.mono G F (λ_ _ h=>bS.mono h F)⟩
   |1,Y=>cases Y;exact⟨S,rfl,bN.mono I F (λ_ _ h=>bS.mono h F)⟩
  .obtain⟨⟨us,D,g',i8⟩,_⟩:=j;exact⟨sl,us,n++B,rfl,.imm D,⟨g'.symm,i8⟩,aC,λL h3 E T=>cQ.sub M.sub (F.trans (H.trans E)) (J L h3 (F.trans (H.trans E)) T)⟩
 .obtain rfl:=go _ e;obtain⟨_,wd,d⟩:=(show B8 (.mk 7 ta w co on gr od li []) [n,B]from P)
  exact⟨R,103,[.pointer (some ⟨b2,0,none⟩)],n,λr=>JF B r==false,rfl,G,W,λu r j X=>Ml awZ λK J=>⟨u,b2,S,B,r,rfl,M.s_,I,(d B ay).srt,X,b0,J⟩,λL h' le j=>cQ.sub M.sub le (J L h' le j)⟩
 .obtain rfl:=go _ e;obtain⟨_,wd,d⟩:=(show B8 (.mk 8 ta w co on gr od li []) [n,B]from P)
  exact⟨R,105,[.pointer (some ⟨b2,0,none⟩)],n,λr=>JF B r==true,rfl,G,W,λu r j X=>Ml awX λK J=>⟨u,b2,S,B,r,rfl,M.s_,I,(d B ay).srt,X,b0,J⟩,λL h' le j=>cQ.sub M.sub le (J L h' le j)⟩
 .obtain rfl:=go _ e;obtain⟨_,⟨wd,d,C⟩,g0⟩:=(show MQ (.mk 9 ta w co on gr od li []) [n,B]from P)
  have d:iL wd n:=d;refine⟨v,b6 M.b_,v,R,gr,od,n,wd,rfl,U.group_,U.order_,G,d,C,M.tab,λy m3 h2 kk g hy g1 H hg=>⟨_,hg.map_,λr m4 c8 i9 it=>?_⟩⟩;have a2:∀{z o},m2 z=some o->m3 z=some o:=fun{z o} e=>bg
  have Q:∀{z o},m2 z=some o->m4 z=some o/\z≠r:=fun{z o} e=>by
   have:z≠r:=λA=>by have:=a2 e;rw[A,c8.m_]at this;cases this
   exact⟨by rw[i9.other z this];exact a2 e,this⟩
  refine⟨λz=>z.1=b/\z.2.2.1=r/\z.2.2.2.2=h2/\(∀x o,m4 x=some o->x≠r->z.2.2.2.1 x=some o)/\∃left a3,mL z.2.2.2.1 y r (kk.map λp=>(Value.string p.1,dX p.2)) left/\fA h2 z.2.1 a3/\GY rF gr li n kk g left a3,λz=>leftOf z.2.2.2.1 z.2.2.1,⟨(b,[],r,m4,h2),⟨rfl,rfl,rfl,λ_ _ e _=>e,_,[],it,fA.nil _,.start⟩,MT⟩,?_⟩;rintro⟨b',us,r',mz,hz⟩ ⟨e1,A,O,c9,left,a3,a4,a8,rk⟩;dsimp only at e1 A O c9 a4 a8 rk⊢
  subst e1 A O;have d6:=a8.len;have j2:=rk.cnt;refine⟨y,_,left,a4,λd' s3 h3 E T=>?_,λk1 x1 k2 g2 m5 g3 d0=>?_⟩
  .subst d';refine⟨s3,us,a3,rfl,.imm T,a8.mono E,aC,λL h' a' b8=>cQ.sub (λz o e=>c9 z o (Q (M.sub z o e)).1 (Q (M.sub z o e)).2) (H.trans (E.trans a')) (J L h' (H.trans (E.trans a')) ?_)⟩;show Rows h' L (yN gr od li n n);rw[rk.done LX hg d C g0];exact b8
  .have j':x1∈left:=bg
   obtain⟨p0,g4,rfl⟩:=mem_map.1 (mL.mem a4 j');have g5:v.limit=li:=U.limit_;have j0:m5 b'=some (.cells ⟨xC.enc v⟩ 101 (0,0)):=by rw[g3.other b' (Q M.b_).2];exact c9 b' _ (Q M.b_).1 (Q M.b_).2
   obtain⟨c1,c2,g6,D,j1,g'⟩:=W2 (li:=li) (hg.rows p0 g4) g0;have k9:=(hg.perm p0.1).length_eq;have k':(mK rF gr n p0.1).length<=n.length:=length_filter_le _ _;refine⟨y,_,_,_,d0,p0.2,rfl,li,.of_m j0 (by rw[<-g5];rfl),c1,c2,g6.map eS,BM _,.imm D,bg,bg,(b',us++g6,r',m5,hz),⟨rfl,rfl,rfl,λx o e c7=>by dsimp only;rw[g3.other x c7];grind,_,a3++(g p0.1).take li.toNat,d0.it,a8.app j1,rk.step hg a4 g4 g2⟩,?_,bg⟩;show leftOf m5 r'<leftOf mz r';rw[mL.left_ d0.it,mL.left_ a4,g2];simp
 .have n2:=ne_of_beq_false n2;have n3:=ne_of_beq_false n3;have n4:=ne_of_beq_false n4;have n5:=ne_of_beq_false n5;have n6:=ne_of_beq_false n6;have n7:=ne_of_beq_false n7;have n8:=ne_of_beq_false n8;have n9:=ne_of_beq_false n9;obtain rfl:op=10:=by omega
  obtain⟨_,wd,d,f,C⟩:=(show Fc (.mk 10 ta w co on gr od li []) [n,B]from P)
  have d:iL wd n:=d;have f:iL wd B:=f;refine⟨v,b6 M.b_,S,.of_m M.s_ rfl,v,S,gr,od,B,wd,rfl,U.group_,U.order_,I,f,C,M.tab,λy m3 h2 kk g hy g1 H hg b4 m4 c8 a0=>⟨_,_,⟨a0.at_⟩,ay,λm5 Z=>?_⟩⟩
  have g7:∀{z o},m3 z=some o->m5 z=some o:=fun{z o} e=>by
   have:z≠b4:=λA=>by rw[A,c8.m_]at e;cases e
   rw[Z.other z this,a0.other z this];exact e
  have a2:∀{z o},m2 z=some o->m5 z=some o:=fun{z o} e=>g7 bg;have a9:Sub m m5:=λz o e=>a2 (M.sub z o e);exact⟨R,107,[.pointer (some ⟨b4,0,none⟩),.pointer (some ⟨b,0,none⟩)],n,λr=>decide (((B.countP λy=>uI gr r y&&decide (jR od y r<0):Nat):Int)<v.limit),rfl,bN.mono G H (λ_ _ h=>bS.mono h H),W,λu r j X=>Ml avJ λK J=>⟨u,b4,b,v,y,gr,od,B,kk,g,r,wd,rfl,Z.at_,a2 M.b_,hg.keep (λo=>g7) (.refl _),f,C,U.group_.mono H,U.order_.mono H,X,d.row r j,d.wid r j,hT.sub a9,J⟩,λL h' le j=>cQ.sub a9 (H.trans le) (J L h' (H.trans le) (by have e:v.limit=li:=U.limit_;rw[e]at j;exact j))⟩
def aSt(s:Sl):CV:=.val (.agg ⟨[.slice s.a s.len s.cap]⟩)
def cJX:Vc.Spec:=λc m h K=>∃v s,c=[aS v,cI 3]/\iK h s v/\K (cI (eK s)) m h
def An(st:List ct):=(st.map λl=>(l.length:Int)).sum
def aYX:Vc.Spec:=λc m h K=>∃s d,c=[aSt s]/\Leaves h s d/\d.length<=1000/\K (cI (An d)) m h
def a7Z s t r:=AS s t&&(match s.tables[t.toNat]? with|some c=>Fi c r|none=>false)
def LW s t r:=match(if AS s t then s.tables[t.toNat]? else none)with|some c=>pH c r|none=>[]
def cKX:Vc.Spec:=λc m h K=>∃v s t d r,c=[aS v,cI t,cS d,cI 3]/\iK h s v/\bS h d r/\K (cB (a7Z s t r)) m h
def aUZ:Vc.Spec:=λc m h K=>∃v s t d r,c=[aS v,cI t,cS d]/\iK h s v/\bS h d r/\∀e,bS h e (LW s t r)->K (cS e) m h
def H0:Vc.Spec:=λc m h K=>∃v s e d,c=[aS v,cI 3,aSt e]/\iK h s v/\Leaves h e d/\d.length<=1000/\K (cI (jG s d)) m h
noncomputable def ckZ:=dJ [(132,cWZ),(133,NX)] [(7,{A:=Nat×cY×Sl×MH×PH,st:=λ⟨i,t,s,m,h⟩=>bZ 95 99 [(3,iv 3),(9,.at (.ptr 9 0)),(41,sv s),(42,iv s.len),(43,iv i)] [(9,.cells 73 (t.enc.map .val))] m h})] [(12,{A:=Nat×cY×VV×Sl×Bool×MH×PH,st:=λ⟨i,t,v,s,b,m,h⟩=>bZ 95 99 [(3,iv 3),(9,.at (.ptr 9 0)),(10,iv i),(11,.at (.ptr 11 0)),(12,bv b),(41,sv s),(42,iv s.len),(43,iv i)] [(9,.cells 73 (t.enc.map .val)),(11,.cells 30 (v.enc.map .val))] m h}),
 (13,{A:=Nat×cY×VV×Sl×Bool×Bool×MH×PH,st:=λ⟨i,t,v,s,b,c,m,h⟩=>bZ 95 99 [(3,iv 3),(9,.at (.ptr 9 0)),(10,iv i),(11,.at (.ptr 11 0)),(12,bv b),(13,bv c),(41,sv s),(42,iv s.len),(43,iv i)] [(9,.cells 73 (t.enc.map .val)),(11,.cells 30 (v.enc.map .val))] m h})] [] false
noncomputable def ckJ s m h:=dJ [] [(3,{A:=Nat×Int,st:=λ⟨i,n⟩=>bZ 19 20 [(3,iv n),(7,sv s),(8,iv s.len),(9,iv i)] [] m h})] [] [] false
noncomputable def crX(v:cA)(s:Sl)(m:MH)(h:PH):=dJ [(90,cJX),(91,aYX),(92,cKX),(94,aUZ),(93,JI)] [(9,{A:=Nat,st:=λi=>bZ 69 72 [(1,iv 3),(3,.at (.ptr 3 0)),(29,sv s),(30,iv s.len),(31,iv i)] [(3,.cells 27 (v.enc.map .val))] m h}),
 (12,{A:=Nat×Sl×Nat,st:=λ⟨i,u,j⟩=>bZ 69 72 [(1,iv 3),(3,.at (.ptr 3 0)),(8,iv i),(9,sv u),(29,sv s),(30,iv s.len),(31,iv i),(36,sv u),(37,iv u.len),(38,iv j)] [(3,.cells 27 (v.enc.map .val))] m h})] [] [] false
def XN(v:cA)(m:MH)(h:PH)(K:cn):=
  Lg v h (λs=>cX (eK s) 0 (K (gG (eK s)) m h) (K (gG 0) m h))
def XM(s:Sl)(m:MH)(h:PH)(K:cn):=
  ∃(I:Nat×Int->Prop)(d:Nat×Int->Nat),(∃(x:Nat×Int),aA (I x) (dH 0 x.2) (aA (aJ s) (bJ s) (dL (bE x.1) m m h h)))/\∀(x:Nat×Int),I x->bA (↑x.1:Int) (aG s) (bK (λb o=>aI (aW s.a b o) (0<=(↑x.1:Int)) ((↑x.1:Int)<aG s) (∃(y:Sl),aL m h b (o+bM x.1 1) (aM y)/\∃(c:Nat×Int),aA (I c) (d c<d x) (aA (dH (fM (x.2+aG y)) c.2) (aJ s) (aA (bJ s) (gX (bH x.1 1)=bP c.1) (aA (m=m) (h=h) True)))))) (K (gG x.2) m h)
noncomputable abbrev rO(a:Nat×cY×Sl×MH×PH):=a.2.2.1
noncomputable abbrev Hw(a:Nat×cY×Sl×MH×PH):=a.2.1
noncomputable abbrev oO(a:Nat×cY×Sl×MH×PH):=a.2.2.2
noncomputable abbrev Lz(a:Nat×cY×VV×Sl×Bool×MH×PH):=a.2.2.2.2.1
noncomputable abbrev CK(a:Nat×cY×VV×Sl×Bool×MH×PH):=a.2.2.2.1
noncomputable abbrev MW(a:Nat×cY×VV×Sl×Bool×MH×PH):=a.2.1
noncomputable abbrev LA(a:Nat×cY×VV×Sl×Bool×MH×PH):=sS 30 a.2.2.1.enc
noncomputable abbrev CL(a:Nat×cY×VV×Sl×Bool×MH×PH):=a.2.2.2.2.2
noncomputable abbrev zW(a:Nat×cY×VV×Sl×Bool×Bool×MH×PH):=a.2.2.2.1
noncomputable abbrev Hv(a:Nat×cY×VV×Sl×Bool×Bool×MH×PH):=a.2.1
noncomputable abbrev tP(a:Nat×cY×VV×Sl×Bool×Bool×MH×PH):=a.2.2.2.2.2.2
attribute [push_cast] rO Hw oO Lz CK MW LA CL zW Hv tP
def XL(v:cA)(t:Int)(s:Sl)(m:MH)(h:PH)(K:cn):=
  rE (λj n=>∃(u:Int),aA (fC (kE (cN v)) t=fC (kE (cN j)) u) (iK h n j) (oF (AS n u) (K bG m h) (Ip v t (λb o=>∃(y:cY),aL m h b (o+iA t 5) (Bq y)/\cX (aG s) (BD y) (K bG m h) (∃(I:Nat×cY×Sl×MH×PH->Prop)(f:Nat×cY×Sl×MH×PH->Nat),(∃(x:Nat×cY×Sl×MH×PH),aA (I x) (fD 3) (aA (eP 9) (aZ s (rO x)) (aA (bQ s (rO x)) (bE x.1) (aA (oQ 73 (iW y)=oQ 73 (iW (Hw x))) (bW m (oO x)) (lF (eH h (oO x)))))))/\∀(x:Nat×cY×Sl×MH×PH),I x->bA (↑x.1:Int) (aG (rO x)) (bK (λz A=>aI (aW (rO x).a z A) (0<=(↑x.1:Int)) ((↑x.1:Int)<aG (rO x)) (∃(g:VV),aL (oO x).1 (oO x).2 z (A+bM x.1 3) g.enc/\∃(B:VV),iF (CO
 g B) (!(kG B)) (K bG (oO x).1 (oO x).2) (∃(I1:Nat×cY×VV×Sl×Bool×MH×PH->Prop),eY g.kind 2 (∃(d:Nat×cY×VV×Sl×Bool×MH×PH),aA (I1 d) (fD 3) (aA (eP 9) (cG x.1 d.1) (aA (eP 11) (jQ (decide ((↑x.1:Int)>=(Hw x).key)) (Lz d)) (aA (aZ (rO x) (CK d)) (bQ (rO x) (CK d)) (aA (cG x.1 d.1) (oQ 73 (iW (Hw x))=oQ 73 (iW (MW d))) (aA (sS 30 g.enc=LA d) (fH (oO x) (CL d)) (lF (dC (oO x) (CL d))))))))) (∃(d:Nat×cY×VV×Sl×Bool×MH×PH),aA (I1 d) (fD 3) (aA (eP 9) (cG x.1 d.1) (aA (eP 11) (EH (Lz d)) (aA (aZ (rO x) (CK d)) (bQ (rO x) (CK d)) (aA (cG x.1 d.1) (oQ 73 (iW (Hw x))=oQ 73 (iW (MW d))) (aA (sS 30
 g.enc=LA d) (fH (oO x) (CL d)) (lF (dC (oO x) (CL d)))))))))/\∀(d:Nat×cY×VV×Sl×Bool×MH×PH),I1 d->∃(I2:Nat×cY×VV×Sl×Bool×Bool×MH×PH->Prop),eY d.2.2.1.kind 1 (∃(c:Nat×cY×VV×Sl×Bool×Bool×MH×PH),aA (I2 c) (fD 3) (aA (eP 9) (cG d.1 c.1) (aA (eP 11) (jQ (Lz d) c.2.2.2.2.1) (aA (jQ (decide ((↑d.1:Int)>=(MW d).key)) c.2.2.2.2.2.1) (aZ (CK d) (zW c)) (aA (bQ (CK d) (zW c)) (cG d.1 c.1) (aA (oQ 73 (iW (MW d))=oQ 73 (iW (Hv c))) (LA d=sS 30 c.2.2.1.enc) (aA (fH (CL d) (tP c)) (dC (CL d) (tP c)) True))))))) (∃(c:Nat×cY×VV×Sl×Bool×Bool×MH×PH),aA (I2 c) (fD 3) (aA (eP 9) (cG d.1 c.1) (aA (eP 11) (jQ
 (Lz d) c.2.2.2.2.1) (aA (EH c.2.2.2.2.2.1) (aZ (CK d) (zW c)) (aA (bQ (CK d) (zW c)) (cG d.1 c.1) (aA (oQ 73 (iW (MW d))=oQ 73 (iW (Hv c))) (LA d=sS 30 c.2.2.1.enc) (aA (fH (CL d) (tP c)) (dC (CL d) (tP c)) True)))))))/\∀(c:Nat×cY×VV×Sl×Bool×Bool×MH×PH),I2 c->bK (λC D=>aI (aW (Hv c).columns.a C D) (0<=(↑c.1:Int)) ((↑c.1:Int)<aG (Hv c).columns) (∃(E:Int),aL (tP c).1 (tP c).2 C (D+bM c.1 2+1) (bC E)/\cX c.2.2.1.kind E (oF c.2.2.2.2.1 (oF c.2.2.2.2.2.1 (K bG (tP c).1 (tP c).2) (∃(e:Nat×cY×Sl×MH×PH),aA (I e) (f e<f x) (aA (fD 3) (eP 9) (aA (aZ (zW c) (rO e)) (bQ (zW c) (rO e))
 (aA (gX (bH c.1 1)=bP e.1) (oQ 73 (iW (Hv c))=oQ 73 (iW (Hw e))) (aA (fH (tP c) (oO e)) (dC (tP c) (oO e)) True)))))) (∃(e:Nat×cY×Sl×MH×PH),aA (I e) (f e<f x) (aA (fD 3) (eP 9) (aA (aZ (zW c) (rO e)) (bQ (zW c) (rO e)) (aA (gX (bH c.1 1)=bP e.1) (oQ 73 (iW (Hv c))=oQ 73 (iW (Hw e))) (aA (fH (tP c) (oO e)) (dC (tP c) (oO e)) True)))))) (∃(e:Nat×cY×Sl×MH×PH),aA (I e) (f e<f x) (aA (fD 3) (eP 9) (aA (aZ (zW c) (rO e)) (bQ (zW c) (rO e)) (aA (gX (bH c.1 1)=bP e.1) (oQ 73 (iW (Hv c))=oQ 73 (iW (Hw e))) (aA (fH (tP c) (oO e)) (dC (tP c) (oO e)) True))))))))))) (K iQ
 (oO x).1 (oO x).2))))))
def XK(v:cA)(t:Int)(s:Sl)(m:MH)(h:PH)(K:cn):=
  bA t 0 (K Ft m h) (iG t (kT v) (K Ft m h) (PJ v t (λb o y=>aI (aL m h b (o+iA t 5+2) (bC y)) (0<=ite (oP s y>0) (oP s y) 0) (ite (oP s y>0) (oP s y) 0<=(↑s.cap:Int)) (K (CV.val (Value.slice s.a (ite (oP s y>0) (oP s y) 0).toNat s.cap)) m h))))
noncomputable abbrev rA(a:Nat×Sl×Nat):=a.2.1
noncomputable abbrev IM(a:Nat×Sl×Nat):=fM ((↑a.2.2:Int)-1)
attribute [push_cast] rA IM
def X7(v:cA)(s:Sl)(m:MH)(h:PH)(K:cn):=
  rE (λA n=>aA (fC (kE (cN v)) 3=fC (kE (cN A)) 3) (iK h n A) (cX (eK n) 0 (K (gG (eK n)) m h) (Hy (λB u=>aI (fY (kE (aM s)) (kE (aM B))) (Leaves h B u) (nZ u.length) (dP (decide (An u>512)) (K (gG 2) m h) (aG s !=kT v) (K (gG 80) m h) (p9 (λI x=>aA (I x) (fD 3) (aA (eP 3) (aJ s) (aA (bJ s) (bE x) (aA (cL v) (m=m) (bU h h))))) (λI C x=>I x->bA (↑x:Int) (aG s) (bK (λb o=>aI (aW s.a b o) (0<=(↑x:Int)) ((↑x:Int)<aG s) (∃(y:Sl),aL m h b (o+bM x 1) (aM y)/\∃(I1:Nat×Sl×Nat->Prop)(e:Nat×Sl×Nat->Nat),(∃(c:Nat×Sl×Nat),aA (I1 c) (fD 3) (aA (eP 3) (cG x c.1) (aA (aZ y (rA c)) (aJ s) (aA (bJ s) (cG x c.1) (aA (aZ y (rA c))
 (bQ y (rA c)) (aA (bE c.2.2) (cL v) (eG m m h h)))))))/\∀(c:Nat×Sl×Nat),I1 c->bA (↑c.2.2:Int) (aG (rA c)) (bK (λD E=>aI (aW (rA c).a D E) (0<=(↑c.2.2:Int)) ((↑c.2.2:Int)<aG (rA c)) (∃(z:Sl),aL m h D (E+bM c.2.2 1) (aM z)/\rE (λF G=>∃(t:Int),pB (λH r=>aI (cE (cN v) (gG (↑c.1:Int)::i6 z 3)=cE (cN F) (gG t::i6 H 3)) (iK h G F) (bS h H r) (qB (!(a7Z G t r)) (K (gG 80) m h) (↑c.2.2:Int) 0 (bK (λf g=>aI (aW (rA c).a f g) (0<=IM c) (IM c<aG (rA c)) (∃(j:Sl),aL m h f (g+iA (IM c) 1) (aM j)/\rE (λJ L=>∃(M:Int),pB (λO P=>aI (cE (cN v) (gC (gG (↑c.1:Int)) (qW j))=cE (cN J) (gC
 (gG M) (qW O))) (iK h L J) (bS h O P) (∀(Q:Sl),bS h Q (LW L M P)->j8 h f g (iA (IM c) 1) (aM j)/\rE (λR S=>∃(T:Int),pB (λa U=>aI (cE (cN v) (gC (gG (↑c.1:Int)) (qW z))=cE (cN R) (gC (gG T) (qW a))) (iK h S R) (bS h a U) (∀(V:Sl),bS h V (LW S T U)->j8 h f g (iA (IM c) 1) (aM j)/\∃(W:Sl),pB (λX Y=>∃(Z:da),aI (cJ Q V=cJ W X) (bS h W Y) (bS h X Z) (iG (eZ Y Z) 0 (K (gG 80) m h) (∃(d:Nat×Sl×Nat),aA (I1 d) (e d<e c) (aA (fD 3) jU (aA (cG c.1 d.1) (aZ (rA c) (rA d)) (aA (aJ s) (bJ s) (aA (cG c.1 d.1) (aZ (rA c) (rA d)) (aA (bQ (rA c) (rA d)) (gX (bH c.2.2 1)=bP d.2.2) (dL (cL v)
 m m h h)))))))))))))))))) (∃(d:Nat×Sl×Nat),aA (I1 d) (e d<e c) (aA (fD 3) jU (aA (cG c.1 d.1) (aZ (rA c) (rA d)) (aA (aJ s) (bJ s) (aA (cG c.1 d.1) (aZ (rA c) (rA d)) (aA (bQ (rA c) (rA d)) (gX (bH c.2.2 1)=bP d.2.2) (dL (cL v) m m h h))))))))))))) (∃(d:Nat),aA (I d) (C d<C x) (aA (fD 3) jU (aA (aJ s) (bJ s) (aA (gX (bH c.1 1)=bP d) (cL v) (eG m m h h)))))))) (K (gG 0) m h))))))))
theorem bS.cut{a len c r}(x:bS h ⟨a,len,c⟩ r){n}(f:n<=r.length):bS h ⟨a,n,c⟩ (r.take n):=by
 obtain⟨⟨d,e,g,j⟩,o⟩:=x;refine⟨⟨d.take n,by rw[map_take];exact dD.cut e n bg,bg,λi x u=>?_⟩,bg⟩
 grind
theorem cSX{v}(d:iK h s v)(c:K (cI (eK s)) m h):XN v m h K:=
 ⟨v,s,rfl,d,aD (λ_=>c) (λe=>by rw[show eK s=0 by simpa using e]at c;exact c)⟩
theorem a9J:cm 90 cJX:=by
 refine iU func90 ?_;rintro c m h K ⟨v,s,rfl,d,e⟩;refine⟨dJ [(73,Df)] [] [] [] false,rfl,aE Na aH,XN v m h K,ax,?_⟩;exact cSX d e
theorem Leaves.lens{s st}(c:Leaves h s st){l}(d:l∈st):l.length<=502633886983:=by
 obtain⟨i,e,rfl⟩:=mem_iff_getElem.1 d;obtain⟨_,_,_,_,_,f⟩:=bN.at c (bn e);exact f.len
theorem HW:∀{l:List ct},(∀x∈l,x.length<=502633886983)->0<=An l/\An l<=(l.length:Int)*502633886983
 |[],_=>by simp[An]
 |a::l,h=>by
  have e:=h a (mem_cons_self ..);have c:=HW (l:=l) λx d=>h x (mem_cons_of_mem _ d);simp only[An,map_cons,sum_cons,ci]at c⊢
  omega
theorem ayQ{st:List ct}{l}(h:st[i]? =some l):An (st.take (i+1))=An (st.take i)+(l.length:Int):=by
 rw[cd,h];simp[An]
theorem a9Z:cm 91 aYX:=by
 refine iU func91 ?_;rintro A m h K ⟨s,c,rfl,f,J,B⟩;refine⟨ckJ s m h,rfl,aH,XM s m h K,ax,?_⟩;dsimp only[XM,push_cast];have g:=bN.slen f;refine⟨λz=>z.1<=c.length/\z.2=An (c.take z.1),λz=>c.length-z.1,⟨(0,0),⟨ay,by simp[An]⟩,MT⟩,?_⟩;rintro⟨i,n⟩ ⟨C,e⟩;dsimp only at C e⊢
 subst e;refine aF (λj=>?_) (λD=>?_)
 .obtain⟨l,d⟩:=fF g j;obtain⟨b,o,u,E,rd,F⟩:=bN.at f d;have y:=bN.slen F;have G:=HW (l:=c.take (i+1)) λx d=>f.lens (mem_of_mem_take d);have H:=(HW (l:=c.take i) λx d=>f.lens (mem_of_mem_take d)).1;have I:=ayQ d;rw[length_take]at G;refine⟨b,o,E,aC,aC,u,.imm rd,(i+1,An (c.take (i+1))),⟨aC,rfl⟩,aC,?_⟩;rw[fG aC aC,y, <-I];exact MT
 .rw[bt aC];exact B
theorem HR{t r}:Fi t r=true↔r.length=t.columns.length/\∀i,i<r.length->Cf t.key (t.columns.getD i ⟨⟨#[]⟩,0⟩).kind i (r.getD i zeroV)=true:=by
 simp only[Fi,bz,ce,all_eq_true,mem_range]
theorem XG{t r c}(d:s.tables[t.toNat]? =some c)(h:AS s t=true):a7Z s t r=Fi c r:=by
 simp only[a7Z,h,d,Bool.true_and]
theorem a9X:cm 92 cKX:=by
 refine iU func92 ?_;rintro a' m h K ⟨v,s,t,L,r,rfl,M,O,C⟩;refine⟨ckZ,rfl,aE RR (aE Kb aH),XL v t L m h K,ax,?_⟩;dsimp only[XL,push_cast];have a0:=M.tables.slen;have a1:=bN.slen O;refine⟨v,s,t,rfl,M,aD (λe=>?_) (λe=>?_)⟩
 .have e:AS s t=false:=bk e
  simp only[a7Z,e,Bool.false_and]at C;exact C
 have e:AS s t=true:=bk e
 have Z:=e;simp only[AS,bz,ce]at Z;obtain⟨d,E⟩:∃d,s.tables[t.toNat]? =some d:=⟨_,bn aC⟩
 obtain⟨b,o,y,ea,rd,P⟩:=bN.at M.tables E;rw[XG E e]at C;have a2:=bN.slen P.columns;have hk:=P.key;refine⟨b,o,ea,Z.1,aC,y,.imm rd,aD (λH=>?_) (λH=>?_)⟩
 .have:Fi d r=false:=by
   cases f:Fi d r with
   |false=>rfl
   |true=>
    have:=(HR.1 f).1
    grind
  rw[this]at C;exact C
 have Q:r.length=d.columns.length:=bg
 have bad:∀i,i<r.length->Cf d.key (d.columns.getD i ⟨⟨#[]⟩,0⟩).kind i (r.getD i zeroV)=false->K (cB false) m h:=λi R F=>by
  have:Fi d r=false:=by
   cases f:Fi d r with
   |false=>rfl
   |true=>rw[(HR.1 f).2 i R]at F;cases F
  grind
 refine⟨λz=>z.2.1=y/\z.2.2.1=L/\z.2.2.2.1=m/\z.2.2.2.2=h/\z.1<=r.length/\∀j,j<z.1->Cf d.key (d.columns.getD j ⟨⟨#[]⟩,0⟩).kind j (r.getD j zeroV)=true,λz=>r.length-z.1,⟨(0,y,L,m,h),⟨rfl,rfl,rfl,rfl,ay,λj S=>by simp at S⟩,MT⟩,?_⟩;rintro⟨i,n,A,m',h'⟩ ⟨H,f,I,J,R,B⟩;dsimp only at H f I J R B⊢
 subst H f I J;refine aF (λa3=>?_) (λa4=>?_)
 .have T:i<r.length:=by omega
  have hx:r[i]? =some (r.getD i zeroV):=bg
  obtain⟨b2,o2,x,U,G,V⟩:=bN.at O hx;subst V;have hc:d.columns[i]? =some (d.columns.getD i ⟨⟨#[]⟩,0⟩):=bg
  obtain⟨b3,o3,c,W,X,Y⟩:=bN.at P.columns hc;have g:=bad i T
  have u:Cf d.key (d.columns.getD i ⟨⟨#[]⟩,0⟩).kind i (r.getD i zeroV)=true->∀j,j<i+1->Cf d.key (d.columns.getD j ⟨⟨#[]⟩,0⟩).kind j (r.getD j zeroV)=true:=λF j S=>by
   grind
  generalize r.getD i zeroV=x at g u G hx;rw[Y]at g u;have go:Cf d.key c.kind i x=true->∃z:Nat×cY×Sl×MH×PH,(z.2.1=n/\z.2.2.1=A/\z.2.2.2.1=m'/\z.2.2.2.2=h'/\z.1<=r.length/\∀j,j<z.1->Cf d.key (d.columns.getD j ⟨⟨#[]⟩,0⟩).kind j (r.getD j zeroV)=true)/\r.length-z.1<r.length-i/\z=(i+1,n,A,m',h'):=λF=>⟨_,⟨rfl,rfl,rfl,rfl,aC,u F⟩,aC,rfl⟩
  refine⟨b2,o2,U,aC,aC,x,.imm G,x,rfl,aD (λev=>g ?_) (λev=>?_)⟩
  .have ev:kG x=false:=bg
   simp[Cf,ev]
  have ev:kG x=true:=bg
  refine⟨λz=>z=(i,n,x,A,(x.kind==2&&decide ((i:Int)>=n.key)),m',h'),aD (λf=>⟨_,rfl,by rw[f];exact MT⟩) (λf=>⟨_,rfl,by rw[f];exact MT⟩),?_⟩;rintro _ rfl;dsimp only;refine⟨λz=>z=(i,n,x,A,(x.kind==2&&decide ((i:Int)>=n.key)),(x.kind==1&&decide ((i:Int)>=n.key)),m',h'),aD (λf=>⟨_,rfl,by rw[f];exact MT⟩) (λf=>⟨_,rfl,by rw[f];exact MT⟩),?_⟩;rintro _ rfl;dsimp only
  have D:Cf d.key c.kind i x=(x.kind==c.kind||((x.kind==2&&decide ((i:Int)>=n.key))||(x.kind==1&&decide ((i:Int)>=n.key)))):=by
   rw[hk];simp only[Cf,ev,Bool.true_and,ge_iff_le,Bool.and_or_distrib_right]
  generalize a5:(x.kind==2&&decide ((i:Int)>=n.key))=B1 at D⊢
  generalize a6:(x.kind==1&&decide ((i:Int)>=n.key))=B2 at D⊢
  refine⟨b3,o3,W,aC,aC,c.kind,.imm (cR.part X 1 1),aD (λI=>aD (λJ=>aD (λe5=>g ?_) (λe5=>?_)) (λJ=>?_)) (λI=>?_)⟩
  .grind
  all_goals
   obtain⟨_,g1,g2,rfl⟩:=go (by rw[D];simp_all);refine⟨_,g1,g2,?_⟩;dsimp only;rw[iY (by have:=bN.len O;omega)];exact MT
 .have:Fi d r=true:=HR.2 ⟨Q,λj S=>B j aC⟩;rw[this]at C;exact C
theorem a9Q:cm 94 aUZ:=by
 refine iU func94 ?_;rintro D m h K ⟨v,s,t,z,r,rfl,A,n,B⟩;refine⟨dJ [] [] [] [] false,rfl,aH,XK v t z m h K,ax,?_⟩;dsimp only[XK,push_cast];have E:=A.tables.slen;have d:=bN.slen n;have c:AS s t=false->K Ft m h:=λe=>B ⟨none,0,0⟩ (by simp only[LW,e];exact bN.nil _ _ _ _);refine aF (λF=>c (by simp[AS];omega)) (λF=>aF (λG=>c (by simp[AS];omega)) (λG=>?_));have e:AS s t=true:=by simp[AS];omega
 obtain⟨f,g⟩:∃f,s.tables[t.toNat]? =some f:=⟨_,bn aC⟩
 obtain⟨b,o,y,H,rd,I⟩:=bN.at A.tables g;have M:=I.key;obtain⟨a,len,j⟩:=z;have C:len<=j:=by obtain⟨O,J,_⟩:=n.ex;exact J.cap
 have d:len=r.length:=d
 have u:(if(if(len:Int)<y.key then(len:Int)else y.key)>0 then(if(len:Int)<y.key then(len:Int)else y.key)else 0)=max 0 (min f.key r.length):=by
  omega
 refine⟨b,o,H,aC,aC,y.key,.imm (cR.part rd 2 1),?_⟩;dsimp only;rw[u];refine⟨aC,aC,B ⟨a,(max 0 (min f.key r.length)).toNat,j⟩ ?_⟩;have L:LW s t r=r.take (max 0 (min f.key r.length)).toNat:=by simp only[LW,e,if_true,g];rfl
 rw[L];exact n.cut aC
theorem I0{t:Nat}{c}(h:s.tables[t]? =some c) r:LW s t r=pH c r:=by
 have:t<s.tables.length:=(bm h);have e:AS s (t:Int)=true:=by simp[AS];omega
 simp only[LW,e,if_true,Int.toNat_natCast,h]
theorem aLJ{t:Nat}{c}(h:s.tables[t]? =some c) r:a7Z s t r=Fi c r:=by
 have:t<s.tables.length:=(bm h);have e:AS s (t:Int)=true:=by simp[AS];omega
 exact XG (bk h) e
theorem TB:cm 49 H0:=by
 refine iU func49 ?_;rintro b' m h K ⟨v,s,X,G,rfl,L,Y,Z,d⟩;refine⟨crX v X m h,rfl,aE a9J (aE a9Z (aE a9X (aE a9Q (aE Fl aH)))),X7 v X m h K,ax,?_⟩;dsimp only[X7,push_cast];have b0:=L.tables.slen;have a':=bN.slen Y;unfold jG at d;refine⟨v,s,rfl,L,aD (λe=>?_) (λe=>⟨X,G,rfl,Y,Z,aF (λH=>?_) (λH=>aD (λe3=>?_) (λe3=>?_))⟩)⟩
 .rw[if_pos (bk e)]at d;exact d
 all_goals rw[if_neg (bk e)]at d
 .rw[if_pos (by unfold An at H;omega)]at d;exact d
 all_goals rw[if_neg (by unfold An at H;omega)]at d
 .rw[if_pos bg]at d;exact d
 have M:G.length=s.tables.length:=bg
 rw[if_neg (by simp[M])]at d;have bad:¬Qg s G->K (cI 80) m h:=λhb=>bg
 refine⟨λi=>i<=G.length/\∀(j:Nat) t l,j<i->s.tables[j]? =some t->G[j]? =some l->aGQ t l,λi=>G.length-i,⟨0,⟨ay,λj t l hj=>by omega⟩,MT⟩,?_⟩;rintro i ⟨hi,O⟩;refine aF (λa0=>?_) (λb1=>?_)
 .obtain⟨l,hx⟩:=fF a' a0;obtain⟨b,o,u,ea,rd,I⟩:=bN.at Y hx;have a1:=bN.slen I;have b4:=bN.len I;obtain⟨y,c⟩:∃y,s.tables[i]? =some y:=⟨_,bn aC⟩
  have A:¬aGQ y l->K (cI 80) m h:=λhb=>bad λf=>hb (f i y l c hx);refine⟨b,o,ea,aC,aC,u,.imm rd,λz=>z.1=i/\z.2.1=u/\z.2.2<=l.length/\(∀k r,k<z.2.2->l[k]? =some r->Fi y r=true)/\∀k r J,k+1<z.2.2->l[k]? =some r->l[k+1]? =some J->eZ (pH y r) (pH y J)<0,λz=>l.length-z.2.2,⟨(i,u,0),⟨rfl,rfl,ay,λk r D=>by simp at D,λk r J D=>by simp at D⟩,MT⟩,?_⟩;rintro⟨E,u',j⟩ ⟨e1,H,hj,B,C⟩;dsimp only at e1 H hj B C⊢
  subst e1 H;refine aF (λP=>?_) (λa9=>?_)
  .obtain⟨r,Q⟩:=fF a1 P;obtain⟨b2,o2,w,a2,a3,hv⟩:=bN.at I Q;refine⟨b2,o2,a2,aC,aC,w,.imm a3,v,s,E,w,r,rfl,L,hv,aD (λV=>A λf=>?_) (λV=>?_)⟩
   .rw[aLJ c,f.1 r (bo Q)]at V;cases V
   have hf:Fi y r=true:=by rw[aLJ c]at V;grind
   have g:∀k r,k<j+1->l[k]? =some r->Fi y r=true:=λk J D b5=>by
    grind
   refine aF (λa4=>?_) (λa4=>?_)
   .have hw:IntKind.i64.wrap ((j:Int)-1)=((j-1:Nat):Int):=by rw[fG aC aC];omega
    obtain⟨W,R⟩:∃W,l[j-1]? =some W:=⟨_,bn aC⟩
    obtain⟨b3,o3,w3,a5,F,a6⟩:=bN.at I R;rw[hw];refine⟨b3,o3,a5,aC,aC,w3,.imm F,v,s,E,w3,W,rfl,L,a6,λs1 a7=>⟨F,v,s,E,w,r,rfl,L,hv,λs2 a8=>⟨F,s1,s2,_,_,rfl,a7,a8,aF (λhc=>A λf=>?_) (λhc=>?_)⟩⟩⟩
    .rw[I0 c,I0 c]at hc;have:=f.2 (j-1) W r R bg;omega
    .rw[I0 c,I0 c]at hc;refine⟨(E,u',j+1),⟨rfl,rfl,bg,g,λk r1 r2 D S T=>?_⟩,bg,?_⟩
     .grind
     .dsimp only;rw[iY aC];exact MT
   .refine⟨(E,u',j+1),⟨rfl,rfl,bg,g,λk r1 r2 D S T=>bg⟩,bg,?_⟩;dsimp only;rw[iY aC];exact MT
  .refine⟨E+1,⟨aC,λk t l' D ht U=>?_⟩,aC,?_⟩
   .by_cases e5:k=E
    .subst e5;rw[c]at ht;cases ht;rw[hx]at U;cases U;refine⟨λr I=>?_,λk r J S T=>C k r J ?_ S T⟩
     .obtain⟨n,Z,rfl⟩:=mem_iff_getElem.1 I;exact B n _ aC (bn Z)
     grind
    grind
   .rw[iY aC];exact MT
 .rw[if_pos]at d
  .exact d
  .exactλj t l S T=>O j t l bg S T
noncomputable def bxX s st q:=
 if(gH s [] q).2≠0 then([],(gH s [] q).2)else if jG s st≠0 then([],jG s st)else(eA st q,0)
def ccZ(st:List ct)(q:Query):=∃c,1<=c/\(∀l∈st,l.length<=c)/\gP c q<=8000000
structure H2(h:PH)(sl:Sl)(st:List ct):Prop where
 lea:Leaves h sl st
 len:st.length<=1000
 val:StV st
theorem H2.mono{sl st}(x:H2 h sl st)(le:PH.le h h'):H2 h' sl st:=⟨bN.mono x.lea le λl s c=>bN.mono c le λr t d=>bS.mono d le,x.len,x.val⟩
def c1X:Vc.Spec:=λd m h K=>∃v s e c w q,d=[aS v,aSt e,aQ w]/\iK h s v/\H2 h e c/\dK h q w/\pY q=true/\eD m/\((gH s [] q).2=0->jG s c=0->ccZ c q)/\∀f h',PH.le h h'->Rows h' f (bxX s c q).1->K (.tup [cS f,cI (bxX s c q).2]) m h'
noncomputable def cvQ(w:QV)(sl:Sl):=dJ [(37,B0),(49,H0),(59,aCX),(60,Wl)] [(10,{A:=Nat×cu×Sl×MH×PH,st:=λ⟨i,c,s,m,h⟩=>bZ 54 57 [(4,.at (.ptr 4 0)),(5,.at (.ptr 5 0)),(12,.at (.lst 34)),(35,sv s),(36,iv s.len),(37,iv i)] [(4,.cells 52 [.val (.slice sl.a sl.len sl.cap)]),(5,.cells 41 (w.enc.map .val)),(34,.lst 58 1 (c.map eS))] m h})] [] [] false
def Yu v sl w m h K:=
  Lk v w h (λs p q d=>cX (zD s p q) 0 (K (CV.tup (gC Ft (CV.val (fV (zD s p q))))) m d) (rE (λD u=>Hy (λE n=>aA (cE (cN v) (gC (gG 3) (kE (aM sl)))=cE (cN D) (gC (gG 3) (kE (aM E)))) (iK d u D) (aA (Leaves d E n) (nZ n.length) (cX (jG u n) 0 (cC K (jG u n) m d) (qC (λF z=>aI (fY (cZ w) (cZ F)) (dK d z F) (oD z<=900000) (∀(f:Sl)(A:PH),bR d A (Ints A f (cD z)) (Bt f 24 (PI (λI x=>aA (I x) (eP 4) (aA (eP 5) (eL 34) (aA (aZ f (gY x)) (bQ f (gY x)) (aA (bE x.1) (eQ (oQ 52 (pG sl))) (aA (eO w) (bV 58 1 (Ea f)=nX 58 x.2.1) (aA (bW m (j9 x)) (eH A (j9 x)) True)))))) (λI G x=>I x->bA (↑x.1:Int) (aG (gY x)) (bK (fun
 b o=>aI (aW (gY x).a b o) (0<=(↑x.1:Int)) ((↑x.1:Int)<aG (gY x)) (∃(y:Int),aL (j9 x).1 (rT x) b (o+bM x.1 1) (bC y)/\bK (λH J=>aI (aW sl.a H J) (0<=y) (y<aG sl) (∃(L:Sl),CM (aL (j9 x).1 (rT x) H (J+iA y 1) (aM L)) 0 (↑x.1:Int) (rP x) (λe=>Q0 (mQ (rP x) (pD x.1) e) (xP e) (λc=>aA (I c) (G c<G x) (aA (eP 4) eM (aA (eL 34) (aZ (gY x) (gY c)) (aA (bQ (gY x) (gY c)) (gX (bH x.1 1)=bP c.1) (aA (eQ (oQ 52 (pG sl))) (eO w) (aA (CQ 58 1 (rP x) x.1 L e (nX 58 c.2.1)) (fH (j9 x) (j9 c)) (lF (dC (j9 x) (j9 c))))))))))))))) (cF (rT x) 1 (rP x) (λP B=>∃(l:Sl)(M:QV)(g:List ct)(j:Query),aA (gT
 P (cZ w)=gT l (cZ M)) (Leaves B l g) (aA (dK B j M) (ZG g j 0) (aI (eD (j9 x).1) (Cb (fN g j 0).1) (IB (fN g j 0).1 (λr=>ED r)) (∀(O:Sl)(C:PH),bR B C (Rows C O (fN g j 0).1) (lO K O 0 (j9 x).1 C))))))))))))))))))
mutual
theorem E6:∀q:Query,(cD q).length<=oD q
 |.mk op ta _ _ _ _ _ _ args=>by
  have:=Qs args;rw[cD,oD,br]
  grind
theorem Qs:∀c:dc,(dT c).length<=lZ c
 |[]=>by simp[dT,lZ]
 |q::c=>by
  have:=E6 q;have:=Qs c;rw[dT,lZ,br];omega
end
theorem bjX:cm 23 c1X:=by
 refine iU func23 ?_;rintro a7 m h K ⟨v,s,Q,B,w,q,rfl,hs,f,R,I,hT,hb,g⟩;refine⟨cvQ w Q,rfl,aE GQ (aE TB (aE aj (aE TA aH))),Yu v Q w m h K,ax,?_⟩;dsimp only[Yu,push_cast];unfold bxX at g;refine⟨v,cH,w,s,[],q,rfl,hs,nG h,R,I,λa8 h1 d _=>aD (λe=>?_) (λe=>?_)⟩
 .rw[if_pos (bk e)]at g;exact g ⟨none,0,0⟩ h1 d (bN.nil _ _ _ _)
 have e:(gH s [] q).2=0:=bk e
 rw[if_neg (by simp[e])]at g;refine⟨v,s,Q,B,rfl,hs.mono d,(f.mono d).lea,f.len,aD (λG=>?_) (λG=>?_)⟩
 .rw[if_pos bg]at g;exact g ⟨none,0,0⟩ h1 d (bN.nil _ _ _ _)
 have G:jG s B=0:=bg
 rw[if_neg (by simp[G])]at g;dsimp only at g;obtain⟨c,c1,c2,c3⟩:=hb e G;obtain⟨_,_,_,S⟩:=BP e;have J:aK s [] q=((aK s [] q).1,0):=Prod.ext rfl S;obtain⟨ok,ev,T,len⟩:=Ex G f.val c2 c1 J c3;have a4:=Ie I;have U:=E6 q;have L:=Dm J;have a9:=(Qj G).2.1;refine⟨w,q,rfl,R.mono d,aC,λV W C X=>?_⟩;have M:=X.slen;have y:=f.mono (d.trans C);have a5:=bN.slen y.lea;generalize D:cD q=ts at X M U L;refine⟨aC,aC,aC,aC,λz=>z.1<=ts.length/\z.2.2.1=V/\z.2.2.2.1=m/\z.2.2.2.2=W/\∃H,z.2.1=H++replicate (ts.length-z.1) ⟨none,0,0⟩/\H.length=z.1/\∀(j:Nat) u t,H[j]? =some u->ts[j]? =some t->Rows W u (B.getD t.toNat []),λz=>ts.length-z.1,⟨(0,replicate ts.length ⟨none,0,0⟩,V,m,W),⟨ay,rfl,rfl,rfl,[],ay,rfl,λj u t h=>by simp at h⟩,?_⟩,?_⟩
 .rw[show((V.len:Int)).toNat=ts.length by omega];dsimp only;rw[map_replicate];exact MT
 rintro⟨i,l,s2,m2,h3⟩ ⟨Y,e3,e4,e5,H,O,E,A⟩;dsimp only at Y e3 e4 e5 O E A⊢
 subst e3 e4 e5;refine aF (λZ=>?_) (λb'=>?_)
 .obtain⟨t,F⟩:=fF M Z;obtain⟨b,o,ea,rd⟩:=X.at' F;have ht:=L t (bo F);have b0:t.toNat<B.length:=by omega
  have e6:B[t.toNat]? =some (B.getD t.toNat []):=bg
  obtain⟨b2,o2,u,a',a0,P⟩:=bN.at y.lea e6;have b1:l.length=ts.length:=bg
  have a1:l[i]? =some ⟨none,0,0⟩:=by
   grind
  refine⟨b,o,ea,aC,aC,t,.imm rd,b2,o2,a',ht.1,aC,u,.imm a0,aC,bg,[pV],by rw[getElem?_map,show((i:Int)).toNat=i from rfl,a1];rfl,ay,(i+1,l.set i u,s2,m2,h3),⟨aC,rfl,rfl,rfl,H++[u],?_,by simp[E],λj u' t' h7 h8=>?_⟩,aC,?_⟩
  .dsimp only;rw[O,set_append,if_neg aC,append_assoc];congr 1;rw[show ts.length-i=(ts.length-(i+1))+1 by omega,replicate_succ,show i-H.length=0 by omega];rfl
  .grind
  .dsimp only
   have e9:((l.map eS).set ((i:Int)).toNat (dX u::List.drop 1 [pV]))=(l.set i u).map eS:=by
    rw[map_set];rfl
   rw[e9,iY aC];exact MT
 .have:i=ts.length:=by omega
  subst this;rw[Nat.sub_self,replicate_zero,append_nil]at O;subst O;intro s3 h4 n a2;refine⟨s3,w,iX B q,q,rfl,⟨⟨l,a2,by rw[iX,length_map,D,E],λi x F=>?_⟩,by rw[iX,length_map,D];omega⟩,R.mono ((d.trans C).trans n),ok,hT,bg,λr P=>?_,λs5 h5 a3 P=>g s5 h5 (((d.trans C).trans n).trans a3) bg⟩
  .rw[iX,D,getElem?_map]at F;cases e7:ts[i]? with
   |none=>grind
   |some t=>
    rw[e7]at F;simp only[Option.map_some,bx]at F;subst F;have a6:=(bm e7);exact⟨l[i],bn aC,bN.mono (A i _ t (bn aC) e7) n λr t hv=>bS.mono hv n⟩
  .rw[ev]at P;have:=(T.row r P).len;omega
noncomputable def oZ st ts:=(List.range ts.length).map λi=>eA st (aU ts i)
structure Js(s:jP)(st:List ct)(ts:dg):Prop where
 ar:∀(i:Nat) t,ts[i]? =some t->0<=arity t.op
 fit:∀(i:Nat) t,ts[i]? =some t->qJ i t
 kinds:∀i,i<ts.length->(aK s [] (aU ts i)).2=0
 bnd:∃c,1<=c/\(∀l∈st,l.length<=c)/\∀i,i<ts.length->gP c (aU ts i)<=8000000
def c1Q:Vc.Spec:=λd m h K=>∃sc e p r s c ts rs,d=[aS sc,aSt e,aPl p r]/\iK h s sc/\H2 h e c/\rU h p r ts rs/\eD m/\(jE s ts rs=0->jG s c=0->Js s c ts)/\
 (jE s ts rs≠0->K (.tup [Ft,cI (jE s ts rs)]) m h)/\(jE s ts rs=0->jG s c≠0->K (.tup [Ft,cI (jG s c)]) m h)/\(jE s ts rs=0->jG s c=0->∀f h',PH.le h h'->Leaves h' f (oZ c ts)->K (.tup [cS f,cI 0]) m h')
noncomputable def czX(sl p:Sl):=dJ [(48,Sh),(49,H0),(50,Zh),(51,U4)] [(9,{A:=Nat×cu×MH×PH,st:=λ⟨i,c,m,h⟩=>bZ 85 88 [(4,.at (.ptr 4 0)),(11,.at (.lst 34)),(36,sv p),(37,iv p.len),(38,iv i)] [(4,.cells 52 [.val (.slice sl.a sl.len sl.cap)]),(34,.lst 58 1 (c.map eS))] m h}),
 (16,{A:=Nat×Nat×cu×MH×PH,st:=λ⟨i,n,c,m,h⟩=>bZ 85 88 [(11,.at (.lst 34)),(71,.at (.lst 34)),(72,iv n),(73,iv i)] [(34,.lst 58 1 (c.map eS))] m h})] [] [] false
noncomputable abbrev CP(a:Nat×cu×MH×PH):=nX 58 a.2.1
noncomputable abbrev kX(a:Nat×cu×MH×PH):=a.2.2
noncomputable abbrev tQ a:=(kX a).2
noncomputable abbrev rZ(a:Nat×cu×MH×PH):=iC a.2.1
abbrev PL(a:Nat×cu×MH×PH)(b:cr)(c:(Nat×cu×MH×PH)->Prop):=aA (mQ (rZ a) (pD a.1) b) (xP b) (∃(x:Nat×cu×MH×PH),c x)
attribute [push_cast] CP kX tQ rZ PL
def RN sc sl p r m h K:=
  ∃(s:cA),sG (λG H=>∃(D:jP)(t:dg)(E:cq),aI (kH (cN sc) (j5 (dX p) (dX r))=kH (cN s) (j5 (dX G) (dX H))) (iK h D s) (rU h G H t E) (∀(_:Sl),cX (jE D t E) 0 (cC K (jE D t E) m h) (rE (λv F=>Hy (λJ A=>aA (cE (cN sc) (gC (gG 3) (kE (aM sl)))=cE (cN v) (gC (gG 3) (kE (aM J)))) (iK h F v) (aA (Leaves h J A) (nZ A.length) (cX (jG F A) 0 (cC K (jG F A) m h) (Bt p 24 (∃(I:Nat×cu×MH×PH->Prop)(B:Nat×cu×MH×PH->Nat),(∃(x:Nat×cu×MH×PH),aA (I x) (eP 4) (aA (eL 34) (aJ p) (aA (bJ p) (bE x.1) (aA (eQ (oQ 52 (pG sl))) (bV 58 1 (Ea p)=CP x) (aA (bW m (kX x)) (eH h (kX x)) True)))))/\∀(x:Nat×cu×
 MH×PH),I x->bA (↑x.1:Int) (aG p) (bK (λb o=>aI (aW p.a b o) (0<=(↑x.1:Int)) ((↑x.1:Int)<aG p) (∃(y:xC),aL (kX x).1 (tQ x) b (o+bM x.1 22) y.enc/\eY y.op 1 (bK (λL M=>aI (aW sl.a L M) (0<=y.table) (y.table<aG sl) (∃(n:Sl),CM (aL (kX x).1 (tQ x) L (M+iA y.table 1) (aM n)) 0 (↑x.1:Int) (rZ x) (λe=>PL x e (λc=>aA (I c) (B c<B x) (aA (eP 4) (eL 34) (aA (aJ p) (bJ p) (aA (gX (bH x.1 1)=bP c.1) (eQ (oQ 52 (pG sl))) (aI (CQ 58 1 (rZ x) x.1 n e (CP c)) (fH (kX x) (kX c)) (dC (kX x) (kX c)) True))))))))) (pP y.left (rZ x) (λe=>mQ (rZ x) y.left.toNat e/\∃(n:Sl),CM (uK 1 e (aM n)) 0 y.right (rZ x) (λj=>mQ (rZ x)
 y.right.toNat j/\∃(O:Sl),uK 1 j (aM O)/\QY (λP d=>MX (λu z l C=>aA (cE y.enc (cJ n O)=cE P.enc (cJ u z)) (u0 (tQ x) d P) (aA (Rows (tQ x) u l) (Rows (tQ x) z C) (aA (eD (kX x).1) (2<=d.op) (aA (d.op<=10) (QK d.op (Query.mk d.op d.table d.wher d.columns d.on d.group d.order d.limit []) [l,C]) (aA (Cb l) (Cb C) (∀(Q:Sl)(f:PH),bR (tQ x) f (Rows f Q (Fb d.op (Query.mk d.op d.table d.wher d.columns d.on d.group d.order d.limit []) [l,C])) (pP (↑x.1:Int) (rZ x) (λR=>PL x R (λc=>aA (I c) (B c<B x) (aA (eP 4) (eL 34) (aA (aJ p) (bJ p) (aA (gX (bH x.1 1)=bP c.1) (eQ (oQ 52 (pG sl))) (aI (CQ 58 1 (rZ x) x.1 Q R (CP c)) (fH (kX x) (kX c))
 (eH f (kX c)) True)))))))))))))))))))) (∃(I1:Nat×Nat×cu×MH×PH->Prop)(S:Nat×Nat×cu×MH×PH->Nat),(∃(c:Nat×Nat×cu×MH×PH),aA (I1 c) (eL 34) (aA (eL 34) (cG (rZ x).length c.2.1) (aA (bE c.1) (CP x=CP c.2) (aA (fH (kX x) (kX c.2)) (dC (kX x) (kX c.2)) True))))/\∀(c:Nat×Nat×cu×MH×PH),I1 c->bA (↑c.1:Int) (↑c.2.1:Int) (pP (↑c.1:Int) (rZ c.2) (λe=>mQ (rZ c.2) (pD c.1) e/\∃(y:Sl),uK 1 e (aM y)/\∃(u:Sl)(l:ct),aA (tA y=tA u) (Rows (tQ c.2) u l) (aA (Cb l) (∀(T:da),List.Mem T l->ED T) (∀(z:Sl)(f:PH),bR (tQ c.2) f (Rows f z l) (pP (↑c.1:Int) (rZ c.2) (λj=>aA (mQ (rZ c.2) (pD c.1) j)
 (xP j) (∃(g:Nat×Nat×cu×MH×PH),aA (I1 g) (S g<S c) (aA (eL 34) (eL 34) (aA (cG c.2.1 g.2.1) (gX (bH c.1 1)=bP g.1) (aA (CQ 58 1 (rZ c.2) c.1 z j (CP g.2)) (fH (kX c.2) (kX g.2)) (lF (eH f (kX g.2))))))))))))) (uL (tQ c.2) (rZ c.2) K (kX c.2).1)))))))))))
theorem MD(st:List ct):∀l,Au st l=l.map (eA st)
 |[]=>by simp[Au]
 |q::l=>by rw[Au,MD st l];rfl
theorem bzX{op o w on args ls}:Fb op (.mk o ta w co on gr od li args) ls=Fb op (.mk o ta w co on gr od li []) ls:=rfl
theorem Tc{op o w on args ls}:QK op (.mk o ta w co on gr od li args) ls=QK op (.mk o ta w co on gr od li []) ls:=rfl
theorem bvX{st ts}(ok:C1 ts){i t}(c:ts[i]? =some t)(d:t.op≠1):eA st (aU ts i)=Fb t.op t.query ((BW t).map λa=>eA st (aU ts a.toNat)):=by
 rw[rH ok c,eA,if_neg d,MD,DC,map_map];exact bzX
theorem bzJ{st op w on args ks c}(e:jG s st=0)(g:StV st)(n:∀l∈st,l.length<=c)(o:1<=c)(f:aK s ps (.mk op ta w co on gr od li args)=(ks,0))(u:gP c (.mk op ta w co on gr od li args)<=8000000)(d:op≠1):
 QK op (.mk op ta w co on gr od li args) (Au st args):=by
 have x:=(Ex e g n o f u).1;rw[ZG,if_neg d]at x;obtain⟨z,A,_,_⟩:=yM f;have B:cD (.mk op ta w co on gr od li args)=dT args:=by simp[cD,d]
 have y:=Ke (st:=st) (ls:=iX st (.mk op ta w co on gr od li args)) (k:=0) A ⟨λj t h=>by
  rw[getD_eq_getElem?_getD,Nat.zero_add,iX,B,getElem?_map,h];rfl⟩
 grind
theorem cgZ{c d}(h:arity t.op=1):Fb t.op t.query [c,d]=Fb t.op t.query [c]:=by
 obtain⟨op,ta,w,co,on,gr,od,li,a,b⟩:=t;have h:arity op=1:=h
 have:op=2\/op=3\/op=9:=by
  unfold arity at h
  grind
 rcases this with rfl|rfl|rfl<;>rfl
theorem bzZ{d e}(h:arity t.op=1)(x:QK t.op t.query [d])(f:∃w,iL w e):QK t.op t.query [d,e]:=by
 obtain⟨op,ta,w,co,on,gr,od,li,a,b⟩:=t;have h:arity op=1:=h
 have:op=2\/op=3\/op=9:=by
  unfold arity at h
  grind
 rcases this with rfl|rfl|rfl
 .obtain⟨_,c⟩:=x;refine⟨ay,λl g=>?_⟩
  grind
 .obtain⟨_,c⟩:=x;exact⟨ay,c⟩
 .obtain⟨_,c⟩:=x;exact⟨ay,c⟩
theorem bzQ{op}(h:0<arity op):2<=op/\op<=10:=by
 unfold arity at h
 grind
theorem cVX{sl p st}(hs:iK h s sc)(C:H2 h sl st)(x:rU h p r ts rs)(hT:eD m)(hb:jE s ts rs=0->jG s st=0->Js s st ts)(k1:jE s ts rs≠0->K (.tup [Ft,cI (jE s ts rs)]) m h)(k2:jE s ts rs=0->jG s st≠0->K (.tup [Ft,cI (jG s st)]) m h)(k3:jE s ts rs=0->jG s st=0->∀A h',PH.le h h'->Leaves h' A (oZ st ts)->K (.tup [cS A,cI 0]) m h'):RN sc sl p r m h K:=by
 dsimp only[RN,push_cast];obtain⟨a7,_⟩:=x.slen;have b8:=x.len;refine⟨sc,p,r,s,ts,rs,rfl,hs,x,λkk=>aD (λe=>k1 (bk e)) (λe=>?_)⟩;have e1:jE s ts rs=0:=bk e
 refine⟨sc,s,sl,st,rfl,hs,C.lea,C.len,aD (λe=>k2 e1 (bk e)) (λe=>?_)⟩;have V:jG s st=0:=bk e
 have B:=hb e1 V;obtain⟨c,W,X,Y⟩:=B.bnd;have ok:C1 ts:=λi t e=>⟨B.ar i t e,L1 (B.ar i t e) (B.fit i t e)⟩
 have kq:∀j,j<ts.length->aK s [] (aU ts j)=((aK s [] (aU ts j)).1,0):=λj D=>Prod.ext rfl (B.kinds j D);have R:∀j,j<ts.length->∃w,iL w (eA st (aU ts j)):=λj D=>⟨_,(Ex V C.val X W (kq j D) (Y j D)).2.2.1⟩
 refine⟨aC,aC,aC,aC,λx=>x.1<=ts.length/\x.2.2.1=m/\PH.le h x.2.2.2/\∃G:cu,G.length=x.1/\x.2.1=G++replicate (ts.length-x.1) ⟨none,0,0⟩/\∀j,j<x.1->∃u,G[j]? =some u/\Rows x.2.2.2 u (eA st (aU ts j)),λx=>ts.length-x.1,⟨(0,replicate ts.length ⟨none,0,0⟩,m,h),⟨Nat.zero_le _,rfl,.refl _,[],rfl,ay,λj D=>by omega⟩,?_⟩,?_⟩
 .dsimp only;rw[map_replicate,show((p.len:Int)).toNat=ts.length by omega];exact MT
 rintro⟨i,vs,mx,hx⟩ ⟨hi,Z,le,G,H,hv,g⟩;dsimp only at hi Z le H hv g⊢
 subst Z hv;refine aF (λa'=>?_) (λa8=>?_)
 .obtain⟨t,f⟩:=fF a7 a';obtain⟨b,o,y,ea,rd,U⟩:=x.at f;have P:i<ts.length:=by omega
  have nx:∀(A:Sl)(h':PH),PH.le hx h'->Rows h' A (eA st (aU ts i))->∃e,((G++replicate (ts.length-i) (⟨none,0,0⟩:Sl)).map eS)[((i:Nat):Int).toNat]? =some e/\0<e.length/\∃E:cu,(((G++replicate (ts.length-i) (⟨none,0,0⟩:Sl)).map eS).set ((i:Nat):Int).toNat (dX A::List.drop 1 e))=List.map eS E/\∃Q:cu,Q.length=i+1/\E=Q++replicate (ts.length-(i+1)) ⟨none,0,0⟩/\∀j,j<i+1->∃u,Q[j]? =some u/\Rows h' u (eA st (aU ts j)):=λA h' d L=>by
   refine⟨[pV],?_,ay,(G++[A])++replicate (ts.length-(i+1)) ⟨none,0,0⟩,?_,G++[A],by simp[H],rfl,λj D=>?_⟩
   .rw[getElem?_map,Int.toNat_natCast,getElem?_append_right aC,getElem?_replicate,if_pos aC];rfl
   .rw[Int.toNat_natCast,show ts.length-i=(ts.length-(i+1))+1 by omega,replicate_succ,bu,set_append,if_neg (by simp[H]),bu,bu,append_assoc];simp[H,eS]
   .by_cases a0:j<i
    .obtain⟨u,S,J⟩:=g j a0;exact⟨u,bg,bN.mono J d (λ_ _ h=>bS.mono h d)⟩
    grind
  have a1:((List.map eS (G++replicate (ts.length-i) (⟨none,0,0⟩:Sl))).length:Int)=ts.length:=bg
  rw[a1,iY aC];refine⟨b,o,ea,aC,aC,y,.imm (rd.mono le),aD (λe=>?_) (λe=>?_)⟩
  .have F:t.op=1:=by rw[<-U.op_];grind
   have hq:=kq i P;rw[rH ok f]at hq;have a9:=Dm hq t.table (by rw[cD,if_pos F];simp);have b9:=bN.slen C.lea;have b7:=(Qj V).2.1;have a2:st[t.table.toNat]? =some (st.getD t.table.toNat []):=bg
   obtain⟨b2,o2,u,b',b0,hu⟩:=bN.at C.lea a2;have hF:eA st (aU ts i)=st.getD t.table.toNat []:=by rw[rH ok f,eA,if_pos F]
   obtain⟨e,S,J,E,h3,h4⟩:=nx u hx (.refl _) (by rw[hF];exact bN.mono hu le (λ_ _ h=>bS.mono h le));rw[U.table_];exact⟨b2,o2,b',a9.1,aC,u,.imm (b0.mono le),aC,aC,e,S,J,(i+1,E,mx,hx),⟨aC,rfl,le,h4⟩,aC,bg⟩
  .have F:t.op≠1:=by rw[<-U.op_];grind
   have h0:=B.ar i t f;have J:=Fv t.op;have c':arity t.op≠0:=λe=>F (R4 e);have M:=bzQ (op:=t.op) aC;have a3:=(ok i t f).2;have hA:arity t.op=1\/arity t.op=2:=by omega
   have hL:0<=t.left/\t.left<i:=a3 _ (by rcases hA with e|e<;>simp[BW,e])
   have hR:0<=t.right/\t.right<i:=by
    rcases hA with e|e
    .have:=(bEJ (B.fit i t f)).2 aC;omega
    .exact a3 _ (by simp[BW,e])
   obtain⟨u1,b1,b3⟩:=g t.left.toNat aC;obtain⟨u2,b4,b5⟩:=g t.right.toNat aC
   have I:∀{j:Nat}{u:Sl},G[j]? =some u->((G++replicate (ts.length-i) (⟨none,0,0⟩:Sl)).map eS)[j]? =some (eS u):=fun{j u} h=>by
    grind
   have len:∀{j},j<ts.length->(eA st (aU ts j)).length<=8000000:=fun{j} D=>(R j D).elim λ_ h=>h.len;have hq:=kq i P;have a4:=Y i P;rw[rH ok f]at hq a4;have x1:=bzJ V C.val X W hq a4 F;rw[MD,DC,map_map]at x1;have x2:=bvX (st:=st) ok f F
   have x3:QK t.op t.query [eA st (aU ts t.left.toNat),eA st (aU ts t.right.toNat)]/\eA st (aU ts i)=Fb t.op t.query [eA st (aU ts t.left.toNat),eA st (aU ts t.right.toNat)]:=by
    rcases hA with e|e
    .rw[show BW t=[t.left]by simp[BW,e]]at x1 x2;exact⟨bzZ e (Tc▸x1) (R _ aC),by rw[x2,cgZ e];rfl⟩
    .rw[show BW t=[t.left,t.right]by simp[BW,e]]at x1 x2;exact⟨Tc▸x1,x2⟩
   rw[U.left_,U.right_];refine⟨hL.1,aC,eS u1,I b1,u1,rfl,hR.1,aC,eS u2,I b4,u2,rfl,y,t,u1,u2,_,_,rfl,U.mono le,b3,b5,hT,M.1,M.2,x3.1,len aC,len aC,λA h' d L=>?_⟩;obtain⟨e,S,J,E,h3,h4⟩:=nx A h' d (by rw[x3.2];exact L);exact⟨aC,aC,e,S,J,(i+1,E,mx,h'),⟨aC,rfl,le.trans d,h4⟩,aC,bg⟩
 .have:i=ts.length:=by omega
  subst this;rw[Nat.sub_self,replicate_zero,append_nil];refine⟨λx=>x.1<=ts.length/\x.2.1=ts.length/\x.2.2.2.1=mx/\PH.le h x.2.2.2.2/\x.2.2.1.length=ts.length/\∀j,j<ts.length->∃u,x.2.2.1[j]? =some u/\Rows x.2.2.2.2 u (eA st (aU ts j)),λx=>ts.length-x.1,⟨(0,ts.length,G,mx,hx),⟨Nat.zero_le _,rfl,rfl,le,H,g⟩,bg⟩,?_⟩;rintro⟨i,n,vs,my,hy⟩ ⟨hi,Z,e4,le,T,L⟩;dsimp only at hi Z e4 le T L⊢
  subst Z e4;refine aF (λa'=>?_) (λa8=>?_)
  .obtain⟨u,hu,g⟩:=L i aC;obtain⟨w,O⟩:=R i aC;have I:(vs.map eS)[((i:Nat):Int).toNat]? =some (eS u):=bg
   rw[length_map,T,iY aC];refine⟨aC,aC,eS u,I,u,rfl,u,_,rfl,g,O.len,λr L=>by have:=(O.row r L).len;omega,λA h' d c0=>⟨aC,aC,eS u,I,by simp[eS],(i+1,ts.length,vs.set i A,my,h'),⟨aC,rfl,rfl,le.trans d,bg,λj D=>?_⟩,aC,?_⟩⟩
   .dsimp only;rw[getElem?_set];by_cases a0:i=j
    .grind
    .obtain⟨u',S,J⟩:=L j D;exact⟨u',bg,bN.mono J d (λ_ _ h=>bS.mono h d)⟩
   .dsimp only;rw[map_set,Int.toNat_natCast];exact MT
  .refineλA h' d b6=>k3 e1 V A h' (le.trans d) ⟨⟨vs,b6,by simp[oZ,T],λj z hz=>?_⟩,by simp[oZ];omega⟩
   unfold oZ at hz;rw[getElem?_map]at hz;cases D:(List.range ts.length)[j]? with
   |none=>grind
   |some k=>
    rw[D]at hz;obtain⟨a5,a6⟩:=List.getElem?_eq_some_iff.1 D;rw[length_range]at a5;rw[getElem_range]at a6;subst a6;have hz:eA st (aU ts j)=z:=bg
    subst hz;obtain⟨u,S,J⟩:=L j a5;exact⟨u,S,bN.mono J d (λ_ _ h=>bS.mono h d)⟩
theorem bnX:cm 14 c1Q:=by
 refine iU func14 ?_;rintro e m h K ⟨sc,d,p,r,s,z,ts,rs,rfl,f,c,g,j,n,o,u,y⟩;refine⟨czX d p,rfl,aE bfX (aE TB (aE au (aE aq aH))),RN sc d p r m h K,ax,?_⟩;exact cVX f c g j n o u y
noncomputable def MK(st:List ct)(p:dg×cq):=p.2.map λr=>(oZ st p.1).getD r.toNat []
noncomputable def B7 s ts rs st:=if jE s ts rs≠0 then jE s ts rs else jG s st
def Wp s q:=(gH s [] q).2=0->DF q/\Jt (fX s q []).1/\lE (fX s q []).1<=100/\oD q<=100
theorem Ic{P f S S'}(x:Sound P f S)(d:∀c m h K,S' c m h K->S c m h K):Sound P f S':=⟨x.1,λc e m h w K g=>x.2 c e m h w K (d _ _ _ _ g)⟩
def U1:Vc.Spec:=λc m h K=>∃sc v s q,c=[aS sc,aQ v]/\iK h s sc/\dK h q v/\pY q=true/\eD m/\Wp s q/\∀p r h',PH.le h h'->((gH s [] q).2=0->rU h' p r (lX s q).1 (lX s q).2)->K (.tup [aPl p r,cI (gH s [] q).2]) m h'
theorem auJ:cm 11 U1:=Ic boQ λ_ m h K⟨sc,v,s,q,e,f,g,c,j,n,o⟩=>⟨sc,v,s,q,e,f,g,c,j,n,λd=>o _ _ h (.refl _) (λe=>(d e).elim),λd p r h' le u=>bg⟩
def cHQ:Vc.Spec:=λd m h K=>∃sc e p r s c ts rs,d=[aS sc,aSt e,aPl p r]/\iK h s sc/\H2 h e c/\rU h p r ts rs/\eD m/\(jE s ts rs=0->jG s c=0->Js s c ts)/\
 ∀f h',PH.le h h'->(B7 s ts rs c=0->Leaves h' f (oZ c ts))->K (.tup [cS f,cI (B7 s ts rs c)]) m h'
theorem aqX:cm 14 cHQ:=Ic bnX λ_ m h K⟨sc,j,p,r,s,n,ts,rs,e,o,d,u,y,z,f⟩=>⟨sc,j,p,r,s,n,ts,rs,e,o,d,u,y,z,
 λc=>by have:=f cH h (.refl _) (λe=>by unfold B7 at e;omega);unfold B7 at this;rw[if_pos c]at this;exact this,
 λc g=>by have:=f cH h (.refl _) (λe=>by unfold B7 at e;omega);unfold B7 at this;rw[if_neg (by simp[c])]at this;exact this,
 λc g A h' le B=>by have:=f A h' le (λ_=>B);unfold B7 at this;grind⟩
def btQ:Vc.Spec:=λd m h K=>∃sc e v s c q,d=[aS sc,aSt e,aQ v]/\iK h s sc/\H2 h e c/\dK h q v/\pY q=true/\eD m/\Wp s q/\
 ((gH s [] q).2=0->jE s (lX s q).1 (lX s q).2=0/\(jG s c=0->Js s c (lX s q).1/\∀l∈oZ c (lX s q).1,l.length<=8000000/\∀r∈l,r.length<=1000))/\
 ((gH s [] q).2≠0->∀h',PH.le h h'->K (.tup [Ft,cI (gH s [] q).2]) m h')/\((gH s [] q).2=0->jG s c≠0->∀h',PH.le h h'->K (.tup [Ft,cI (jG s c)]) m h')/\
 ((gH s [] q).2=0->jG s c=0->∀f h',PH.le h h'->Leaves h' f (MK c (lX s q))->K (.tup [cS f,cI 0]) m h')
noncomputable def cxZ:=rI [(11,U1),(14,cHQ),(57,P8)] [(9,{A:=Nat×Sl×Sl×cu×MH×PH,st:=λ⟨i,rs,c,d,m,h⟩=>bZ 77 80 [(10,sv rs),(11,.at (.lst 38)),(40,sv c),(41,iv c.len),(42,iv i)] [(38,.lst 58 1 (d.map eS))] m h}),
 (13,{A:=Nat×Nat×Sl×Sl×Sl×cu×MH×PH,st:=λ⟨j,i,rs,c,t,d,m,h⟩=>bZ 77 80 [(10,sv rs),(11,.at (.lst 38)),(12,iv i),(40,sv c),(41,iv c.len),(42,iv i),(59,sv t),(60,iv t.len),(61,iv j)] [(38,.lst 58 1 (d.map eS))] m h})] [] [] [2058] [] false
noncomputable abbrev AL a b:=zD a [] b
abbrev VA(a:jP->(List ct)->Prop):=∃(x:jP)(c:List ct),a x c
noncomputable abbrev oR(a:Sl×cu×MH×PH):=nX 58 a.2.1
noncomputable abbrev CN(a:Nat×Nat×Sl×Sl×Sl×cu×MH×PH):=a.2.2.2.1
noncomputable abbrev mN(a:Nat×Nat×Sl×Sl×Sl×cu×MH×PH):=a.2.2.2.2
attribute [push_cast] AL VA oR CN mN
def RI sc sl v m h K:=
  ∃(s:cA)(E:QV)(f:jP)(q:Query),aA (gC (kE (cN sc)) (cZ v)=gC (kE (cN s)) (cZ E)) (iK h f s) (aA (dK h q E) (Az (pY q)) (aA (eD m) (Wp f q) (∀(p r:Sl)(g:PH),bR h g (AL f q=0->rU g p r (lX f q).1 (lX f q).2) (cX (AL f q) 0 (K (CV.tup (gC Ft (CV.val (fV (AL f q))))) m g) (∃(F:cA),sG (λG H=>∃(J:Sl),VA (λj n=>∃(t:dg)(z:cq),aA (cE (cN sc) (kH (aM sl) (j5 (dX p) (dX r)))=cE (cN F) (kH (aM G) (j5 (dX H) (dX J)))) (iK g j F) (aA (H2 g G n) (rU g H J t z) (aA (eD m) (bF (jE j t z=0) (jG j n=0) (Js j n t)) (∀(L:Sl)(A:PH),bR g A (B7 j t z n=0->Leaves A L (oZ n t)) (cX (B7 j t z n) 0
 (cC K (B7 j t z n) m A) (Bt r 24 (∃(I:Nat×Sl×Sl×cu×MH×PH->Prop)(M:Nat×Sl×Sl×cu×MH×PH->Nat),(∃(x:Nat×Sl×Sl×cu×MH×PH),aA (I x) (aZ L x.2.1) (aA (eL 38) (aZ r (iB x).1) (aA (bQ r (iB x).1) (bE x.1) (aA (bV 58 1 (Ea r)=oR (iB x)) (bW m (lT (iB x))) (lF (eH A (lT (iB x))))))))/\∀(x:Nat×Sl×Sl×cu×MH×PH),I x->bA (↑x.1:Int) (aG (iB x).1) (bK (λb o=>aI (aW (iB x).1.a b o) (0<=(↑x.1:Int)) ((↑x.1:Int)<aG (iB x).1) (∃(y:Int),aL (mO (iB x)) (kQ (iB x)) b (o+bM x.1 1) (bC y)/\bK (λO P=>aI (aW x.2.1.a O P) (0<=y) (y<aG x.2.1) (∃(u:Sl),aA (aL (mO (iB x)) (kQ (iB x)) O (P+iA y 1) (aM u)) (cM
 (aG u)) (aA (aG u<=aG u) (Ah u 24) (Af (aG u)/\jY (λQ C=>sL (mO (iB x)) C (kQ (iB x)) Q 65 1 (Ea u)->pP (↑x.1:Int) (nO (iB x)) (λe=>aA (mQ (nO (iB x)) (pD x.1) e) (xP e) (bK (λR S=>aI (aW x.2.1.a R S) (0<=y) (y<aG x.2.1) (∃(D:Sl),aL C (kQ (iB x)) R (S+iA y 1) (aM D)/\∃(I1:Nat×Nat×Sl×Sl×Sl×cu×MH×PH->Prop)(T:Nat×Nat×Sl×Sl×Sl×cu×MH×PH->Nat),(∃(c:Nat×Nat×Sl×Sl×Sl×cu×MH×PH),aA (I1 c) (aZ x.2.1 c.2.2.1) (aA (eL 38) (cG x.1 c.2.1) (aA (aZ (iB x).1 (CN c)) (bQ (iB x).1 (CN c)) (aA (cG x.1 c.2.1) (aZ D (mN c).1) (aA (bQ D (mN c).1) (bE c.1) (aA (CQ 58 1 (nO (iB x)) x.1
 Q e (oR (mN c))) (bW C (lT (mN c))) (lF (dC (lT (iB x)) (lT (mN c))))))))))/\∀(c:Nat×Nat×Sl×Sl×Sl×cu×MH×PH),I1 c->bA (↑c.1:Int) (aG (mN c).1) (bK (λU V=>aI (aW (mN c).1.a U V) (0<=(↑c.1:Int)) ((↑c.1:Int)<aG (mN c).1) (∃(W:Sl),CM (aL (mO (mN c)) (kQ (mN c)) U (V+bM c.1 1) (aM W)) 0 (↑c.2.1:Int) (nO (mN c)) (λX=>mQ (nO (mN c)) (pD c.2.1) X/\∃(B:Sl),aA (uK 1 X (aM B)) (∃(Y:cr),mQ (nO (mN c)) (pD c.2.1) Y/\uK 1 Y (aM B)) (IA W (kQ (mN c)) (λs8 h3=>bK (λZ o4=>aI (aW B.a Z o4) (0<=(↑c.1:Int)) ((↑c.1:Int)<aG B) (tF (mO (mN c)) Z (o4+bM c.1 1) (aM s8)
 (λm4=>∃(d:Nat×Nat×Sl×Sl×Sl×cu×MH×PH),aA (I1 d) (T d<T c) (aA (aZ c.2.2.1 d.2.2.1) (eL 38) (aA (cG c.2.1 d.2.1) (aZ (CN c) (CN d)) (aA (bQ (CN c) (CN d)) (cG c.2.1 d.2.1) (aA (aZ (mN c).1 (mN d).1) (bQ (mN c).1 (mN d).1) (aA (gX (bH c.1 1)=bP d.1) (oR (mN c)=oR (mN d)) (aA (bW m4 (lT (mN d))) (eH h3 (lT (mN d))) True))))))))))))))) (∃(d:Nat×Sl×Sl×cu×MH×PH),aA (I d) (M d<M x) (aA (aZ c.2.2.1 d.2.1) (eL 38) (aA (aZ (CN c) (iB d).1) (bQ (CN c) (iB d).1) (aA (gX (bH c.2.1 1)=bP d.1) (oR (mN c)=oR (iB d)) (aA (fH (lT (mN c)) (lT (iB d))) (dC (lT (mN c)) (lT (iB d)))
 True))))))))))))))))) (uL (kQ (iB x)) (nO (iB x)) K (mO (iB x))))))))))))))))
structure Ar(m0 m:MH)(h:PH)(w:Sl)(l:ct)(j:Nat):Prop where
 ex:∃vs:cu,vs.length=l.length/\wI m0 m w 65 1 (vs.map eS)/\∀k r,k<j->l[k]? =some r->∃v,vs[k]? =some v/\bS h v r
theorem Ar.mono{m0 w l j}(x:Ar m0 m h w l j)(le:PH.le h h'):Ar m0 m h' w l j:=by
 obtain⟨c,d,e,f⟩:=x.ex;exact⟨c,d,e,λk r g n=>let⟨v,e1,e2⟩:=f k r g n;⟨v,e1,e2.mono le⟩⟩
theorem Ar.keep{m0 w l j}(x:Ar m0 m h w l j)(d:∀b i,w.a=some ⟨b,i,none⟩->m' b=m b):Ar m0 m' h w l j:=by
 obtain⟨e,f,c,g⟩:=x.ex;exact⟨e,f,⟨cW.keep c.row d,c.fresh⟩,g⟩
theorem Ar.blk{m0 w l j}(x:Ar m0 m h w l j)(e:w.a=some ⟨b,i,none⟩):∃o,m b=some o:=by
 obtain⟨f,_,c,_⟩:=x.ex;obtain⟨d,h⟩:=cW.blk c.row e
 grind
theorem Ar.slen{m0 w l j}(x:Ar m0 m h w l j):w.len=l.length:=by
 obtain⟨d,e,c,_⟩:=x.ex;have:=cW.slen c.row
 grind
theorem VU:∀vs:cu,(vs.map eS).flatten=vs.map λs=>dX s
 |[]=>rfl
 |v::vs=>by rw[map_cons,flatten_cons,VU vs];rfl
theorem Ar.put{m0 w u l j r}(x:Ar m0 m h w l j)(D:l[j]? =some r)(J:bS h u r):∃b,w.a=some ⟨b,0,none⟩/\∃(cs:Array Value)(E:TypeId),m b=some (.cells cs E (0,0))/\0+j*1<cs.size/\∀m',lK m m' b (.cells ⟨splice cs.toList (0+j*1) [dX u]⟩ E (0,0))->Ar m0 m' h w l (j+1):=by
 obtain⟨f,F,g,L⟩:=x.ex;have M:=(bm D);have O:=cW.slen g.row;rcases g.row.ex with⟨rfl,e⟩|⟨b,d,c,rfl,G,n,o,H,B⟩
 .grind
 .rw[length_map]at n;refine⟨b,rfl,c,65,G,aC,λm' y=>⟨f.set j u,by simp[F],⟨⟨⟨?_,?_⟩,.inr ⟨b,d,⟨splice c.toList (0+j*1) [dX u]⟩,ay,y.at_,bf,o,?_,?_⟩⟩,g.fresh⟩,λk P Q I=>?_⟩⟩
  .intro e z;obtain⟨s,_,rfl⟩:=mem_map.1 z;rfl
  .intro e z v C;obtain⟨s,_,rfl⟩:=mem_map.1 z;simp[eS]at C;subst C;rfl
  .show(splice c.toList (0+j*1) [dX u]).length=d*1;rw[Eu _ _ _ bf];omega
  .rw[VU];show(splice c.toList (0+j*1) [dX u]).take _=_;rw[Ql _ _ _ bf,take_set]
   have A:c.toList.take (((f.set j u).map eS).length*1)=f.map λs=>dX s:=by
    rw[length_map,length_set];rw[length_map,VU]at B;exact B
   rw[A,Nat.zero_add,Nat.mul_one,map_set]
  grind
theorem Ar.rows{m0 w l}(d:Hh m h)(x:Ar m0 m h w l l.length)(u:l.length<=8000000):Rows (CZ m0 m h) w l:=by
 obtain⟨e,f,g,j⟩:=x.ex
 exact⟨⟨e,wI.ice g,f.symm,λi r c=>by
  obtain⟨v,n,o⟩:=j i r (bm c) c;exact⟨v,n,o.mono (ES d)⟩⟩,aC⟩
theorem bmX:cm 18 btQ:=by
 refine SF func18 ?_;rintro d4 m h K ⟨sc,sl,v,s,W,q,rfl,hs,b6,hq,b7,ht,hn,hv,hE,b8,hK⟩;refine⟨cxZ,rfl,aE auJ (aE aqX (aE ab aH)),RI sc sl v m h (cQ h K),ax,?_⟩;show RI sc sl v m h (cQ h K);dsimp only[RI,push_cast];refine⟨sc,v,s,q,rfl,hs,hq,b7,ht,hn,λp r h1 g hp=>aD (λX=>?_) (λX=>?_)⟩
 .exact cQ.sub (Sub.refl m) g (hE bg h1 g)
 have X:(gH s [] q).2=0:=bg
 have hp:=hp X;obtain⟨d,hb⟩:=hv X;have a':B7 s (lX s q).1 (lX s q).2 W=jG s W:=by unfold B7;omega
 refine⟨sc,sl,p,r,s,W,(lX s q).1,(lX s q).2,rfl,hs.mono g,b6.mono g,hp,ht,λ_ e=>(hb e).1,λs1 h2 L hl=>?_⟩;rw[a']at hl⊢
 refine aD (λF=>?_) (λF=>?_)
 .exact cQ.sub (Sub.refl m) (g.trans L) (b8 X bg h2 (g.trans L))
 have F:jG s W=0:=bg
 have hl:=hl F;have hK:=hK X F;have b9:=(hb F).2;have a0:=g.trans L;have a1:=(hp.roots.mono L)
 have a2:=a1.slen
 have a3:∀x∈(lX s q).2,0<=x/\x.toNat<(oZ W (lX s q).1).length:=by
  intro x hx;unfold jE at d;split at d
  .contradiction
  .split at d
   .cases d
   .split at d
    .contradiction
    .split at d
     .rename_i e;have:=all_eq_true.1 e x hx;simp only[bz,ce]at this;simp only[oZ,length_map,length_range];omega
     .cases d
 have d5:(lX s q).2.length<=32:=by
  unfold jE at d;omega
 generalize hR:oZ W (lX s q).1=R at*
 generalize hN:(lX s q).2=N at*
 have d6:=bN.slen hl;refine⟨aC,aC,aC,aC,λx=>x.1<=N.length/\x.2.1=s1/\x.2.2.1=r/\PH.le h2 x.2.2.2.2.2/\x.2.2.2.1.length=N.length/\Sub m x.2.2.2.2.1/\∀k n,k<x.1->N[k]? =some n->∃u,x.2.2.2.1[k]? =some u/\Ar m x.2.2.2.2.1 x.2.2.2.2.2 u (R.getD n.toNat []) (R.getD n.toNat []).length,λx=>N.length-x.1,⟨(0,s1,r,replicate N.length cH,m,h2),⟨aC,rfl,rfl,.refl _,ay,Sub.refl m,λk n hk=>by simp at hk⟩,?_⟩,?_⟩
 .have e:List.map eS (replicate N.length cH)=replicate (Int.toNat (r.len:Int)) [pV]:=by rw[map_replicate,a2];rfl
  grind
 rintro⟨i,a4,ro,Y,Z,hx⟩ ⟨hi,e1,M,A,c',f,B⟩;dsimp only at hi e1 M A c' f B⊢
 subst e1 M;have lex:=a0.trans A;refine aF (λa5=>?_) (λd7=>?_)
 .obtain⟨n,a6⟩:=fF a2 a5;obtain⟨Q,G⟩:=a3 n (bo a6);obtain⟨b,o,e,rd⟩:=(a1.mono A).at' a6;have c1:R[n.toNat]? =some R[n.toNat]:=bn G;obtain⟨b',o',t,e',a7,a8⟩:=bN.at (bN.mono hl A λ_ _ z=>bN.mono z A λ_ _ y=>bS.mono y A) c1;have c2:R.getD n.toNat []=R[n.toNat]:=by simp[G]
  have c4:=b9 _ (getElem_mem G);have a9:=bN.slen a8;refine⟨b,o,e,aC,a5,n,.imm rd,b',o',e',Q,aC,t,.imm a7,aC,aC,aC,aC,λw m1 hw=>⟨aC,bg,_,by rw[getElem?_map,Int.toNat_natCast,bn aC];rfl,by simp[eS],b',o',e',Q,aC,t,.imm a7,?_⟩⟩;have d8:∀b i,w.a=some ⟨b,i,none⟩->Z b=none:=λb i e=>(hw.fresh b i e).m_;have C:Sub Z m1:=λx o e=>by rw[hw.other x (λi e'=>bg)];exact e
  have c0:Ar m m1 hx w R[n.toNat] 0:=⟨replicate R[n.toNat].length cH,ay,⟨by
   have:=hw.row;rw[Int.toNat_natCast,a9]at this;rw[map_replicate];exact this,λb i e=>by
   cases e0:m b with
   |none=>rfl
   |some o=>have:=f b o e0;grind⟩,λk r hk=>by omega⟩
  refine⟨λx=>x.1<=R[n.toNat].length/\x.2.1=i/\x.2.2.1=a4/\x.2.2.2.1=ro/\x.2.2.2.2.1=t/\x.2.2.2.2.2.1=Y.set i w/\PH.le hx x.2.2.2.2.2.2.2/\Sub m x.2.2.2.2.2.2.1/\Ar m x.2.2.2.2.2.2.1 x.2.2.2.2.2.2.2 w R[n.toNat] x.1/\∀b o,Z b=some o->x.2.2.2.2.2.2.1 b=some o,λx=>R[n.toNat].length-x.1,⟨(0,i,a4,ro,t,Y.set i w,m1,hx),⟨aC,rfl,rfl,rfl,rfl,rfl,.refl _,λx o e=>C x o (f x o e),c0,C⟩,?_⟩,?_⟩
  .rw[Int.toNat_natCast,map_set];exact MT
  clear c0 C;rintro⟨j,S,b0,b1,t2,d9,my,hy⟩ ⟨hj,f1,f2,H,I,J,c,D,c3,c6⟩;dsimp only at hj f1 f2 H I J c D c3 c6⊢
  subst f1 f2 H I J;refine aF (λP=>?_) (λd3=>?_)
  .obtain⟨rr,T⟩:=fF a9 P;obtain⟨b2,o2,y,M,c7,c8⟩:=bN.at (bN.mono a8 c λ_ _ z=>bS.mono z c) T;have e3:S<Y.length:=by omega
   refine⟨b2,o2,M,aC,P,y,.imm c7,aC,bf,eS w,bg,w,rfl,⟨eS w,bg,rfl⟩,y,rr,rfl,c8,(c4.2 rr (bo T)),λu h4 b3 hu=>?_⟩;obtain⟨wb,c9,cs,E,d',e4,rG⟩:=(c3.mono b3).put T hu;have e5:=c3.slen;refine⟨wb,0,c9,aC,aC,cs,E,⟨d'⟩,aC,λm5 O=>?_⟩;rw[Int.toNat_natCast]at O;have c5:=rG m5 O;have b4:∀x o,Z x=some o->x≠wb:=λx o e e'=>bg
   refine⟨(j+1,S,b0,b1,t2,Y.set S w,m5,h4),⟨?_,rfl,rfl,rfl,rfl,rfl,c.trans b3,λx o e=>?_,c5,λx o e=>?_⟩,?_,MT⟩
   .omega
   .show m5 x=some o;rw[O.other x (b4 x o (f x o e))];exact D x o e
   .show m5 x=some o;rw[O.other x (b4 x o e)];grind
   omega
  .have d0:j=R[n.toNat].length:=by omega
   subst d0;refine⟨(S+1,b0,b1,Y.set S w,my,hy),⟨aC,rfl,rfl,A.trans c,bg,D,λk n' hk d1=>?_⟩,aC,MT⟩;have hk:k<S+1:=hk;by_cases e:k=S
   .grind
   .obtain⟨u,e1,M⟩:=B k n' aC d1;refine⟨u,bg,(M.mono c).keep (λb i e=>?_)⟩;obtain⟨o,ho⟩:=M.blk e
    grind
 .have d2:i=N.length:=by omega
  subst d2;intro s2 h3 c hr b5;have hd:Hh Z h3:=⟨b5⟩
  have le:=(lex.trans c).trans (ES (m0:=m) hd);refine⟨m,CZ m Z h3,f,le,λb i w e=>?_,hK s2 _ le ⟨⟨Y,hr.mono (ES hd),?_,λk l U=>?_⟩,?_⟩⟩
  .unfold CZ at e
   grind
  .unfold MK;grind
  .unfold MK at U;rw[getElem?_map,hN,hR,Option.map_eq_some_iff]at U;obtain⟨n,V,rfl⟩:=U;obtain⟨u,e1,M⟩:=B k n (bm V) V;obtain⟨Q,G⟩:=a3 n (bo V);have c2:R.getD n.toNat []=R[n.toNat]:=by simp[G]
   exact⟨u,e1,Ar.rows hd (M.mono c) bg⟩
  .unfold MK;grind
def aEX:Vc.Spec:=λc m h K=>∃s r,c=[cS s]/\bS h s r/\r.length<=1000/\∀d h',PH.le h h'->bS h' d r->K (cS d) m h'
def b8J:Vc.Spec:=λc m h K=>∃v s t d r,c=[aS v,cI t,cS d]/\iK h s v/\bS h d r/\r.length<=1000/\∀e h',PH.le h h'->bS h' e (LW s t r)->K (cS e) m h'
def Ws(key:Int)(ks:cq)(r:da):=r.length=ks.length/\(∀v∈r,NY v)/\∀(i:Nat) v k,r[i]? =some v->ks[i]? =some k->Cf key k i v=true
def bsX(m:MH)(d:Nat)(us:cu):=∃c:Array Value,m d=some (.cells c 58 (0,0))/\us.length<=c.size/\c.toList.take us.length=us.map Sl.val
def c1Z:Vc.Spec:=λg m h K=>∃v s c n d f u,∃t:Nat,∃e rs j o y row,g=[aS v,aSt ⟨some ⟨c,0,none⟩,n,d⟩,cI t,cS j,cS y]/\iK h s v/\s.tables[t]? =some e/\bsX m c f/\n=f.length/\f[t]? =some u/\Rows h u rs/\rs.length<=1000/\(∀r∈rs,r.length<=1000)/\bS h j o/\bS h y row/\0<row.length/\row.length<=1000/\
 ∀z m' h',PH.le h h'->Rows h' z (Dq e o row false rs)->bsX m' c (f.set t z)->bO m m' c->K (aSt ⟨some ⟨c,0,none⟩,n,d⟩) m' h'
noncomputable def crJ(v:cA)(sl:Sl)(t:Nat)(f g:Sl)(m:MH):=dJ [(47,b8J),(55,JI),(58,aEX)] [(4,{A:=Nat×cu×Bool×Sl×PH,st:=λ⟨i,e,d,u,h⟩=>bZ 66 71 [(2,iv t),(3,sv f),(4,sv g),(5,.at (.ptr 5 0)),(6,.at (.ptr 6 0)),(10,.at (.ptr 10 0)),(11,.at (.lst 45)),(12,bv d),(23,sv u),(24,iv u.len),(25,iv i)] [(5,.cells 27 (v.enc.map .val)),(6,.cells 52 [.val sl.val]),(10,.cells 52 [.val cH.val]),(45,.lst 65 1 (e.map eS))] m h})] [(9,{A:=Nat×cu×Bool×Sl×Sl×Int×PH,st:=λ⟨i,e,d,u,r,c,h⟩=>bZ 66 71 [(2,iv t),(3,sv f),(4,sv g),(5,.at (.ptr 5 0)),(6,.at (.ptr 6 0)),(10,.at (.ptr 10 0)),(11,.at (.lst 45)),(12,bv d),(14,sv r),(15,iv c),(23,sv u),(24,iv u.len),(25,iv i)] [(5,.cells 27 (v.enc.map .val)),(6,.cells 52 [.val sl.val]),(10,.cells 52 [.val cH.val]),(45,.lst 65 1 (e.map eS))] m h}),
 (14,{A:=cu×PH,st:=λ⟨e,h⟩=>bZ 66 71 [(2,iv t),(6,.at (.ptr 6 0)),(10,.at (.ptr 10 0)),(11,.at (.lst 45))] [(6,.cells 52 [.val sl.val]),(10,.cells 52 [.val cH.val]),(45,.lst 65 1 (e.map eS))] m h})] [] false
def am(s:Sl)(m:MH)(h:PH)(K:cn):=
  ∃(y:List cr),aA (fU 3 y) (dD h (dO s) 3 y) (aA (jA y.length 32) (oC y.length) (cF h 3 y (λc d=>K (qW c) m d)))
def X8(v:cA)(t:Int)(s:Sl)(m:MH)(h:PH)(K:cn):=
  bA t 0 (K Ft m h) (iG t (kT v) (K Ft m h) (PJ v t (λb o y=>aI (aL m h b (o+iA t 5+2) (bC y)) (0<=ite (oP s y>0) (oP s y) 0) (ite (oP s y>0) (oP s y) 0<=(↑s.cap:Int)) (pB (λd r=>aI (fY (CV.val (Value.slice s.a (ite (oP s y>0) (oP s y) 0).toNat s.cap)) (qW d)) (bS h d r) (ED r) (∀(e:Sl)(c:PH),bR h c (bS c e r) (K (qW e) m c)))))))
noncomputable abbrev D9(a:Nat×cu×Bool×Sl×PH):=a.2.2.1
noncomputable abbrev rQ(a:Nat×cu×Bool×Sl×PH):=a.2.2.2.1
abbrev BC a:=eQ (oQ 52 (DX a))
abbrev wB:=BC Km
noncomputable abbrev Bw(a:Nat×cu×Bool×Sl×PH):=a.2.2.2.2
abbrev PK(a:(Nat×cu×Bool×Sl×Sl×Int×PH)->Prop)(b:Nat)(c d:Sl)(e:(Nat×cu×Bool×Sl×Sl×Int×PH)->Prop):=∃(x:Nat×cu×Bool×Sl×Sl×Int×PH),aA (a x) (eQ (bP b)) (aA (aJ c) (aJ d) (aA eM (eP 6) (aA oH (eL 45) (e x))))
noncomputable abbrev zX(a:Nat×cu×Bool×Sl×Sl×Int×PH):=a.2.2.2.1
noncomputable abbrev IN(a:Nat×cu×Bool×Sl×Sl×Int×PH):=a.2.2.2.2.2.2
attribute [push_cast] D9 rQ BC wB Bw PK zX IN
def X9(v:cA)(f n d t:Nat)(u j:Sl)(m:MH)(h:PH)(K:cn):=
  bK (λb o=>aI (aW (pK f) b o) (0<=(↑t:Int)) ((↑t:Int)<(↑n:Int)) (∃(y:Sl),aL m h b (o+bM t 1) (aM y)/\∃(I:Nat×cu×Bool×Sl×PH->Prop)(D:Nat×cu×Bool×Sl×PH->Nat),(∃(x:Nat×cu×Bool×Sl×PH),aA (I x) (eQ (bP t)) (aA (aJ u) (aJ j) (aA eM (eP 6) (aA oH (eL 45) (aA (jQ (aG j==0) (D9 x)) (aZ y (rQ x)) (aA (bQ y (rQ x)) (bE x.1) (aA (cL v) (BC (Cc (pK f) n d)) (aA wB (F6 x.2.1) (eG m m h (Bw x))))))))))/\∀(x:Nat×cu×Bool×Sl×PH),I x->bA (↑x.1:Int) (aG (rQ x)) (bK (λz A=>aI (aW (rQ x).a z A) (0<=(↑x.1:Int)) ((↑x.1:Int)<aG (rQ x)) (∃(B:Sl),aL m (Bw x) z (A+bM x.1 1) (aM B)/\rE (λE s=>∃(F:Int),
 pB (λG r=>aA (cE (cN v) (gC (gG (↑t:Int)) (qW B))=cE (cN E) (gC (gG F) (qW G))) (iK (Bw x) s E) (aA (bS (Bw x) G r) (ED r) (∀(H:Sl)(g:PH),bR (Bw x) g (bS g H (LW s F r)) (∃(J:Sl),pB (λL a=>∃(C:da),aI (cJ H u=cJ J L) (bS g J a) (bS g L C) (∃(I1:Nat×cu×Bool×Sl×Sl×Int×PH->Prop),iG (eZ a C) 0 (oF (D9 x) (IA j g (λM O=>aA (kP (iC x.2.1)) (dR (iC x.2.1)) (PK (λc=>I1 c) t u j (λc=>aA (zC c.2.2.1) (aZ B c.2.2.2.2.1) (aA (dH (eZ a C) c.2.2.2.2.2.1) (aZ (rQ x) (zX c)) (aA (bQ (rQ x) (zX c)) (cG x.1 c.1) (aA (cL v) (BC (Cc (pK f) n d)) (aA wB (Cu (iC x.2.1) M c.2.1) (aA (m
 =m) (O=IN c) True))))))))) (PK (λc=>I1 c) t u j (λc=>aA (jQ (D9 x) c.2.2.1) (aZ B c.2.2.2.2.1) (aA (dH (eZ a C) c.2.2.2.2.2.1) (aZ (rQ x) (zX c)) (aA (bQ (rQ x) (zX c)) (cG x.1 c.1) (aA (cL v) (BC (Cc (pK f) n d)) (aA wB (Bu x.2.1 c.2.1) (aA (m=m) (g=IN c) True)))))))) (PK (λc=>I1 c) t u j (λc=>aA (jQ (D9 x) c.2.2.1) (aZ B c.2.2.2.2.1) (aA (dH (eZ a C) c.2.2.2.2.2.1) (aZ (rQ x) (zX c)) (aA (bQ (rQ x) (zX c)) (cG x.1 c.1) (aA (cL v) (BC (Cc (pK f) n d)) (aA wB (Bu x.2.1 c.2.1) (aA (m=m) (g=IN c) True)))))))/\∀(c:Nat×cu×Bool×Sl×Sl×Int×PH),I1 c->cX c.2.2.2.2.2.1 0 (aA (kP (iC
 c.2.1)) (dR (iC c.2.1)) (∃(e:Nat×cu×Bool×Sl×PH),aA (I e) (D e<D x) (aA (eQ (bP t)) (aJ u) (aA (aJ j) eM (aA (eP 6) oH (aA (eL 45) (jQ c.2.2.1 (D9 e)) (aA (aZ (zX c) (rQ e)) (bQ (zX c) (rQ e)) (aA (gX (bH c.1 1)=bP e.1) (cL v) (aA (BC (Cc (pK f) n d)) wB (dL (Cu (iC c.2.1) c.2.2.2.2.1 e.2.1) m m (IN c) (Bw e))))))))))) (∃(e:Nat×cu×Bool×Sl×PH),aA (I e) (D e<D x) (aA (eQ (bP t)) (aJ u) (aA (aJ j) eM (aA (eP 6) oH (aA (eL 45) (jQ c.2.2.1 (D9 e)) (aA (aZ (zX c) (rQ e)) (bQ (zX c) (rQ e)) (aA (gX (bH c.1 1)=bP e.1) (cL v) (aA (BC (Cc (pK f) n d)) wB (dL (Bu c.2.1 e.2.1) m m
 (IN c) (Bw e)))))))))))))))))))) (∃(I1:cu×PH->Prop),oF (D9 x) (IA j (Bw x) (λs g=>aA (kP (iC x.2.1)) (dR (iC x.2.1)) (∃(c:cu×PH),aA (I1 c) (eQ (bP t)) (aA (eP 6) oH (aA (eL 45) (BC (Cc (pK f) n d)) (aA wB (Cu (iC x.2.1) s c.1) (eG m m g c.2))))))) (∃(c:cu×PH),aA (I1 c) (eQ (bP t)) (aA (eP 6) oH (aA (eL 45) (BC (Cc (pK f) n d)) (aA wB (Bu x.2.1 c.1) (eG m m (Bw x) c.2)))))/\∀(c:cu×PH),I1 c->bK (λz A=>aI (aW (pK f) z A) (0<=(↑t:Int)) ((↑t:Int)<(↑n:Int)) (cF c.2 1 (iC c.1) (λs g=>tF m z (A+bM t 1) (aM s) (λP=>K (kE (oW (Value.slice (pK f) n d))) P g)))))))
theorem an:cm 58 aEX:=by
 refine iU func58 ?_;rintro e m h K ⟨s,r,rfl,f,z,g⟩;refine⟨dJ [] [] [] [] false,rfl,aH,am s m h K,ax,?_⟩;dsimp only[am,push_cast];obtain⟨⟨c,j,n,o⟩,u⟩:=f;exact⟨c.map VV.enc,Qt c,j,bg,bg,λy h' le d=>g y h' le ⟨⟨c,d,n,o⟩,u⟩⟩
theorem TC:cm 47 b8J:=by
 refine iU func47 ?_;rintro D m h K ⟨v,s,t,A,r,rfl,B,n,M,u⟩;refine⟨dJ [(58,aEX)] [] [] [] false,rfl,aE an aH,X8 v t A m h K,ax,?_⟩;dsimp only[X8,push_cast];have E:=B.tables.slen;have d:=bN.slen n;have c:AS s t=false->K Ft m h:=λe=>u ⟨none,0,0⟩ h (.refl _) (by simp only[LW,e];exact bN.nil _ _ _ _);refine aF (λF=>c (by simp[AS];omega)) (λF=>aF (λG=>c (by simp[AS];omega)) (λG=>?_));have e:AS s t=true:=by simp[AS];omega
 obtain⟨f,g⟩:∃f,s.tables[t.toNat]? =some f:=⟨_,bn aC⟩
 obtain⟨b,o,y,H,rd,I⟩:=bN.at B.tables g;have O:=I.key;obtain⟨a,len,j⟩:=A;have C:len<=j:=by obtain⟨P,J,_⟩:=n.ex;exact J.cap
 have d:len=r.length:=d
 have z:(if(if(len:Int)<y.key then(len:Int)else y.key)>0 then(if(len:Int)<y.key then(len:Int)else y.key)else 0)=max 0 (min f.key r.length):=by
  omega
 refine⟨b,o,H,aC,aC,y.key,.imm (cR.part rd 2 1),?_⟩;dsimp only;rw[z];have L:LW s t r=r.take (max 0 (min f.key r.length)).toNat:=by simp only[LW,e,if_true,g];rfl
 rw[L]at u;exact⟨aC,aC,⟨a,(max 0 (min f.key r.length)).toNat,j⟩,_,rfl,n.cut aC,bg,u⟩
theorem Ws.snoc{key}{ks:cq}{l k v}(x:Ws key (ks.take i) l)(c:ks[i]? =some k)(f:NY v)(g:Cf key k i v=true):Ws key (ks.take (i+1)) (l++[v]):=by
 obtain⟨n,o,y⟩:=x;have z:=(bm c);have A:l.length=i:=bg
 refine⟨bg,λu d=>?_,λj u B d e=>?_⟩
 .grind
 grind
theorem bFX{key k c}(d:c=1\/c=2)(e:(i:Int)>=key):Cf key k i ⟨c,0,⟨#[]⟩⟩=true:=by
 rcases d with rfl|rfl<;>simp[Cf,kG,JW]<;>omega
theorem Ts{key k v}(c:KOk k)(d:aWZ k v):Cf key k i v=true:=by
 obtain⟨e,f⟩:=d c;simp[Cf,e,f]
theorem buZ c:NY ⟨c,0,⟨#[]⟩⟩:=⟨⟨ay,ay⟩,by show(ByteArray.mk #[]).size<=64;decide⟩
theorem bfZ:cm 46 c1Z:=by
 refine iU func46 ?_;rintro b0 m h K ⟨v,s,tb,n,T,us,u,t,B,rs,sk,J,U,row,rfl,hs,V,hT,hn,hu,W,b1,a0,a1,C,h0,h1,hK⟩;refine⟨crJ v ⟨some ⟨tb,0,none⟩,n,T⟩ t sk U m,rfl,aE TC (aE aa (aE an aH)),X9 v tb n T t sk U m h K,ax,?_⟩;dsimp only[X9,push_cast];obtain⟨y,L,b2,a2⟩:=hT;have b3:t<us.length:=(bm hu);have a3:=bN.slen W;have b':=bN.slen C;have b4:((U.len:Int)==0)=false:=bf
 have a4:(y.toList.drop (0+t*1)).take [dX u].length=[dX u]:=by
  have D:y.toList[t]? =some (Sl.val u):=by
   have e:(y.toList.take us.length)[t]? =some (Sl.val u):=bg
   grind
  have O:=(bm D);rw[Nat.zero_add,Nat.mul_one,drop_eq_getElem_cons O,(List.getElem?_eq_some_iff.1 D).2];rfl
 refine⟨tb,0,rfl,aC,aC,u,.lent y 58 (0,0) L a4,λz=>z.2.2.2.1=u/\z.1<=rs.length/\PH.le h z.2.2.2.2/\∃out,fA z.2.2.2.2 z.2.1 out/\out.length<=2*z.1/\out++Dq B J row z.2.2.1 (rs.drop z.1)=Dq B J row false rs,λz=>rs.length-z.1,⟨(0,[],false,u,h),⟨rfl,ay,.refl _,[],fA.nil _,ay,ay⟩,bg⟩,?_⟩;rintro⟨i,F,d,u',hx⟩ ⟨e1,hi,g,out,j,G,rG⟩;dsimp only at e1 hi g j G rG⊢
 subst e1;have X:=j.len;refine aF (λO=>?_) (λb5=>?_)
 .obtain⟨r,H⟩:=fF a3 O;have a5:=(bm H);obtain⟨b,o,w,ea,rd,hv⟩:=bN.at W H;have P:rs.drop i=r::rs.drop (i+1):=by rw[drop_eq_getElem_cons a5,(List.getElem?_eq_some_iff.1 H).2]
  rw[P,Dq]at rG;refine⟨b,o,ea,aC,aC,w,.imm (rd.mono g),v,s,t,w,r,rfl,hs.mono g,bS.mono hv g,a0 r (bo H),λs' h2 A a6=>⟨s',sk,_,J,rfl,a6,bS.mono a1 (g.trans A),?_⟩⟩;rw[I0 V];generalize hc:eZ (pH B r) J=c at rG⊢
  refine⟨λz=>z.1=i/\z.2.2.2.1=u'/\z.2.2.2.2.1=w/\z.2.2.2.2.2.1=c/\PH.le hx z.2.2.2.2.2.2/\∃out,fA z.2.2.2.2.2.2 z.2.1 out/\out.length<=2*i+1/\out++((if c≠0 then[r]else[])++Dq B J row z.2.2.1 (rs.drop (i+1)))=Dq B J row false rs,aF (λQ=>aD (λE=>?_) (λE=>?_)) (λQ=>?_),?_⟩
  .have E:d=false:=bg
   subst E;rw[if_pos ⟨Q,rfl⟩,show(false||decide (0<=c))=true by simp;omega]at rG;refine⟨U,row,rfl,bS.mono C (g.trans A),h1,λI R f S=>⟨bg,bg,(i,F++[I],true,u',w,c,R),⟨rfl,rfl,rfl,rfl,A.trans f,out++[row],(j.mono (A.trans f)).snoc S,bg,?_⟩,?_⟩⟩
   .grind
   .rw[bu];exact MT
  .have E:d=true:=bg
   subst E;rw[if_neg ay,Bool.true_or,nil_append]at rG;exact⟨(i,F,true,u',w,c,h2),⟨rfl,rfl,rfl,rfl,A,out,j.mono A,aC,rG⟩,MT⟩
  .rw[if_neg (λh=>Q h.1),show(d||decide (0<=c))=d by grind,nil_append]at rG;exact⟨(i,F,d,u',w,c,h2),⟨rfl,rfl,rfl,rfl,A,out,j.mono A,aC,rG⟩,MT⟩
  clear rG j G X out F;rintro⟨i',F,d,u2,w2,c2,R⟩ ⟨e2,e3,e4,e5,f,out,j,G,rG⟩;dsimp only at e2 e3 e4 e5 f j G rG⊢
  subst e2 e3 e4 e5;have X:=j.len;have hw:IntKind.i64.wrap ((i':Int)+1)=((i'+1:Nat):Int):=iY aC;refine aD (λa7=>?_) (λa7=>?_)
  .rw[if_pos bg]at rG;refine⟨bg,bg,(i'+1,F++[w2],d,u2,R),⟨rfl,aC,g.trans f,out++[r],j.snoc (bS.mono hv (g.trans f)),bg,bg⟩,aC,?_⟩;rw[hw,bu];exact MT
  .rw[if_neg bg,nil_append]at rG;refine⟨(i'+1,F,d,u2,R),⟨rfl,aC,g.trans f,out,j,aC,rG⟩,aC,?_⟩
   grind
 .have a8:i=rs.length:=by omega
  rw[a8,drop_length,Dq]at rG;refine⟨λz=>PH.le h z.2/\fA z.2 z.1 (Dq B J row false rs),aD (λE=>?_) (λE=>?_),?_⟩
  .have E:d=false:=bg
   rw[E,if_neg ay]at rG;refine⟨U,row,rfl,bS.mono C g,h1,λI R f S=>⟨bg,bg,(F++[I],R),⟨g.trans f,by rw[<-rG];exact(j.mono f).snoc S⟩,?_⟩⟩;rw[bu];exact MT
  .have E:d=true:=bg
   rw[E,if_pos rfl,append_nil]at rG;exact⟨(F,hx),⟨g,bg⟩,MT⟩
  rintro⟨b6,R⟩ ⟨f,M⟩;dsimp only at f M⊢
  have b7:=Pj (t:=B) (key:=J) (row:=row) (l:=rs) (d:=false);refine⟨tb,0,rfl,aC,aC,λI h4 Y a9=>⟨y,58,⟨L⟩,?_,λm' Z=>hK I m' h4 (f.trans Y) ((M.mono Y).rows a9 bg) ⟨_,Z.at_,?_,?_⟩ ⟨λb hb=>(Z.other b hb).symm▸rfl⟩⟩⟩
  .omega
  .have a':splice y.toList (0+((t:Int)).toNat*1) [dX I]=y.toList.set t (Sl.val I):=by
    rw[set_eq_take_append_cons_drop,if_pos bg];simp only[splice,Int.toNat_natCast,Nat.zero_add,Nat.mul_one,length_singleton,append_assoc];rfl
   grind
  .have a':splice y.toList (0+((t:Int)).toNat*1) [dX I]=y.toList.set t (Sl.val I):=by
    rw[set_eq_take_append_cons_drop,if_pos bg];simp only[splice,Int.toNat_natCast,Nat.zero_add,Nat.mul_one,length_singleton,append_assoc];rfl
   rw[a',length_set,map_set, <-a2,take_set]
def Sq{α:Type}(T:List α->α->Prop):List α->List α->Prop
 |_,[]=>True
 |pre,x::r=>T pre x/\Sq T (pre++[x]) r
theorem XE{α:Type}{T:List α->α->Prop}:∀{l c:List α},Sq T c l->∀(j:Nat) x,l[j]? =some x->T (c++l.take j) x
 |[],_,_,j,x,e=>by simp at e
 |y::r,c,h,0,x,e=>by simp at e;subst e;simpa using h.1
 |y::r,c,h,j+1,x,e=>by
  have:=XE h.2 j x (bk e)
  grind
theorem BG{α}{T:List α->α->Prop}{l}(h:Sq T [] l):Good T l:=λj x e=>bk (XE h j x e)
theorem a6J{α}{T:List α->α->Prop}{l}(h:Good T l) n:Good T (l.take n):=λj x e=>by
 rw[getElem?_take]at e;split at e
 .rename_i c;rw[take_take,Nat.min_eq_left aC];exact h j x e
 .cases e
theorem bwQ(u:s.tables.length<=8)(g:∀t∈s.tables,t.columns.length<=8/\t.refs=[]/\t.checks=[])(y:0<=s.version)(z:s.version<=1000)(A:Good Fy s.tables):eK s=0:=by
 have c:EV s:=⟨u,λj t e=>by
  obtain⟨n,d,o⟩:=g t (bo e);exact⟨n,by simp[d],by simp[o]⟩⟩
 have ok:Mr s:=⟨y,z,A,λj t e=>by
  obtain⟨n,d,o⟩:=g t (bo e);unfold Hd;rw[d];intro i x B;simp at B⟩
 rw[MF c ok];refine EU _ λe f=>?_;obtain⟨i,_,f⟩:=mem_flatMap.1 f;unfold yX at f
 grind
theorem Zy{id}(h:id=4\/id=5):Good Fy (vL id):=by
 have c:gS id=true:=by rcases h with rfl|rfl<;>rfl
 refine BG ⟨⟨?_,?_,?_,?_,BG ⟨⟨?_,?_,?_⟩,⟨?_,?_,?_⟩,trivial⟩⟩,⟨?_,?_,?_,?_,BG ⟨⟨?_,?_,?_⟩,⟨?_,?_,?_⟩,⟨?_,?_,?_⟩,⟨?_,?_,?_⟩,trivial⟩⟩,⟨?_,?_,?_,?_,BG ⟨⟨?_,?_,?_⟩,⟨?_,?_,?_⟩,trivial⟩⟩,⟨?_,?_,?_,?_,BG ⟨⟨?_,?_,?_⟩,trivial⟩⟩,trivial⟩
 all_goals first|exact c|rfl|(simp;done)|decide
theorem QF(h:B3 s):eK s=0/\s.tables≠[]:=by
 obtain⟨f,n,id,g,j,o,u,c,rfl⟩:=h.ex;refine⟨bwQ bg (λt d=>?_) g bg (a6J (Zy c) n),λe=>?_⟩
 .have d:=mem_of_mem_take d;simp only[vL,mem_cons,not_mem_nil,or_false]at d
  grind
 .have:=congrArg List.length e;simp[vL]at this;omega
theorem a2X(h:B3 s){t}(d:t∈s.tables):1<=t.key/\1<=t.columns.length/\t.columns.length<=4/\∀c∈t.columns,KOk c.kind:=by
 obtain⟨g,n,id,o,u,y,z,f,rfl⟩:=h.ex;have j:KOk id:=by rcases f with rfl|rfl;exact .inr (.inl rfl);exact .inr (.inr rfl)
 have d:=mem_of_mem_take d;simp only[vL,mem_cons,not_mem_nil,or_false]at d;rcases d with rfl|rfl|rfl|rfl
 all_goals
  refine⟨ay,ay,ay,λc e=>?_⟩;simp only[mem_cons,not_mem_nil,or_false]at e
 .rcases e with rfl|rfl<;>exact .inr (.inl rfl)
 .rcases e with rfl|rfl|rfl|rfl
  .exact j
  .exact .inr (.inl rfl)
  .exact .inr (.inr rfl)
  .exact .inl rfl
 .rcases e with rfl|rfl<;>exact .inr (.inl rfl)
 grind
structure Wk(s:jP)(st:List ct):Prop where
 len:st.length=s.tables.length
 few:∀l∈st,l.length<=4
 ok:Qg s st
 val:StV st
theorem cQ.iceB{n hx r f d E}(g:n f=some (.cells d E (0,0)))(le:PH.le h hx)(y:∀u,PH.le hx u->(∀i,u f i=d[i]?)->K r (λb=>if b=f then none else n b) u):cQ h K r n hx:=by
 intro j;have z:∀i,hx f i=none:=j f _ g
 have c:PH.le hx (λx i=>if x=f then d[i]? else hx x i):=⟨λx i v e=>by
  grind⟩
 refine⟨_,_,λb o e=>?_,le.trans c,λx i v e=>?_,y _ c (λi=>ay)⟩
 .grind
 grind
structure TSt(h:PH)(s:jP)(m:MH)(tb:Nat)(us:cu)(st:List ct):Prop where
 tbl:bsX m tb us
 ulen:us.length=s.tables.length
 slen:st.length=s.tables.length
 rows:∀(j:Nat) u l,us[j]? =some u->st[j]? =some l->Rows h u l
 ok:Qg s st
 val:StV st
 few:∀l∈st,l.length<=4
theorem TSt.mono{c us st}(x:TSt h s m c us st)(le:PH.le h h')(e:m' c=m c):TSt h' s m' c us st:=by
 obtain⟨d,o,f,g⟩:=x.tbl;exact⟨⟨d,bg,f,g⟩,x.ulen,x.slen,λj u l a b=>bN.mono (x.rows j u l a b) le λr t n=>bS.mono n le,x.ok,x.val,x.few⟩
theorem cjZ{t r}(h:Ws t.key (t.columns.map qE.kind) r):Fi t r=true:=by
 obtain⟨c,_,d⟩:=h;rw[length_map]at c;refine HR.2 ⟨c,λi e=>?_⟩
 grind
theorem bFZ{key k v}(h:Cf key k i v=true)(c:NY v):u7 v.kind/\u7 v.int:=by
 simp only[Cf,bz]at h;have:=N9 h.1;exact⟨⟨aC,aC⟩,c.int_⟩
theorem TSt.put{B:Nat}{t us st C c l row}(x:TSt h s m B us st)(le:PH.le h h')(I:s.tables[t]? =some c)(D:st[t]? =some l)(M:bsX m' B (us.set t C))(g:Rows h' C (Dq c (pH c row) row false l))(A:Ws c.key (c.columns.map qE.kind) row)(S:l.length<=3):
 TSt h' s m' B (us.set t C) (st.set t (Dq c (pH c row) row false l)):=by
 have E:=cjZ A;have F:=(bm D);have y:=x.ok t c l I D;refine⟨M,by rw[length_set];exact x.ulen,by rw[length_set];exact x.slen,λj u n J f=>?_,λj O n o f=>?_,λn f=>?_,λn f=>?_⟩
 .by_cases e:t=j
  .grind
  .rw[getElem?_set_ne e]at J f;exact bN.mono (x.rows j u n J f) le λr t z=>bS.mono z le
 .by_cases e:t=j
  .subst e;rw[getElem?_set_self F]at f;rw[I]at o;cases f;cases o;refine⟨λr g=>?_,λi r P Q R=>(Qz (SL.of y.2)).adj i r P Q R⟩;rcases Ph g with rfl|g
   .exact E
   .exact y.1 r g
  .rw[getElem?_set_ne e]at f;exact x.ok j O n o f
 .rcases mem_or_eq_of_mem_set f with G|rfl
  .exact x.val n G
  .intro r g v z;rcases Ph g with rfl|g
   .obtain⟨i,L,rfl⟩:=mem_iff_getElem.1 z;have H:i<(c.columns.map qE.kind).length:=by rw[<-A.1];exact L
    exact bFZ (A.2.2 i _ _ (bn L) (bn H)) (A.2.1 _ z)
   .exact x.val l (bo D) r g v z
 .rcases mem_or_eq_of_mem_set f with G|rfl
  .exact x.few n G
  .have:=Pj (t:=c) (key:=pH c row) (row:=row) (l:=l) (d:=false)
   grind
def cHX:Vc.Spec:=λc m h K=>∃cb s key ks,c=[cP cb,cS s,cI key,cI 2]/\bB m h cb/\Ints h s ks/\ks.length<=1000/\(∀k∈ks,k=3\/k=4\/k=5)/\∀d r m' h',PH.le h h'->bS h' d r->Ws key ks r->bO m m' cb->bB m' h' cb->K (cS d) m' h'
def aSQ:Vc.Spec:=λc m h K=>∃cb v s,c=[cP cb,aS v,cI 2]/\bB m h cb/\iK h s v/\B3 s/\∀d e m' h',PH.le h h'->H2 h' e d->Wk s d->bO m m' cb->bB m' h' cb->K (aSt e) m' h'
noncomputable def bHZ cb key s:=dJ [(25,Sw),(88,Wh)] [(3,{A:=Nat×da×MH×PH,st:=λ⟨i,l,m,h⟩=>bZ 59 63 [(0,pv cb),(2,iv key),(3,iv 2),(9,.at (.lst 24)),(12,sv s),(13,iv s.len),(14,iv i)] [(24,.lst 30 3 (l.map VV.enc))] m h})] [] [] false
noncomputable def bRJ(cb:Nat)(v:cA):=rI [(19,N3),(45,vJ),(44,cHX),(47,b8J),(46,c1Z)] [(3,{A:=Nat×Sl×MH×PH,st:=λ⟨i,s,m,h⟩=>bZ 51 54 [(0,pv cb),(2,iv 2),(4,.at (.ptr 4 0)),(6,.at (.ptr 6 0)),(7,.at (.ptr 7 0)),(18,iv v.tables.len),(19,iv i)] [(4,.cells 27 (v.enc.map .val)),(6,.cells 52 [.val cH.val]),(7,.cells 52 [.val (.slice s.a s.len s.cap)])] m h}),
 (6,{A:=Nat×Int×Sl×MH×PH,st:=λ⟨i,n,s,m,h⟩=>bZ 51 54 [(0,pv cb),(2,iv 2),(4,.at (.ptr 4 0)),(6,.at (.ptr 6 0)),(7,.at (.ptr 7 0)),(8,iv i),(9,iv n),(18,iv v.tables.len),(19,iv i)] [(4,.cells 27 (v.enc.map .val)),(6,.cells 52 [.val cH.val]),(7,.cells 52 [.val (.slice s.a s.len s.cap)])] m h})] [] [] [2050] [] false
noncomputable abbrev yG(a:Nat×da×MH×PH):=EM a.2.1
noncomputable abbrev kS(a:Nat×da×MH×PH):=a.2.2
abbrev Iq(a:Nat×da×MH×PH)(b:Nat×da×MH×PH->Prop)(c:Nat×da×MH×PH->Nat)(d:Nat)(e:Int)(g:Sl)(i:(Nat×da×MH×PH)->Prop):=aA (jA (j4 (yG a) 1) 32) (dR (yG a)) (∃(x:Nat×da×MH×PH),aA (b x) (c x<c a) (aA (cT d) (fD e) (aA (fD 2) (eL 24) (aA (aJ g) (bJ g) (i x)))))
attribute [push_cast] yG kS Iq
def TD(cb:Nat)(s:Sl)(key:Int)(m:MH)(h:PH)(K:cn):=
  ∃(I:Nat×da×MH×PH->Prop)(f:Nat×da×MH×PH->Nat),(∃(x:Nat×da×MH×PH),aA (I x) (cT cb) (aA (fD key) (fD 2) (aA (eL 24) (aJ s) (aA (bJ s) (bE x.1) (aI (vD 30 3 (yG x)) (bW m (kS x)) (eH h (kS x)) True)))))/\∀(x:Nat×da×MH×PH),I x->bA (↑x.1:Int) (aG s) (bK (λb o=>aI (aW s.a b o) (0<=(↑x.1:Int)) ((↑x.1:Int)<aG s) (∃(y:Int),aL (kS x).1 (kS x).2 b (o+bM x.1 1) (bC y)/\dP (decide ((↑x.1:Int)>=key)) (pM cb 5 (kS x).1 (kS x).2 (λc r=>∀(e:MH),bF (bO (kS x).1 e c) (bB e (kS x).2 c) (dP r (Iq x I f cb key s (λd=>aA (gX (bH x.1 1)=bP d.1) (bV 30 3 (dN (yG x) (aX (fV 2) bI FU))=bV 30 3 (yG d)) (aA (bW e (kS d))
 (dC (kS x) (kS d)) True))) (decide ((↑x.1:Int)>=key)) (Gd cb y e (kS x).2 (λv g=>Iq x I f cb key s (λd=>aA (gX (bH x.1 1)=bP d.1) (bV 30 3 (dN (yG x) v.enc)=bV 30 3 (yG d)) (aA (bW g (kS d)) (dC (kS x) (kS d)) True)))) (Gd cb y e (kS x).2 (λv g=>Iq x I f cb key s (λd=>aA (gX (bH x.1 1)=bP d.1) (bV 30 3 (dN (yG x) v.enc)=bV 30 3 (yG d)) (aA (bW g (kS d)) (dC (kS x) (kS d)) True))))))) (decide ((↑x.1:Int)>=key)) (Gd cb y (kS x).1 (kS x).2 (λv e=>Iq x I f cb key s (λd=>aA (gX (bH x.1 1)=bP d.1) (bV 30 3 (dN (yG x) v.enc)=bV 30 3 (yG d)) (aA (bW e (kS d)) (dC (kS x) (kS d)) True)))) (Gd cb y (kS x).1 (kS
 x).2 (λv e=>Iq x I f cb key s (λd=>aA (gX (bH x.1 1)=bP d.1) (bV 30 3 (dN (yG x) v.enc)=bV 30 3 (yG d)) (aA (bW e (kS d)) (dC (kS x) (kS d)) True))))))) (cF (kS x).2 3 (yG x) (λj n=>K (qW j) (kS x).1 n))
abbrev xS a b:=oQ 52 a=oQ 52 b
noncomputable abbrev wD(a:Nat×Int×Sl×MH×PH):=a.2.2.2
attribute [push_cast] xS wD
def NF(cb:Nat)(v:cA)(m:MH)(h:PH)(K:cn):=
  aA (cM (kT v)) (kT v<=kT v) (aA (Af (kT v*24)) (Af (kT v)) (jY (λs M=>sL m M h s 58 1 (AK (kT v) iP)->LC (λI x=>aA (I x) (cT cb) (aA (fD 2) (eP 4) (aA (eP 6) (eP 7) (aA (kJ v) (bE x.1) (aA (cL v) wB (aA (xS (pG s) (pG (kR x))) (bW M (jX x)) (lF (eH h (jX x))))))))) (λI O x=>I x->bA (↑x.1:Int) (aG v.tables) (kK cb 5 (qR x) (qS x) (λk m3=>∃(I1:Nat×Int×Sl×MH×PH->Prop)(P:Nat×Int×Sl×MH×PH->Nat),(∃(d:Nat×Int×Sl×MH×PH),aA (I1 d) (cT cb) (aA (fD 2) (eP 4) (aA (eP 6) (eP 7) (aA (cG x.1 d.1) (dH k d.2.1) (aA (kJ v) (cG x.1 d.1) (aA (cL v) wB (aI (xS (pG (kR x)) (pG d.2.2.1)) (bW m3 (wD d)) (dC
 (jX x) (wD d)) True)))))))/\∀(d:Nat×Int×Sl×MH×PH),I1 d->fZ d.2.1 0 (bK (λb o=>aI (aW (Cd v) b o) (0<=(↑d.1:Int)) ((↑d.1:Int)<aG v.tables) (∃(y:Int),aA (aL (wD d).1 (wD d).2 b (o+bM d.1 5+2) (bC y)) (j8 (wD d).2 b (o+bM d.1 5) 2 (bC y)) (A9 v (↑d.1:Int) (wD d).2 (λs1 F=>∃(c:Nat)(Q:Sl)(R:Int)(A:cq),aA (dA cb (dE s1 (fC (gG y) 2))=dA c (dE Q (fC (gG R) 2))) (bB (wD d).1 F c) (aA (Ints F Q A) (gU A) ((∀(f:Int),List.Mem f A->f=3\/f=4\/f=5)/\∀(G:Sl)(r:da),eX (λB j=>bR F j (bS j G r) (bF (Ws R A r) (bO (wD d).1 B c) (pF B j c (rE (λS T=>∃(t:Int),pB (λU H=>aA (cE (cN v) (gC (gG
 (↑d.1:Int)) (qW G))=cE (cN S) (gC (gG t) (qW U))) (iK j T S) (aA (bS j U H) (ED H) (∀(V:Sl)(g:PH),bR j g (bS g V (LW T t H)) (rE (λW X=>bK (λz n=>LN (λY u=>∃(Z:Sl)(C:Nat)(t3:AE)(D:ct),pB (λs8 f=>pB (λs9 E=>aA (cE (cN v) (cE (aM d.2.2.1) (gG (↑d.1:Int)::cJ V G))=cE (cN W) (cE (oW (Value.slice (pK z) n Y)) (gG (↑C:Int)::cJ s8 s9))) (iK g X W) (aA (PM X C t3) (bsX B z u) (aA (n=u.length) (CU u C Z) (aA (Rows g Z D) (nZ D.length) (aA (IB D (λr4=>ED r4)) (bS g s8 f) (aA (bS g s9 E) (0<E.length) (ED E/\∀(u2:Sl),eX (λJ L=>bR g L (Rows L u2 (Dq t3 f E false D)) (bF (bsX J z (List.set u C u2))
 (bO B J z) (∃(e:Nat×Int×Sl×MH×PH),aA (I1 e) (P e<P d) (aA (cT cb) (fD 2) (aA (eP 4) (eP 6) (aA (eP 7) (cG d.1 e.1) (aA (dH (fM (d.2.1-1)) e.2.1) (kJ v) (aA (cG d.1 e.1) (cL v) (aA wB (xS (DX (Cc (pK z) n Y)) (pG e.2.2.1)) (aA (bW J (wD e)) (eH L (wD e)) True))))))))))))))))))))))))))))))))))))) (∃(e:Nat×Sl×MH×PH),aA (I e) (O e<O x) (aA (cT cb) (fD 2) (aA (eP 4) (eP 6) (aA (eP 7) (kJ v) (aA (gX (bH d.1 1)=bP e.1) (cL v) (aA wB (xS (pG d.2.2.1) (pG (kR e))) (aA (fH (wD d) (jX e)) (dC (wD d) (jX e)) True))))))))) (K (kE (aM (kR x))) (qR x) (qS x))))))
theorem Z0:cm 44 cHX:=by
 refine iU func44 ?_;rintro U m h K ⟨cb,s,key,ks,rfl,V,P,hl,W,X⟩;refine⟨bHZ cb key s,rfl,aE Db (aE M8 aH),TD cb s key m h K,ax,?_⟩;dsimp only[TD,push_cast];have H:=P.slen;refine⟨λz=>z.2.2.2=h/\z.1<=ks.length/\Ws key (ks.take z.1) z.2.1/\bO m z.2.2.1 cb/\bB z.2.2.1 h cb,λz=>ks.length-z.1,⟨(0,[],m,h),⟨rfl,ay,⟨ay,ay,λj u k h=>by simp at h⟩,.refl _ _,V⟩,MT⟩,?_⟩;rintro⟨i,l,Q,h'⟩ ⟨R,Y,d,I,E⟩;dsimp only at R Y d I E⊢
 subst R;have Z:l.length=i:=by rw[d.1,length_take];omega
 refine aF (λJ=>?_) (λa' s' h2 A L=>?_)
 .obtain⟨k,B⟩:=fF H J;obtain⟨b,o,ea,rd⟩:=P.at' B;have C:=W k (bo B);have M:∀(u:VV)(m':MH),NY u->Cf key k i u=true->bO Q m' cb->bB m' h' cb->h'=h'/\i+1<=ks.length/\Ws key (ks.take (i+1)) (l++[u])/\bO m m' cb/\bB m' h' cb:=λu m' n hf o c=>⟨rfl,aC,d.snoc B n hf,I.trans o,c⟩
  have f:ks.length-(i+1)<ks.length-i:=by omega
  have hw:IntKind.i64.wrap ((i:Int)+1)=((i+1:Nat):Int):=iY aC;refine⟨b,o,ea,aC,aC,k,.imm rd,aF (λg=>⟨cb,5,rfl,aC,aC,E,λr S T O=>aD (λ_=>?_) (λ_=>aF (λ_=>⟨cb,k,rfl,O,λu y n e F G=>?_⟩) (λ_=>⟨cb,k,rfl,O,λu y n e F G=>?_⟩))⟩) (λg=>aF (λD=>absurd D g) (λ_=>⟨cb,k,rfl,E,λu y n e F G=>?_⟩))⟩
  .refine⟨bg,bg,(i+1,l++[⟨2,0,⟨#[]⟩⟩],S,h'),M _ S (buZ 2) (bFX (.inr rfl) g) T O,f,?_⟩;rw[hw,bu];exact MT
  .refine⟨bg,bg,(i+1,l++[u],y,h'),M _ y n (Ts C e) (T.trans F) G,f,?_⟩
   grind
  .omega
  .refine⟨bg,bg,(i+1,l++[u],y,h'),M _ y n (Ts C e) F G,f,?_⟩
   grind
 .rw[bt aC]at d;exact X s' l Q h2 A ⟨⟨l,L,rfl,λi x B=>⟨x,B,rfl⟩⟩,aC⟩ d I (E.mono A)
theorem asZ:cm 13 aSQ:=by
 refine SF func13 ?_;rintro c9 m h K ⟨cb,v,s,rfl,hc,hs,hp,hK⟩;refine⟨bRJ cb v,rfl,aE O7 (aE I7 (aE Z0 (aE TC (aE bfZ aH)))),NF cb v m h (cQ h K),ax,?_⟩;show NF cb v m h (cQ h K);dsimp only[NF,push_cast];have b2:=hs.tables.slen;obtain⟨a6,b3⟩:=QF hp;have h8:=JO a6;have b4:=AI a6;have d':0<s.tables.length:=length_pos_iff.2 b3;refine⟨aC,aC,aC,aC,λV m1 I=>?_⟩;rw[show((v.tables.len:Int)).toNat=s.tables.length by omega]at I
 obtain⟨J,E,C,S,L,_,_,a7,a1⟩:∃b E C,V=⟨some ⟨b,0,none⟩,s.tables.length,E⟩/\m1 b=some (.cells C 58 (0,0))/\s.tables.length<=E/\E<=maxLen/\C.size=E*1/\C.toList.take (s.tables.length*1)=(replicate s.tables.length [pV]).flatten:=by
  rcases I.row.ex with⟨_,e⟩|⟨b,E,C,W,e2,e3,e4,e5,e6⟩
  .have:=congrArg List.length e;grind
  grind
 have b5:s.tables.length<=E:=by assumption
 have X:cK m h J:=I.fresh J 0 (by rw[S])
 have M:J≠cb:=λe=>by
  obtain⟨cs,e2⟩:=hc.blk;rw[<-e,X.m_]at e2;cases e2
 have Y:∀b,b≠J->m1 b=m b:=λb hb=>I.other b λi e=>by
  grind
 have a8:bB m1 h cb:=hc.keep (Y cb (Ne.symm M)) (.refl _)
 have a9:TSt h s m1 J (replicate s.tables.length ⟨none,0,0⟩) (replicate s.tables.length []):=by
  refine⟨⟨C,L,bg,?_⟩,ay,ay,λj u l R F=>?_,λj t l ht F=>?_,λl F=>?_,λl F=>?_⟩
  .rw[length_replicate, <-Nat.mul_one s.tables.length,a1,Nat.mul_one,map_replicate];generalize s.tables.length=k
   induction k with
   |zero=>rfl
   |succ k ih=>rw[replicate_succ,flatten_cons,ih,replicate_succ];rfl
  .have R:=bo R;have F:=bo F;rw[eq_of_mem_replicate R,eq_of_mem_replicate F];exact bN.nil _ _ _ _
  .rw[eq_of_mem_replicate (bo F)];exact⟨λr hr=>by simp at hr,λi r r' e=>by simp at e⟩
  .grind
  grind
 clear a1 a7 L C;refine⟨λz=>z.1<=s.tables.length/\z.2.1=V/\PH.le h z.2.2.2/\bB z.2.2.1 z.2.2.2 cb/\(∀b,b≠J->b≠cb->z.2.2.1 b=m b)/\∃G H,TSt z.2.2.2 s z.2.2.1 J G H/\∀j l,z.1<=j->H[j]? =some l->l=[],λz=>s.tables.length-z.1,⟨(0,V,m1,h),⟨ay,rfl,.refl _,a8,λb h1 _=>Y b h1,_,_,a9,λj l _ e=>eq_of_mem_replicate (bo e)⟩,MT⟩,?_⟩;clear a9 a8;rintro⟨i,a2,m2,h2⟩ ⟨hi,W,T,c2,o2,G,H,g,B⟩;dsimp only at hi W T c2 o2 g B⊢
 rw[W];clear W a2;refine aF (λb6=>?_) (λd0=>?_)
 .obtain⟨D,f⟩:=fF b2 b6;have a3:=bo f;obtain⟨tk,tc,d1,b7⟩:=a2X hp a3;have b':=(bm f)
  have O:H[i]? =some []:=by
   have:=getElem?_eq_getElem (l:=H) (i:=i) (by rw[g.slen];exact b')
   grind
  refine⟨cb,5,rfl,c2,λk m3 k0 k1 o3 c3=>?_⟩;refine⟨λz=>z.1=i/\z.2.2.1=V/\z.2.1<=4/\PH.le h z.2.2.2.2/\bB z.2.2.2.1 z.2.2.2.2 cb/\(∀b,b≠J->b≠cb->z.2.2.2.1 b=m b)/\∃G H l,TSt z.2.2.2.2 s z.2.2.2.1 J G H/\H[i]? =some l/\((l.length:Int)<=4-z.2.1)/\0<=z.2.1/\∀j l,i+1<=j->H[j]? =some l->l=[],λz=>z.2.1.toNat,⟨(i,k,V,m3,h2),⟨rfl,rfl,bg,T,c3,λb h1 h2=>by show m3 b=m b;rw[o3.other b h2];grind,G,H,[],g.mono (.refl _) (o3.other J M),O,bf,k0,λj l hj=>B j l aC⟩,MT⟩,?_⟩;clear o3 c3 m3 k0 k1 g B O G H k o2 c2 m2;rintro⟨i',n,a2,m3,h3⟩ ⟨W,e2,b8,A,c3,o3,G,H,l,g,F,b9,b0,B⟩;dsimp only at W e2 b8 A c3 o3 g F b9 b0 B⊢
  rw[W,e2];clear W e2 i' a2;refine aF (λhn=>?_) (λhn=>?_)
  .obtain⟨b,o,y,ea,rd,hy⟩:=bN.at (hs.mono A).tables f;have c':jB s (i:Int)=D.columns.map qE.kind:=by rw[jB,if_neg aC,Int.toNat_natCast,f]
   refine⟨b,o,ea,aC,aC,D.key,.imm (by rw[<-hy.key];exact cR.part rd 2 1),by rw[<-hy.key];exact cR.part rd 2 1,v,s,i,rfl,hs.mono A,b4,λks h4 P b1=>?_⟩;rw[c']at b1;refine⟨cb,ks,D.key,_,rfl,c3.mono P,b1,bg,λk hk=>?_,λsr row m5 h5 U Z a' o5 c5=>?_⟩
   .obtain⟨c,hc,rfl⟩:=mem_map.1 hk;exact b7 c hc
   have d2:row.length=D.columns.length:=by rw[a'.1,length_map]
   refine⟨v,s,i,sr,row,rfl,hs.mono ((A.trans P).trans U),Z,aC,λsk h6 Q a0=>?_⟩;rw[I0 f]at a0;have a4:=g.mono ((P.trans U).trans Q) (o5.other J M);obtain⟨u,R⟩:∃u,G[i]? =some u:=⟨_,bn (by rw[g.ulen];exact b')⟩
   have d3:=bo F;refine⟨v,s,J,s.tables.length,E,G,u,i,D,l,sk,pH D row,sr,row,by rw[S],hs.mono (((A.trans P).trans U).trans Q),f,a4.tbl,g.ulen.symm,R,a4.rows i u l R F,aC,λr hr=>?_,a0,bS.mono Z Q,aC,aC,λu' m7 h7 a5 c0 c1 o7=>?_⟩
   .have:=(VW ((g.ok i D l f F).1 r hr)).1;omega
   have hw:IntKind.i64.wrap (n-1)=n-1:=fG aC aC;have c4:=Pj (t:=D) (key:=pH D row) (row:=row) (l:=l) (d:=false);simp at c4;refine⟨(i,n-1,V,m7,h7),⟨rfl,rfl,bg,(((A.trans P).trans U).trans Q).trans a5,(c5.mono (Q.trans a5)).keep (o7.other cb (Ne.symm M)) (.refl _),λb h1 h2=>by show m7 b=m b;rw[o7.other b h1,o5.other b h2];grind,G.set i u',H.set i _,_,a4.put a5 f F c1 c0 a' aC,getElem?_set_self (bm F),bg,bg,λj l' hj e=>?_⟩,bg,?_⟩
   .grind
   .grind
  .refine⟨(i+1,V,m3,h3),⟨aC,rfl,A,c3,o3,G,H,g,B⟩,aC,?_⟩;rw[iY aC];exact MT
 .obtain⟨C,L,a7,a1⟩:=g.tbl;refine cQ.iceB L T λh3 A c8=>hK H V _ h3 (T.trans A) ⟨⟨⟨G,⟨by rw[S,length_map];exact g.ulen.symm,.inr ⟨J,0,by rw[S],λj e hj=>⟨λn x hx=>?_⟩⟩,bg⟩,by rw[g.slen,g.ulen],λj l F=>?_⟩,by rw[g.slen];omega⟩,by rw[g.slen];omega,g.val⟩ ⟨g.slen,g.few,g.ok,g.val⟩ ⟨λb hb=>?_⟩ ?_
  .rw[getElem?_map,Option.map_eq_some_iff]at hj;obtain⟨u,R,rfl⟩:=hj;have hn:n=0:=by have:=(bm hx);simp[eS]at this;omega
   subst hn
   have hx:u.val=x:=by
    simp[eS]at hx;exact hx
   subst hx;have e:(C.toList.take G.length)[j]? =some u.val:=bg
   grind
  .have c6:=(bm F);have c7:j<G.length:=by rw[g.ulen, <-g.slen];exact c6
   have R:G[j]? =some G[j]:=bn c7;exact⟨_,R,bN.mono (g.rows j _ l R F) A λr t hv=>bS.mono hv A⟩
  .by_cases e:b=J
   .subst e;simp[X.m_]
   grind
  .refine bB.keep c2 ?_ A
   grind
abbrev Rel:=ct
def cWJ a b:=Ew (a++b)
def cYQ(a b:Rel):=a.filter λx=>JF b x==false
def cYJ(a b:Rel):=a.filter λx=>JF b x==true
theorem PY{l x}:JF l x=false↔x∉l:=by
 rw[<-Ei];grind
theorem chJ{a b x}:x∈cWJ a b↔x∈a\/x∈b:=by simp[cWJ,Dk]
theorem ciQ{a b x}:x∈cYQ a b↔x∈a/\x∉b:=by simp only[cYQ,mem_filter,beq_iff_eq,PY]
theorem ciX{a b x}:x∈cYJ a b↔x∈a/\x∈b:=by simp only[cYJ,mem_filter,beq_iff_eq,Ei]
theorem ayJ{w od a b c}(d:a.length=w)(e:b.length=w)(f:c.length=w)(g:jR od a b<=0)(j:jR od b c<=0):jR od a c<=0:=by
 rw[Ao d e]at g;rw[Ao e f]at j;rw[Ao d f];exact(HX w od).trans _ _ _ g j
def c2X:Vc.Spec:=λc m h K=>∃s t l r,c=[cS s,cS t]/\Rows h s l/\bS h t r/\mG l/\K (cB (JF l r)) m h
def c1J:Vc.Spec:=λc m h K=>∃n,c=[cI n]/\K (aV ⟨4,n,⟨#[]⟩⟩) m h
def c5Q:Query->Int
 |.mk op _ _ _ _ _ _ _ _=>op
def opE q:=c5Q (eC q)
structure QsU(h:PH)(us:dt)(qs:dc):Prop where
 len:us.length=qs.length
 at_:∀(i:Nat) q,qs[i]? =some q->∃v,us[i]? =some v/\dK h q v
theorem QsU.mono{us c}(x:QsU h us c)(le:PH.le h h'):QsU h' us c:=⟨x.len,λi q e=>let⟨v,e1,e2⟩:=x.at_ i q e;⟨v,e1,e2.mono le⟩⟩
theorem QsU.snoc{us c q}(x:QsU h us c)(g:dK h q v):QsU h (us++[v]) (c++[q]):=by
 have d:=x.len;refine⟨by simp[d],λi p e=>?_⟩;by_cases f:i<c.length
 .rw[getElem?_append_left f]at e;obtain⟨u,j,n⟩:=x.at_ i p e
  grind
 grind
def c3X(N:Nat):Vc.Spec:=λc m h K=>∃v q s,c=[aQ v]/\dK h q v/\SizeOf.sizeOf q<N/\(aK s [] q).2=0/\∀d h',PH.le h h'->dK h' (eC q) d->d.op=opE q->K (aQ d) m h'
def aYQ:Vc.Spec:=λc m h K=>∃sc v s q,c=[aS sc,aQ v]/\iK h s sc/\dK h q v/\(gH s [] q).2=0/\∀d h',PH.le h h'->dK h' (eC q) d->d.op=opE q->K (.tup [aQ d,cI 0]) m h'
def c3Z:Vc.Spec:=λc m h K=>∃v q s,c=[aQ v]/\dK h q v/\(aK s [] q).2=0/\∀d h',PH.le h h'->dK h' (eC q) d->d.op=opE q->K (aQ d) m h'
noncomputable def cwQ s t m h:=
 dJ [(55,JI)] [(2,{A:=Nat×Nat,st:=λ⟨c,d⟩=>bZ 42 44 [(0,sv s),(1,sv t),(5,iv c),(6,iv d)] [] m h})] [] [] false
noncomputable def cpZ(N:Nat)(v:QV)(m:MH):=
 dJ [(42,b5Q),(68,c3X N),(77,aEZ),(78,P9),(79,Wv)] [(5,{A:=Nat×dt×PV×Sl×Sl×PH,st:=λ⟨i,c,w,s,t,h⟩=>bZ 44 45 [(2,.at (.ptr 2 0)),(3,.at (.ptr 3 0)),(29,sv v.args),(30,iv v.args.len),(31,iv i)] [(2,.cells 41 zQ),(3,.cells 41 ((QV.enc ⟨v.op,v.table,w,s,t,cH,cH,0,cH⟩).take 20 |>.map .val |>.append [.lst 40])),(40,.lst 41 21 (c.map QV.enc))] m h})] [(4,{A:=PV×Sl×Sl×PH,st:=λ⟨w,s,t,h⟩=>bZ 44 45 [(1,.at (.ptr 1 0)),(2,.at (.ptr 2 0)),(3,.at (.ptr 3 0))] [(1,.cells 41 (v.enc.map .val)),(2,.cells 41 zQ),(3,.cells 41 ((QV.enc ⟨v.op,v.table,w,s,t,cH,cH,0,cH⟩).map .val))] m h})] [] false
noncomputable abbrev Ir(a:Nat×Nat):=bH a.1 (fM (Int.tdiv (fM ((↑a.2:Int)-(↑a.1:Int))) 2))
attribute [push_cast] Ir
def Yw(s t:Sl)(m:MH)(h:PH)(K:cn):=
  IP (λI x=>aA (I x) (aJ s) (aA (aJ t) (bE x.1) (dL (bP s.len=bP x.2) m m h h))) (λI g x=>I x->bA (↑x.1:Int) (↑x.2:Int) (mS ((2:Int)=0)/\bK (λb o=>aI (aW s.a b o) (0<=Ir x) (Ir x<aG s) (∃(y:Sl),aL m h b (o+iA (Ir x) 1) (aM y)/\∃(d:Sl),pB (λe a=>∃(f:da),aI (cJ y t=cJ d e) (bS h d a) (bS h e f) (bA (eZ a f) 0 (∃(c:Nat×Nat),aA (I c) (g c<g x) (aA (aJ s) (aJ t) (aA (SV.at (At.val (fV (fM (Ir x+1))))=bP c.1) (cG x.2 c.2) (aA (m=m) (h=h) True)))) (∃(c:Nat×Nat),aA (I c) (g c<g x) (aA (aJ s) (aJ t) (aA (cG x.1 c.1) (SV.at (At.val (fV (Ir x)))=bP c.2) (aA (m=m) (h=h) True))))))))) (bA (↑x.1:Int) (aG s) (bK (λb o=>aI (aW
 s.a b o) (0<=(↑x.1:Int)) ((↑x.1:Int)<aG s) (∃(y:Sl),aL m h b (o+bM x.1 1) (aM y)/\∃(d:Sl),pB (λe a=>∃(f:da),aI (cJ y t=cJ d e) (bS h d a) (bS h e f) (K (As (eZ a f==0)) m h))))) (K bG m h)))
noncomputable abbrev A3 a:=aX (fV 4) (fV a) FU
attribute [push_cast] A3
def av(n:Int)(m:MH)(h:PH)(K:cn):=
  K (kE (A3 n)) m h
abbrev Lh(a:QV)(b:PH)(c:Sl->PH->(PV×Sl×Sl×PH)->Prop):=HB (λx e=>aA (fY (qW a.on) (qW x)) (jD b x e) (∀(f:Sl)(d:PH),bR b d (jD d f e) (∃(g:PV×Sl×Sl×PH),c f d g)))
noncomputable abbrev wC a b c d e:=gL (kF a.op) (zE a) (pQ b (gL (BY c) (BY d) (gL Km Km e)))
noncomputable abbrev Br(a:PV×Sl×Sl×PH):=a.2.2.1
noncomputable abbrev xZ(a:PV×Sl×Sl×PH):=a.2.2.2
noncomputable abbrev Li:=oT iE (At.lst 40)
noncomputable abbrev wR(a:Nat×dt×PV×Sl×Sl×PH):=a.2.2
noncomputable abbrev Ae a:=(wR a).1
noncomputable abbrev GA(a:Nat×dt×PV×Sl×Sl×PH):=List.map QV.enc a.2.1
attribute [push_cast] Lh wC Br xZ Li wR Ae GA
def X0(N:Nat)(v:QV)(m:MH)(h:PH)(K:cn):=
  ∃(o:Int),iF (sB v.op o) (G5 o) (bK (λb z=>aI (aW v.args.a b z) ((0:Int)<=0) (0<aG v.args) (∃(y:QV),aL m h b (z+0) y.enc/\qC (λg q=>∃(s:jP),aA (HA (cZ y)=HA (cZ g)) (dK h q g) (aA (yH q N) ((aK s [] q).2=0) (∀(e:QV)(d:PH),bR h d (dK d (eC q) e) (e.op=opE q->K (cZ e) m d))))))) (∃(I:PV×Sl×Sl×PH->Prop),(tD (λg p=>aA (fY (lN v.where_) (lN g)) (fO h p g) (∀(e:PV)(d:PH),bR h d (fO d p e) (xQ v.columns d (λl=>∀(s:Sl)(f:PH),bR d f (Ints f s l) (Lh v f (λn u x=>aA (I x) eW (aA (eP 2) jU (aA (eO v) j7 (aA (oQ 41 (wC v e s n EF)=oQ 41 (wC v x.1 x.2.1 (Br x) EF)) (m=m) (bU u (xZ x))))))/\Lh v f (λn u x=>
 aA (I x) eW (aA (eP 2) jU (aA (eO v) j7 (aA (oQ 41 (wC v e s n EF)=oQ 41 (wC v x.1 x.2.1 (Br x) EF)) (m=m) (bU u (xZ x))))))))/\xQ v.columns d (λl=>∀(s:Sl)(f:PH),bR d f (Ints f s l) (Lh v f (λn u x=>aA (I x) eW (aA (eP 2) jU (aA (eO v) j7 (aA (oQ 41 (wC v e s n EF)=oQ 41 (wC v x.1 x.2.1 (Br x) EF)) (m=m) (bU u (xZ x)))))))))))/\tD (λg p=>aA (fY (lN v.where_) (lN g)) (fO h p g) (∀(e:PV)(d:PH),bR h d (fO d p e) (xQ v.columns d (λl=>∀(s:Sl)(f:PH),bR d f (Ints f s l) (Lh v f (λn u x=>aA (I x) eW (aA (eP 2) jU (aA (eO v) j7 (aA (oQ 41 (wC v e s n EF)=oQ 41 (wC v x.1 x.2.1 (Br x) EF)) (m=m)
 (bU u (xZ x))))))))))))/\∀(x:PV×Sl×Sl×PH),I x->∃(I1:Nat×dt×PV×Sl×Sl×PH->Prop)(A:Nat×dt×PV×Sl×Sl×PH->Nat),(∃(c:Nat×dt×PV×Sl×Sl×PH),aA (I1 c) iZ (aA (eP 3) (aJ v.args) (aA (wF v) (bE c.1) (aA j7 (oQ 41 (wC v x.1 x.2.1 (Br x) Li)=oQ 41 (wC v (Ae c) (wR c).2.1 (Br (wR c)) Li)) (dL (vD 41 21 (GA c)) m m (xZ x) (xZ (wR c)))))))/\∀(c:Nat×dt×PV×Sl×Sl×PH),I1 c->bA (↑c.1:Int) (aG v.args) (bK (λb z=>aI (aW v.args.a b z) (0<=(↑c.1:Int)) ((↑c.1:Int)<aG v.args) (∃(y:QV),aL m (xZ (wR c)) b (z+bM c.1 21) y.enc/\qC (λg q=>∃(s:jP),aA (HA (cZ y)=HA (cZ g)) (dK (xZ (wR c)) q g) (aA
 (yH q N) ((aK s [] q).2=0) (∀(e:QV)(d:PH),bR (xZ (wR c)) d (dK d (eC q) e) (e.op=opE q->aA (jA (j4 (GA c) 1) 280) (dR (GA c)) (∃(j:Nat×dt×PV×Sl×Sl×PH),aA (I1 j) (A j<A c) (aA iZ jU (aA (aJ v.args) (bJ v.args) (aA (gX (bH c.1 1)=bP j.1) j7 (aA (oQ 41 (wC v (Ae c) (wR c).2.1 (Br (wR c)) Li)=oQ 41 (wC v (Ae j) (wR j).2.1 (Br (wR j)) Li)) (bV 41 21 (dN (GA c) e.enc)=bV 41 21 (GA j)) (aA (m=m) (d=xZ (wR j)) True))))))))))))) (cF (xZ (wR c)) 21 (GA c) (λs d=>K (kE (aX (fV v.op) (sF v) (aX (fV (Ae c).op) (fV (Ae c).cmp) (aX (oB (Ae c).left) (zB (Ae c).left) (aX (fV (qL (Ae
 c).left)) (uF (Ae c).left) (GB (Ae c) (dX (wR c).2.1) (uC (dX (Br (wR c))) (aM s)))))))) m d)))
def Yl(sc:cA)(v:QV)(m:MH)(h:PH)(K:cn):=
  Lk sc v h (λs p q d=>cX (zD s p q) 0 (K (CV.tup (yA zV (fV (zD s p q)))) m d) (qC (λg c=>∃(j:jP),aI (fY (cZ v) (cZ g)) (dK d c g) ((aK j [] c).2=0) (∀(e:QV)(f:PH),bR d f (dK f (eC c) e) (e.op=opE c->K (CV.tup (fC (cZ e) 0)) m f)))))
theorem bkQ:cm 21 c2X:=by
 refine iU func21 ?_;rintro T m h K ⟨s,t,l,r,rfl,C,O,U,E⟩;refine⟨cwQ s t m h,rfl,aE aa aH,Yw s t m h K,ax,?_⟩;dsimp only[Yw,push_cast];have V:=bN.slen C;have W:=C.len;refine⟨λx=>x.1<=x.2/\x.2<=l.length/\(∀(j:Nat) y,j<x.1->l[j]? =some y->eZ y r<0)/\(∀(j:Nat) y,x.2<=j->l[j]? =some y->0<=eZ y r),λx=>x.2-x.1,⟨(0,l.length),⟨ay,ay,λj y g=>by simp at g,λj y g n=>bg⟩,bg⟩,?_⟩;rintro⟨c,d⟩ ⟨X,P,Q,R⟩;dsimp only at X P Q R⊢
 have S:∀{i j:Nat}{x y},l[i]? =some x->l[j]? =some y->i<j->eZ x y<0:=fun{i j x y} Y n F=>by
  obtain⟨G,rfl⟩:=List.getElem?_eq_some_iff.1 Y;obtain⟨H,rfl⟩:=List.getElem?_eq_some_iff.1 n;exact pairwise_iff_getElem.1 U i j G H F
 refine aF (λZ=>?_) (λa'=>?_)
 .have e1:IntKind.i64.wrap ((d:Int)-(c:Int))=((d-c:Nat):Int):=by
   rw[show(d:Int)-(c:Int)=((d-c:Nat):Int)by omega];exact fG aC aC
  have A:(((d-c:Nat):Int)).tdiv 2=(((d-c)/2:Nat):Int):=by
   grind
  have e3:IntKind.i64.wrap ((((d-c)/2:Nat):Int))=(((d-c)/2:Nat):Int):=fG aC aC
  have e4:IntKind.i64.wrap ((c:Int)+(((d-c)/2:Nat):Int))=((c+(d-c)/2:Nat):Int):=by
   rw[show(c:Int)+(((d-c)/2:Nat):Int)=((c+(d-c)/2:Nat):Int)by omega];exact fG aC aC
  rw[e1,A,e3,e4];generalize D:c+(d-c)/2=k;have I:c<=k:=by omega
  have a0:k<d:=by omega
  rw[iY aC];have f:k<l.length:=by omega
  obtain⟨b,o,u,J,rd,L⟩:=bN.at C (bn f);refine⟨az,b,o,J,aC,aC,u,.imm rd,u,t,l[k],r,rfl,L,O,aF (λz=>?_) (λz=>?_)⟩
  .refine⟨(k+1,d),⟨aC,P,λj y g n=>?_,R⟩,aC,MT⟩;by_cases M:j=k
   .grind
   .exact GW (S n (bn f) aC) z
  .refine⟨(c,k),⟨I,aC,Q,λj y g n=>?_⟩,aC,MT⟩;by_cases M:j=k
   .grind
   .have h6:=S (bn f) n aC;refine Int.not_lt.1 λh7=>?_;exact z (GW h6 h7)
 .have e:c=d:=by omega
  subst e;refine aF (λz=>?_) (λz=>?_)
  .have B:c<l.length:=by omega
   obtain⟨b,o,u,J,rd,L⟩:=bN.at C (bn B);refine⟨b,o,J,aC,z,u,.imm rd,u,t,l[c],r,rfl,L,O,?_⟩
   have A:(eZ l[c] r==0)=JF l r:=by
    rw[Bool.eq_iff_iff,beq_iff_eq,Ei,lH];refine⟨λe=>e▸getElem_mem B,λD=>?_⟩;obtain⟨j,g⟩:=getElem?_of_mem D;have hz:eZ r r=0:=lH.2 rfl
    grind
   rw[A];exact E
  .have A:JF l r=false:=by
    rw[PY];intro D;obtain⟨j,g⟩:=getElem?_of_mem D;have hz:eZ r r=0:=lH.2 rfl
    grind
   rw[A]at E;exact E
theorem aw:cm 56 c1J:=by
 refine iU func56 ?_;rintro c m h K ⟨n,rfl,d⟩;refine⟨dJ [] [] [] [] false,rfl,aH,av n m h K,ax,?_⟩;exact d
theorem aNZ:∀N,cm 68 (c3X N)
 |0=>by
  refine fP (fn:=Tryz.f68) (c:=dY Tryz.f68) func68 rfl az ?_;rintro V m h K ⟨v,q,s,rfl,_,hN,_⟩;omega
 |N+1=>by
  refine iU func68 ?_;rintro V m h K ⟨v,q,s,rfl,hq,hN,hk,hK⟩;refine⟨cpZ N v m,rfl,aE TE (aE (aNZ N) (aE Ty (aE M9 (aE Tx aH)))),X0 N v m h K,ax,?_⟩;dsimp only[X0,push_cast];have d:=@Dp q;obtain⟨op,ta,w,co,on,gr,od,li,args⟩:=q;simp only[Query.args]at d;have x:=hq.parts;have W:=x.args_.slen;have a1:=x.args_.len;obtain⟨G,a2,_⟩:=lU hk;have C:=x.op_;refine⟨v.op,rfl,aD (λS=>?_) (λS=>⟨λz=>PH.le h z.2.2.2/\fO z.2.2.2 w z.1/\Ints z.2.2.2 z.2.1 co/\jD z.2.2.2 z.2.2.1 on,?_,?_⟩)⟩
  .rw[C]at S;have X:=Vu S
   obtain⟨a,f,rfl⟩:∃a f,args=a::f:=by
    cases args with
    |nil=>
     exfalso;have:(1:Int)<=arity op:=by rcases X with rfl|rfl|rfl<;>decide
     grind
    |cons a f=>grind
   obtain⟨b,o,u,e,r,Y⟩:=x.args_.at (i:=0) (x:=a) rfl;have Z:=d (q:=a) ay
   exact⟨b,o,e,aC,bg,u,.imm (bk r),u,a,s,rfl,Y,aC,G a ay,λv' h' le H X=>by
    have e:eC (.mk op ta w co on gr od li (a::f))=eC a:=by rw[eC,if_pos S,G9];rfl
    exact hK v' h' le bg (by rw[opE,e];exact X)⟩
  .repeat' (first
    |(refine⟨v.where_,w,rfl,x.where_,λv1 h1 D r1=>?_⟩)
    |(refine⟨v.columns,co,rfl,x.columns_.mono D,λT h2 E r2=>?_⟩)
    |(refine⟨v.on,on,rfl,x.on_.mono (D.trans E),λU I F r3=>?_⟩)
    |(exact⟨(v1,T,U,I),⟨(D.trans E).trans F,r1.mono (E.trans F),r2.mono F,r3⟩,MT⟩)
    |apply And.intro)
  .rintro⟨w',T,U,hx⟩ ⟨J,L,M,O⟩;dsimp only at J L M O⊢
   refine⟨λz=>z.1<=args.length/\z.2.1.length=z.1/\z.2.2.1=w'/\z.2.2.2.1=T/\z.2.2.2.2.1=U/\PH.le hx z.2.2.2.2.2/\QsU z.2.2.2.2.2 z.2.1 ((args.take z.1).map eC),λz=>args.length-z.1,⟨(0,[],w',T,U,hx),⟨aC,rfl,rfl,rfl,rfl,.refl _,⟨rfl,λi q e=>by simp at e⟩⟩,MT⟩,?_⟩;rintro⟨i,us,w2,t2,t3,hy⟩ ⟨hi,P,e1,e2,e3,g,j⟩;dsimp only at hi P e1 e2 e3 g j⊢
   subst e1 e2 e3;have A:=J.trans g;have n:G5 op=false:=bg
   have B:eC (.mk op ta w co on gr od li args)= .mk op ta w co on gr od li (args.map eC):=by rw[eC,if_neg (by simp[n]),Fq]
   refine aF (λQ=>?_) (λa3 s4 h' le a'=>hK ⟨v.op,v.table,w2,t2,t3,cH,cH,0,s4⟩ h' (A.trans le) ?_ (by rw[opE,B];exact C))
   rotate_left
   .rw[B];rw[bt aC]at j
    have a0:gr=[]/\od=[]/\li=0:=by
     obtain⟨_,_,a,b,_,_,I⟩:=lU hk;unfold eT at I;by_cases c0:arity op<0\/¬cV (.mk op ta w co on gr od li args)
     .rw[if_pos c0]at I;simp[eF]at I
     .rw[not_or]at c0;obtain⟨_,_,_,_,u5⟩:cV (.mk op ta w co on gr od li args):=Classical.not_not.1 c0.2;rcases u5 with e|e|e
      .rw[e]at n;cases n
      .rw[e]at n;cases n
      .exact e
    obtain⟨rfl,rfl,rfl⟩:=a0;have lx:=g.trans le;exact uH.rep ⟨C,x.table_,L.mono lx,M.mono lx,O.mono lx,nG h',vK h',rfl,⟨⟨us,a',j.len.symm,(j.mono le).at_⟩,bg⟩⟩
   obtain⟨q,y⟩:=fF W Q;have R:=bo y;obtain⟨b,o,u,e,r,Y⟩:=(x.args_.mono A).at y;have Z:=d R;have a4:=(bm y);exact⟨b,o,e,aC,Q,u,.imm r,u,q,s,rfl,Y,aC,G q R,λv' h' le H _=>⟨bg,bg,(i+1,us++[v'],w2,t2,t3,h'),⟨aC,by simp[P],rfl,rfl,rfl,g.trans le,by dsimp only;rw[cd,y,Option.toList_some,bu];exact(j.mono le).snoc H⟩,aC,by rw[bu];exact MT⟩⟩
theorem beZ:cm 68 c3Z:=mV aNZ λ_ _ _ _⟨v,q,s,e,c,d,f⟩=>⟨SizeOf.sizeOf q+1,v,q,s,e,c,aC,d,f⟩
theorem cUZ{q}(j:iK h s sc)(f:dK h q v)(g:(gH s [] q).2=0)(n:∀c h',PH.le h h'->dK h' (eC q) c->c.op=opE q->K (.tup [aQ c,cI 0]) m h'):Yl sc v m h K:=
 ⟨sc,cH,v,s,[],q,rfl,j,Xy h,f,(BP g).2.2.1,λ_ y d _=>aD (λe=>bg) (λ_=>⟨v,q,s,rfl,f.mono d,(Om g).1,λc h' le o u=>n c h' (d.trans le) o u⟩)⟩
theorem bhJ:cm 29 aYQ:=by
 refine iU func29 ?_;rintro c m h K ⟨sc,v,s,q,rfl,d,e,f,g⟩;refine⟨dJ [(37,B0),(68,c3Z)] [] [] [] false,rfl,aE GQ (aE beZ aH),Yl sc v m h K,ax,?_⟩;exact cUZ d e f g
theorem Xc{q B}(c:eK s=0)(g:fR s q)(E:oD q<=24)(F:gP 4 q<=B)(n:B*60<=8000000):
 AG s [] [] (lX s q) (mU (qX s) q (eC q))/\(lX s q).1.length<=200/\(lX s q).2.length<=24/\Jt (fX s q []).1/\lE (fX s q []).1=oD q:=by
 have o:=WW c;obtain⟨u,_,d,e⟩:=WG o q [] g (EW.nil s) bf;obtain⟨y,f⟩:=byQ _ d;rw[e]at f;have j:=d.get;rw[e]at j;obtain⟨_,z,_,A,_,_,_⟩:=j;have ev:=Am q g;have C:=DQ s q [];simp only[length_nil,Nat.zero_add]at C;have G:2*B*lE (fX s q []).1<=2*B*24:=Nat.mul_le_mul_left _ aC;have H:=iS (fX s q []).1 ((fX s q []).1.env:Int) (fX s q []).2 [];have D:=xA c (fX s q []).1 B (2*B) B (fX s q []).1.env (fX s q []).2 [] d u z bg bg (Nat.le_refl _) bg aC aC;rw[e,A]at D;refine⟨D.shift (nil_prefix),?_,?_,y,f⟩
 .show(gM _ _ _ _).1.length<=200;omega
 .show(gM _ _ _ _).2.length<=24
  grind
structure OY(s:jP)(q:Query):Prop where
 ok:Wp s q
 valid:jE s (lX s q).1 (lX s q).2=0
 run:∀st,jG s st=0->StV st->(∀l∈st,l.length<=4)->Js s st (lX s q).1/\(∀l∈oZ st (lX s q).1,l.length<=8000000/\∀r∈l,r.length<=1000)/\MK st (lX s q)=(mU (qX s) q (eC q)).map (eA st)
theorem Te{s q B}(e:eK s=0)(g:fR s q)(E:oD q<=24)(F:gP 4 q<=B)(j:B*60<=8000000):OY s q:=by
 obtain⟨D,L,M,G,O⟩:=Xc e g E F j;obtain⟨P,o,H,I⟩:=D.ex;rw[nil_append]at o;refine⟨λh=>⟨a1J h,G,aC,aC⟩,Xb D.inv e aC aC λr u=>?_,λy n J z=>?_⟩
 .grind
 .have f:∀i,i<(lX s q).1.length->iL (aK s [] (aU (lX s q).1 i)).1.length (eA y (aU (lX s q).1 i))/\(eA y (aU (lX s q).1 i)).length<=8000000:=λi c=>by
   have x:=Ex n J z aC (D.inv.good i c).k (D.inv.good i c).bnd
   grind
  refine⟨⟨D.inv.ar,D.inv.fit,λi c=>(D.inv.good i c).kinds,4,aC,z,λi c=>(D.inv.good i c).bnd⟩,λl A=>?_,?_⟩
  .unfold oZ at A;obtain⟨i,c,rfl⟩:=mem_map.1 A;have c:i<(lX s q).1.length:=bg
   refine⟨(f i c).2,λr u=>?_⟩;have Q:=(f i c).1.wid r u;have R:=lV s [] (aU (lX s q).1 i);omega
  .unfold MK;rw[o, <-I,map_map,map_map];refine map_congr_left λd C=>?_;have C:=H d C;simp only[Function.comp,Int.toNat_natCast,oZ]
   grind
theorem mI{st a b on x}:x∈eA st (mH a b on)↔x∈eA st a/\((eA st b).any λy=>agree on x y)=true:=by
 simp only[mH,eA,Au,Fb,show((5:Int)=1)=False by simp,show((5:Int)=2)=False by simp,show((5:Int)=3)=False by simp,show((5:Int)=4)=False by simp,if_false,if_true,SY]
 grind
theorem jL{st a b x}:x∈eA st (kB a b)↔x∈eA st a/\x∈eA st b:=by
 simp only[kB,eA,Au,Fb,show((8:Int)=1)=False by simp,show((8:Int)=2)=False by simp,show((8:Int)=3)=False by simp,show((8:Int)=4)=False by simp,show((8:Int)=5)=False by simp,show((8:Int)=6)=False by simp,show((8:Int)=7)=False by simp,if_false,if_true,Rf];rw[mem_filter];show x∈eA st a/\(JF (eA st b) x==true)=true↔_;rw[beq_iff_eq,Ei]
theorem C4{st a x}:x∈eA st (G6 a co)↔∃r∈eA st a,pick r co=x:=by
 simp only[G6,eA,Au,Fb,show((3:Int)=1)=False by simp,show((3:Int)=2)=False by simp,if_false,if_true,S8];rw[Dk,mem_map];rfl
theorem C5{st a b x}:x∈eA st (DU a b gr od li)↔x∈eA st a/\decide ((((eA st b).countP λy=>uI gr x y&&decide (jR od y x<0):Nat):Int)<li)=true:=by
 simp only[DU,eA,Au,Fb,show((10:Int)=1)=False by simp,show((10:Int)=2)=False by simp,show((10:Int)=3)=False by simp,show((10:Int)=4)=False by simp,show((10:Int)=5)=False by simp,show((10:Int)=6)=False by simp,show((10:Int)=7)=False by simp,show((10:Int)=8)=False by simp,show((10:Int)=9)=False by simp,if_false,Ig,yN]
 grind
def Sa st a b:=∀x∈eA st a,x∈eA st b
theorem Sa.refl{st} a:Sa st a a:=λ_ h=>h
end Go.Ps
