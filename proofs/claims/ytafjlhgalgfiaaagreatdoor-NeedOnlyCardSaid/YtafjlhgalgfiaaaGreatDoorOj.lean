/- Own work. -/
import Derived.Test.YtafjlhgalgfiaaaGreatDoorOi
set_option linter.unusedVariables false
set_option linter.unusedSimpArgs false
namespace Go.Ps
open Go Go.Vc Go.Proofs List Tryz
variable{K:cq}{m:MH}{h:PH}{s:jZ}{ps:cn}{ts:de}{cb:Nat}{sc:bT}{v:QV}{t:Step}{p:Pred}{l:cn}{i:Nat}{N:Nat}{m':MH}{h':PH}{co:cn}{gr:cn}{od:cv}{ta:Int}{li:Int}{xs:List cr}{sz:Nat}{ks:List cn}{rs:cn}{r:Sl}{a:cn}{b:Nat}
def R8:Vc.Spec:=λc m h K=>∃s t d v od a b,c=[cS s,cS t,cP d]/\m d=some (.cells ⟨xA.enc v⟩ 101 (0,0))/\jP h v.order od/\bQ h s a/\bQ h t b/\K (cI (j5 od a b)) m h
def aNQ:Vc.Spec:=λd m h K=>∃(s:Sl)(e:Nat)(v:xA)(od:cv)(w:Nat)(ps:dl),d=[cS s,.val (.func (.func 165) #[] #[.pointer (some ⟨e,0,none⟩)])]/\m e=some (.cells ⟨xA.enc v⟩ 101 (0,0))/\(∀i,s.a≠some ⟨e,i,none⟩)/\jP h v.order od/\cL m s 65 1 (ps.map λp=>eS p.1)/\(∀p∈ps,bQ h p.1 p.2)/\(∀p∈ps,p.2.length=w)/\ps.length<=140737488355328/\
 ∀(c:dl)(m':MH),c.Perm ps->c.Pairwise (λp q=>¬j5 od q.2 p.2<0)->cL m' s 65 1 (c.map λp=>eS p.1)->(∀b,(∀i,s.a≠some ⟨b,i,none⟩)->m' b=m b)->K (.tup []) m' h
def Y6:Vc.Spec:=λc m h K=>∃v s gr od l w,c=[aT v,cS s]/\Ints h v.group gr/\jP h v.order od/\Rows h s l/\iV w l/\jY w gr/\eK m/\
 ∀y d e f g,m y=none->(∀b,b≠y->d b=m b)->PH.le h e->sF rE d e y gr od l f g->K (.val (.map (some y))) d e
noncomputable def bQJ s:=qD [(100,UL),(135,aNQ)] [(3,{A:=Nat×Nat×Nat×MH×PH,st:=λ⟨b,y,i,m,h⟩=>bY 41 43 [(2,pv b),(5,vv (.map (some y))),(12,sv s),(13,iv s.len),(14,iv i)] [] m h}),
 (9,{A:=Nat×Nat×Nat×MH×PH,st:=λ⟨b,y,r,m,h⟩=>bY 41 43 [(2,pv b),(5,vv (.map (some y))),(32,pv r)] [] m h})] [] [] [200002,1058,400000,0] [] false
def bhZ(s t:Sl)(d:Nat)(m:MH)(h:PH)(K:cq):=
  xP m h d 18 (λy o=>rC (λe f=>∃(c:cv),KV y s t o e f h c (λa b=>K (jA (j5 c a b)) m h)))
abbrev iZ a b:=Value.string (rE (pick a b))
abbrev KS(a:MH)(b:Nat×Nat×Nat×MH×PH)(c:da)(d:MH->(Nat×Nat×Nat×MH×PH)->Prop):=∀(x:MH),bH (kD a x (fZ b)) (pV x (fZ b) c) (∃(e:Nat×Nat×Nat×MH×PH),d x e)
attribute [push_cast] iZ KS
def Nv(v:xA)(s:Sl)(m:MH)(h:PH)(K:cq):=
  ∀(b:Nat)(J:MH),bH (cW m h b) (bJ m J b v.enc 101) (xN J h (λP Q=>Pp (λI x=>aA (I x) (cA b x.1) (aA (kZ P (fZ x)) (aI s) (aA (bI s) (bA (fY x)) (aA (bO Q (fQ x)) (cF h (fQ x)) True)))) (λI n x=>I x->aY (↑(fY x):Int) (aG s) (bK (λD o=>aA (aR s.a D o) (0<=(↑(fY x):Int)) ((↑(fY x):Int)<aG s/\∃(y:Sl),aK (lU x) (j9 x) D (bL o (fY x) 1) (aL y)/\∃(L:Sl),aK (lU x) (j9 x) x.1 17 (aL L)/\∃(u:Sl),AL (λt r c=>aA (cD y L=cD u t) (bQ (j9 x) u r) (aA (Ints (j9 x) t c) (OS r) (aA (AK r c) (eK (lU x)) (sX (lU x) (fZ x) (λO=>O (iZ r c)) (iZ r c) (∃(e:List cr),FM (lU x) e y (λB f=>rK f (fZ x)
 (λO=>O (iZ r c)) (iZ r c) (λk=>KS f x (iK k (iZ r c) (dW B) []) (λg d=>aA (I d) (n d<n x) (aA (cA x.1 d.1) (kZ (fZ x) (fZ d)) (aA (aI s) (bI s) (aA (iH (bE (fY x) 1)=bP (fY d)) (bO g (fQ d)) (kY (eO (fQ x) (fQ d)))))))) (λl C z=>iK l (iZ r c) C z) (λl z=>KS f x (iK l (iZ r c) (dW B) z) (λg d=>aA (I d) (n d<n x) (aA (cA x.1 d.1) (kZ (fZ x) (fZ d)) (aA (aI s) (bI s) (aA (iH (bE (fY x) 1)=bP (fY d)) (bO g (fQ d)) (kY (eO (fQ x) (fQ d)))))))))) (λM=>∃(e:List cr),aA (cL (lU x) (dL M) 65 1 e) (lL e) (eA e/\jW (λB f=>gK (lU x) f (dL M) B 65 1 (dP e (aL y))->rK f
 (fZ x) (λO=>O (iZ r c)) (iZ r c) (λk=>KS f x (iK k (iZ r c) (dW B) []) (λg d=>aA (I d) (n d<n x) (aA (cA x.1 d.1) (kZ (fZ x) (fZ d)) (aA (aI s) (bI s) (aA (iH (bE (fY x) 1)=bP (fY d)) (bO g (fQ d)) (kY (eO (fQ x) (fQ d)))))))) (λl C z=>iK l (iZ r c) C z) (λl z=>KS f x (iK l (iZ r c) (dW B) z) (λg d=>aA (I d) (n d<n x) (aA (cA x.1 d.1) (kZ (fZ x) (fZ d)) (aA (aI s) (bI s) (aA (iH (bE (fY x) 1)=bP (fY d)) (bO g (fQ d)) (kY (eO (fQ x) (fQ d)))))))))))))))))) (KX (lU x) (fZ x) (j9 x) (λr f=>Pp (λI1 e=>aA (I1 e) (cA x.1 e.1) (aA (kZ (fZ x) (fZ e)) (cA r (fY e)) (aA (bO f
 (fQ e)) (eO (fQ x) (fQ e)) True))) (λI1 g e=>KW (I1 e) (lU e) (fY e) (K (CV.val (Dj (fZ e))) (lU e) (j9 e)) (λE=>Lt (λD k l d=>Ej E D (fY e) k l d/\∃(u:Sl)(F:Nat)(C:xA)(o:cv)(w:Nat)(p:dl),aA (tN (CV.val d.2) (mV 165 (B5 e.1))=gO u (mV 165 (B5 F))) (E F=Option.some (fA (Array.mk C.enc) 101 0)) (aA (∀(i:Nat),mW (aR u.a F i)) (jP (j9 e) C.order o) (aA (FL E u p) (∀(j:Sl×cz),List.Mem j p->bQ (j9 e) j.1 j.2) (aA (∀(j:Sl×cz),List.Mem j p->j.2.length=w) (oK p.length) (∀(j:dl)(G:MH),bH (List.Perm j p) (List.Pairwise (fun(R:Sl×cz)=>fun(q:Sl×cz)=>¬(j5 o q.2 R.2<0)) j) (bH
 (FL G u j) (∀(H:Nat),(∀(i:Nat),mW (aR u.a H i))->G H=E H) (∃(A:Nat×Nat×Nat×MH×PH),aA (I1 A) (g A<g e) (aA (cA e.1 A.1) (kZ (fZ e) (fZ A)) (aA (cA (fY e) (fY A)) (bO G (fQ A)) (eO (fQ e) (fQ A)/\True)))))))))))))))))
theorem aiZ:cm 165 R8:=by
 refine jC func165 ?_;rintro c m h K ⟨s,t,d,v,od,a,b,rfl,e,f,g,j,n⟩;refine⟨qD [(110,HR)] [] [] [] [0] [] false,rfl,aE GG aH,bhZ s t d m h K,ax,?_⟩;exact⟨v.order,.of_m e rfl,v.order,s,t,od,a,b,rfl,f,g,j,n⟩
theorem Yl:cm 135 aNQ:=by
 refine⟨⟨Tryz.f135,func135,rfl,az⟩,?_⟩;rintro j f m h w K ⟨s,c,v,od,n,ps,rfl,I,u,z,A,B,C,D,E⟩ d
 obtain⟨F,e,rfl⟩:∃v e,f=[v,e]:=by
  have:=(rH d.args).1
  match f,this with
  |[v,e],_=>grind
 have G:F=s.val:=d.args.1;have H:e= .func (.func 165) #[] #[.pointer (some ⟨c,0,none⟩)]:=d.args.2.1;subst G H;refine Mk (R:=λl=>l.length=n) (g:=165) (cb:=[.pointer (some ⟨c,0,none⟩)]) (m2:=λb=>if b=c then m c else none) (cf:=j5 od) rfl d ⟨Tryz.f165,func165,rfl,az⟩ A B C D (YE od) ⟨R8,aiZ,λx y=>⟨x.s,y.s,c,v,od,x.l,y.l,rfl,bg,z,x.ok,y.ok,rfl,rfl,rfl⟩⟩ (λb o J=>?_) E
 grind
theorem nU.appV{m0 y kk us key s e}{Q:MH->Prop}(g:nU m0 m y kk us)(A:∃o,m0 y=some o)(E:(us key).length<=502633886983)(B:∀m' f,nU m0 m' y f (OJ us key e)->Q m')(n:Dz kk key s):
 ∃xs:List cr,cL m (Sl.mk s.a s.len s.cap) 65 1 xs/\(xs.length+1)*24<=140737488355328/\xs.length<140737488355328/\∀(j:Sl)(d:MH),gK m d (Sl.mk s.a s.len s.cap) j 65 1 (xs++[[dW e]])->
 ∃(c:da)(Ok:Value->Prop),pV d y c/\KeyLaw Tryz.prog 9 Ok/\Ok (.string key)/\Instr.sameBits 10000 (Value.string key) (Value.string key)=true/\(∀e,List.Mem e c->Ok e.1)/\((∀e,List.Mem e c->e.1=Value.string key->False)->∀m':MH,kD d m' y->pV m' y (c++[(Value.string key,dW j)])->Q m')/\
  ∀(u:da)(C:Value)(z:da),c=u++(Value.string key,C)::z->∀m':MH,kD d m' y->pV m' y (u++(Value.string key,dW j)::z)->Q m':=
 ⟨_,(n.row g).1,bf,bf,λ_ _ D=>g.put A n D B⟩
theorem arQ:cm 106 Y6:=by
 refine Sn func106 ?_;rintro b9 m h K ⟨v,s,gr,od,l,w,rfl,a7,a8,Z,c,H,hT,hK⟩;refine⟨bQJ s,rfl,aE Dq (aE Yl aH),Nv v s m h (cR h K),ax,?_⟩;show Nv v s m h (cR h K);dsimp only[Nv,push_cast];intro bq m1 a' B y I J C;obtain⟨s1,nq⟩:=jB (Sub.refl m) a' B;obtain⟨s2,ny⟩:=jB s1 J C;have D:bq≠y:=λe=>by have:=J.m_;rw[<-e,B.at_]at this;cases this
 have L:I bq=some (.cells ⟨xA.enc v⟩ 101 (0,0)):=by rw[C.other bq D];exact B.at_
 have n:I y=some (.map #[] 0):=C.at_;have a9:=bM.slen Z;have b':=c.len;clear B C a' J s1;have a0:∀{E kk us},nU I E y kk us->Sub m E:=λg z o j=>g.old z o (s2 z o j) (λF=>bg);refine⟨λx=>x.1=bq/\x.2.1=y/\x.2.2.1<=l.length/\x.2.2.2.2=h/\NM I x.2.2.2.1 h y (mQ rE gr (l.take x.2.2.1)),λx=>l.length-x.2.2.1,⟨(bq,y,0,I,h),⟨rfl,rfl,Nat.zero_le _,rfl,⟨[],_,nU.new n,λk=>by simpa[mQ]using fE.nil h⟩⟩,MT⟩,?_⟩;rintro⟨M,O,i,E,P⟩ ⟨Q,j,hi,F,⟨kk,uk,g,hg⟩⟩;dsimp only at Q j hi F g hg⊢
 subst Q j F;refine aF (λb0=>?_) (λc'=>?_)
 .obtain⟨r,hr⟩:=fK a9 b0;obtain⟨b,o,u,ea,rd,hv⟩:=bM.at Z hr;have a1:=bo hr;have rq:aK E P M 17 [dW v.group]:=.of_m (g.old M _ L D) rfl
  have hl:(uk (rE (pick r gr))).length<=502633886983:=by
   have h5:=(hg (rE (pick r gr))).len;have h6:(mQ rE gr (l.take i) (rE (pick r gr))).length<=(l.take i).length:=length_filter_le _ _
   grind
  rw[jK aC];have nx:∀(m':MH)(d:dt),nU I m' O d (OJ uk (rE (pick r gr)) u)->NM I m' P O (mQ rE gr (l.take (i+1))):=λm' d g'=>NM.upd g' hg hv (by rw[mQ,jS _ hr,if_pos ay];rfl) (λk2 c0=>by rw[mQ,jS _ hr,if_neg bg,append_nil];rfl);exact⟨b,o,ea,aC,aC,u,.imm rd,v.group,rq,u,v.group,r,gr,rfl,hv,a7,c.row r a1,by rw[c.wid r a1];exact H,hT.sub (a0 g),g.get2 (λZ=>g.appV ⟨_,n⟩ hl (λm' d g'=>⟨(M,O,i+1,m',P),⟨rfl,rfl,bg,rfl,nx m' d g'⟩,bg,MT⟩) Z) (λs Z=>g.appV ⟨_,n⟩ hl (λm' d g'=>⟨(M,O,i+1,m',P),⟨rfl,rfl,bg,rfl,nx m' d g'⟩,bg,MT⟩) Z)⟩
 .rw[bt aC]at hg;have mq:=g.old M _ L D;refine⟨_,g.map_,λr m5 b3 b4 it=>?_⟩;have b5:E r=none:=b3.m_
  have a2:∀{z o},E z=some o->m5 z=E z/\z≠r:=fun{z o} j=>by
   have:z≠r:=λF=>bg
   exact⟨b4.other z this,this⟩
  have R:∀p∈kk,∀x i,p.2.a=some ⟨x,i,none⟩->∃o,E x=some o:=λp hp x i j=>⟨_,((g.row p hp).blk j).choose_spec⟩
  refine⟨λz=>z.1=M/\z.2.1=O/\z.2.2.1=r/\z.2.2.2.2=P/\(∀b o,E b=some o->(∀p∈kk,∀i,p.2.a≠some ⟨b,i,none⟩)->z.2.2.2.1 b=some o)/\∃left,mR z.2.2.2.1 O r (kk.map λp=>(Value.string p.1,dW p.2)) left/\∀p∈kk,b5J z.2.2.2.1 P od p (mQ rE gr l) ((Value.string p.1,dW p.2)∉left),λz=>leftOf z.2.2.2.1 z.2.2.1,⟨(M,O,r,m5,P),⟨rfl,rfl,rfl,rfl,λb o e _=>(a2 e).1.trans e,_,it,λp hp=>?_⟩,MT⟩,?_⟩
  .obtain⟨ps,Q,j,F⟩:=cAZ (hg p.1);refine⟨ps,?_,F,by rw[j],λhn=>(hn (mem_map_of_mem (f:=λp:ByteArray×Sl=>(Value.string p.1,dW p.2)) hp)).elim⟩;have e5:(ps.map λq=>eS q.1)=(uk p.1).map eS:=by rw[<-Q,map_map];rfl
   rw[e5];exact cL.keep (g.row p hp) λb i e=>(a2 (R p hp b i e).choose_spec).1
  .rintro⟨c1,c2,c3,mz,hz⟩ ⟨Q,j,F,e4,S,left,G,A⟩;dsimp only at Q j F e4 S G A⊢
   subst Q j F e4;refine⟨c2,_,left,G,λT=>?_,λl1 x l2 b6 m6 b7 a3=>?_⟩
   .subst T;exact Ot s2 ny n g hg (.refl _) b' S G A hK
   .obtain⟨p0,ps,rfl,a4,a5,hv,hw,c4,U⟩:=Oq (m4y:=n) g c b5 S G A b6 b7 a3;have hb:=a4 c1 _ L D;refine⟨c2,_,_,_,a3,p0.2,c1,v,od,w,ps,rfl,hb.1,hb.2,a8,a5,hv,hw,aC,λb8 m7 V W X a6=>?_⟩;obtain⟨k1,⟨Y,k2,k3⟩,k4⟩:=U b8 m7 V W X a6;exact⟨(c1,c2,c3,m7,hz),⟨rfl,rfl,rfl,rfl,k1,Y,k2,k3⟩,k4,rfl,rfl,rfl,rfl,rfl,trivial⟩
def b4X:Vc.Spec:=λe m h K=>∃v on f g c d,e=[aT v,cS f,cS g]/\jD h v.on on/\Rows h f c/\Rows h g d/\eK m/\ccZ on [c,d]/\c.length*d.length<=8000000/\∀j h',PH.le h h'->Rows h' j (c.flatMap (kQ on d))->K (cS j) m h'
noncomputable def cfJ:=qD [(99,NI),(100,UL),(160,Md),(161,Sc)] [(4,{A:=Nat×Nat×Sl×Sl×Sl×Sl×MH×PH,st:=λ⟨i,y,l,a,b,r,m,h⟩=>bY 76 79 [(1,sv l),(7,sv a),(8,sv b),(9,vv (.map (some y))),(25,sv r),(26,iv r.len),(27,iv i)] [] m h}),
 (12,{A:=Nat×Nat×Sl×Sl×cw×MH×PH,st:=λ⟨i,y,l,a,c,m,h⟩=>bY 76 79 [(7,sv a),(9,vv (.map (some y))),(13,.at (.lst 72)),(46,sv l),(47,iv l.len),(48,iv i)] [(72,.lst 65 1 (c.map eS))] m h}),
 (16,{A:=Nat×Nat×Nat×Sl×Sl×Sl×Sl×cw×MH×PH,st:=λ⟨j,i,y,l,a,e,g,c,m,h⟩=>bY 76 79 [(7,sv a),(9,vv (.map (some y))),(13,.at (.lst 72)),(15,sv e),(46,sv l),(47,iv l.len),(48,iv i),(60,sv g),(61,iv g.len),(62,iv j)] [(72,.lst 65 1 (c.map eS))] m h})] [] [] [1058,400000,0] [] false
abbrev uO(a:Nat×Nat×Sl×Sl×Sl×Sl×MH×PH):=a.2.2.1
abbrev wA(a:Nat×Nat×Sl×Sl×Sl×Sl×MH×PH):=a.2.2.2.1
abbrev kG(a:Nat×Nat×Sl×Sl×Sl×Sl×MH×PH):=a.2.2.2.2
abbrev tV(a:Nat×Nat×Sl×Sl×Sl×Sl×MH×PH):=a.2.1
abbrev nK a:=fF (kG a)
abbrev KT(a:MH)(b:Nat×Nat×Sl×Sl×Sl×Sl×MH×PH)(c:da)(d:MH->(Nat×Nat×Sl×Sl×Sl×Sl×MH×PH)->Prop):=∀(x:MH),bH (kD a x (tV b)) (pV x (tV b) c) (∃(e:Nat×Nat×Sl×Sl×Sl×Sl×MH×PH),d x e)
abbrev Is a b c:=aA (iH (bE a.1 1)=bP b.1) (bO c (iW (kG b))) (cF (dD (kG a)) (iW (kG b))/\True)
abbrev Bk(a:Nat×Nat×Sl×Sl×cw×MH×PH):=a.2.2.2.1
abbrev pR(a:Nat×Nat×Sl×Sl×cw×MH×PH):=a.2.2.1
abbrev mI(a:Sl×Sl×cw×MH×PH):=a.2.2.1
abbrev D3(a:Nat×Nat×Sl×Sl×cw×MH×PH):=mI a.2.2
abbrev oE(a:Nat×Nat×Sl×Sl×cw×MH×PH):=a.2.2.2.2.2
abbrev CB(a:Nat×Nat×Nat×Sl×Sl×Sl×Sl×cw×MH×PH):=a.2.2.2.2.1
abbrev CC(a:Nat×Nat×Nat×Sl×Sl×Sl×Sl×cw×MH×PH):=a.2.2.1
abbrev pL(a:Nat×Nat×Nat×Sl×Sl×Sl×Sl×cw×MH×PH):=a.2.2.2.2.2
abbrev qR(a:Nat×Nat×Nat×Sl×Sl×Sl×Sl×cw×MH×PH):=a.2.2.2.1
abbrev oV a:=(pL a).2.1
abbrev nG a:=(pL a).2.2.2
attribute [push_cast] uO wA kG tV nK KT Is Bk pR mI D3 oE CB CC pL qR oV nG
def Q8(v:xA)(T R:Sl)(m:MH)(h:PH)(K:cq):=
  Dl (λs o=>aA (eY (nW v.on) (nW s)) (jD h s o) (∀(a b:Sl)(D:PH),bS h D (Ints D a (jG o)) (Ints D b (eG o)->xN m D (λU V=>∃(I:Nat×Nat×Sl×Sl×Sl×Sl×MH×PH->Prop)(z:Nat×Nat×Sl×Sl×Sl×Sl×MH×PH->Nat),(∃(x:Nat×Nat×Sl×Sl×Sl×Sl×MH×PH),aA (I x) (aW T (uO x)) (aA (aW a (wA x)) (aW b (kG x).1) (aA (kZ U (tV x)) (aW R (nK x)) (aA (bN R (nK x)) (bA x.1) (aA (bO V (iW (kG x))) (cF D (iW (kG x))) True)))))/\∀(x:Nat×Nat×Sl×Sl×Sl×Sl×MH×PH),I x->aY (↑x.1:Int) (aG (nK x)) (bK (λE F=>aA (aR (nK x).a E F) (0<=(↑x.1:Int)) ((↑x.1:Int)<aG (nK x)/\∃(y:Sl),aK (fM (kG x)) (dD (kG x)) E (bL F x.1 1) (aL y)/\∃(G:Sl),
 AL (λt r c=>aA (cD y (kG x).1=cD G t) (bQ (dD (kG x)) G r) (aA (Ints (dD (kG x)) t c) (AK r c) (branch (Lk r c) (∃(H:Sl),AL (λJ g j=>aA (cD y (kG x).1=cD H J) (bQ (dD (kG x)) H g) (aA (Ints (dD (kG x)) J j) (OS g) (aA (AK g j) (eK (fM (kG x))) (sX (fM (kG x)) (tV x) (λO=>O (iZ g j)) (iZ g j) (∃(e:List cr),FM (fM (kG x)) e y (λA n=>rK n (tV x) (λO=>O (iZ g j)) (iZ g j) (λk=>KT n x (iK k (iZ g j) (dW A) []) (λu d=>aA (I d) (z d<z x) (aA (aW (uO x) (uO d)) (aW (wA x) (wA d)) (aA (tF (kG x) (kG d)) (kZ (tV x) (tV d)) (aA (aW (nK x) (nK d)) (bN (nK
 x) (nK d)) (Is x d u)))))) (λl P C=>iK l (iZ g j) P C) (λl C=>KT n x (iK l (iZ g j) (dW A) C) (λu d=>aA (I d) (z d<z x) (aA (aW (uO x) (uO d)) (aW (wA x) (wA d)) (aA (tF (kG x) (kG d)) (kZ (tV x) (tV d)) (aA (aW (nK x) (nK d)) (bN (nK x) (nK d)) (Is x d u)))))))) (λB=>∃(e:List cr),aA (cL (fM (kG x)) (dL B) 65 1 e) (lL e) (eA e/\jW (λA n=>gK (fM (kG x)) n (dL B) A 65 1 (dP e (aL y))->rK n (tV x) (λO=>O (iZ g j)) (iZ g j) (λk=>KT n x (iK k (iZ g j) (dW A) []) (λu d=>aA (I d) (z d<z x) (aA (aW (uO x) (uO d)) (aW (wA x) (wA d)) (aA (tF
 (kG x) (kG d)) (kZ (tV x) (tV d)) (aA (aW (nK x) (nK d)) (bN (nK x) (nK d)) (Is x d u)))))) (λl P C=>iK l (iZ g j) P C) (λl C=>KT n x (iK l (iZ g j) (dW A) C) (λu d=>aA (I d) (z d<z x) (aA (aW (uO x) (uO d)) (aW (wA x) (wA d)) (aA (tF (kG x) (kG d)) (kZ (tV x) (tV d)) (aA (aW (nK x) (nK d)) (bN (nK x) (nK d)) (Is x d u)))))))))))))) (∃(e:Nat×Nat×Sl×Sl×Sl×Sl×MH×PH),aA (I e) (z e<z x) (aA (aW (uO x) (uO e)) (aW (wA x) (wA e)) (aA (tF (kG x) (kG e)) (kZ (tV x) (tV e)) (aA (aW (nK x) (nK e)) (bN (nK x) (nK e)) (Is x e (fM (kG x))))))))))))) (∃(I1:Nat×Nat×
 Sl×Sl×cw×MH×PH->Prop)(n:Nat×Nat×Sl×Sl×cw×MH×PH->Nat),(∃(e:Nat×Nat×Sl×Sl×cw×MH×PH),aA (I1 e) (aW (wA x) (Bk e)) (aA (kZ (tV x) e.2.1) (eL 72) (aA (aW (uO x) (pR e)) (bN (uO x) (pR e)) (aA (bA e.1) (A4 (D3 e)) (aA (bO (fM (kG x)) (oE e)) (cF (dD (kG x)) (oE e)) True)))))/\∀(e:Nat×Nat×Sl×Sl×cw×MH×PH),I1 e->aY (↑e.1:Int) (aG (pR e)) (bK (λE F=>aA (aR (pR e).a E F) (0<=(↑e.1:Int)) ((↑e.1:Int)<aG (pR e)/\∃(y:Sl),aK (oE e).1 (oE e).2 E (bL F e.1 1) (aL y)/\∃(G:Sl),AL (λt r c=>aA (cD y (Bk e)=cD G t) (bQ (oE e).2 G r) (aA (Ints (oE e).2 t c) (AK r c) (pI
 (Lk r c) (∃(d:Nat×Nat×Sl×Sl×cw×MH×PH),aA (I1 d) (n d<n e) (aA (aW (Bk e) (Bk d)) (kZ e.2.1 d.2.1) (aA (eL 72) (aW (pR e) (pR d)) (aA (bN (pR e) (pR d)) (iH (bE e.1 1)=bP d.1) (aA (tC (D3 e) (D3 d)) (iJ (oE e) (oE d)) (eO (oE e) (oE d)/\True)))))) (∃(H:Sl),AL (λJ g j=>aA (cD y (Bk e)=cD H J) (bQ (oE e).2 H g) (aA (Ints (oE e).2 J j) (OS g) (aA (AK g j) (eK (oE e).1) (sX (oE e).1 e.2.1 (λO=>O (iZ g j)) (iZ g j) (∃(I2:Nat×Nat×Nat×Sl×Sl×Sl×Sl×cw×MH×PH->Prop)(u:Nat×Nat×Nat×Sl×Sl×Sl×Sl×cw×MH×PH->Nat),(∃(d:Nat×Nat×Nat×Sl×Sl×Sl×Sl×cw×MH×PH),aA (I2 d) (aW
 (Bk e) (CB d)) (aA (kZ e.2.1 (CC d)) (eL 72) (aA (aW y (pL d).1) (aW (pR e) (qR d)) (aA (bN (pR e) (qR d)) (cJ e.1 d.2.1) (aA (sQn=sQs (oV d)) (bA (oV d).len) (aA (bA d.1) (tC (D3 e) (mI (pL d))) (aA (iJ (oE e) (nG d)) (eO (oE e) (nG d)) True)))))))/\∀(d:Nat×Nat×Nat×Sl×Sl×Sl×Sl×cw×MH×PH),I2 d->aY (↑d.1:Int) (aG (oV d)) (bK (λL M=>aA (aR (oV d).a L M) (0<=(↑d.1:Int)) ((↑d.1:Int)<aG (oV d)/\∃(B:Sl),aK (nG d).1 (nG d).2 L (bL M d.1 1) (aL B)/\KU (nG d).2 (pL d).1 B (λA Q=>aA (lL (fJ (mI (pL d)))) (eA (fJ (mI (pL d)))) (∃(f:Nat×Nat×Nat×Sl×Sl×Sl×Sl
 ×cw×MH×PH),aA (I2 f) (u f<u d) (aA (aW (CB d) (CB f)) (kZ (CC d) (CC f)) (aA (eL 72) (aW (pL d).1 (pL f).1) (aA (aW (qR d) (qR f)) (bN (qR d) (qR f)) (aA (cJ d.2.1 f.2.1) (aW (oV d) (oV f)) (aA (bN (oV d) (oV f)) (iH (bE d.1 1)=bP f.1) (aA (xO (fJ (mI (pL d))) A (mI (pL f))) (iJ (nG d) (nG f)) (cF Q (nG f)/\True)))))))))))) (∃(f:Nat×Nat×Sl×Sl×cw×MH×PH),aA (I1 f) (n f<n e) (aA (aW (CB d) (Bk f)) (kZ (CC d) f.2.1) (aA (eL 72) (aW (qR d) (pR f)) (aA (bN (qR d) (pR f)) (iH (bE d.2.1 1)=bP f.1) (aA (tC (mI (pL d)) (D3 f)) (iJ (nG d) (oE f))
 (eO (nG d) (oE f)/\True))))))) (λB=>∃(I2:Nat×Nat×Nat×Sl×Sl×Sl×Sl×cw×MH×PH->Prop)(u:Nat×Nat×Nat×Sl×Sl×Sl×Sl×cw×MH×PH->Nat),(∃(d:Nat×Nat×Nat×Sl×Sl×Sl×Sl×cw×MH×PH),aA (I2 d) (aW (Bk e) (CB d)) (aA (kZ e.2.1 (CC d)) (eL 72) (aA (aW y (pL d).1) (aW (pR e) (qR d)) (aA (bN (pR e) (qR d)) (cJ e.1 d.2.1) (aA (aW B (oV d)) (bN B (oV d)) (aA (bA d.1) (tC (D3 e) (mI (pL d))) (aA (iJ (oE e) (nG d)) (eO (oE e) (nG d)) True)))))))/\∀(d:Nat×Nat×Nat×Sl×Sl×Sl×Sl×cw×MH×PH),I2 d->aY (↑d.1:Int) (aG (oV d)) (bK (λL M=>aA (aR (oV d).a L M) (0<=(↑d.1:Int)) ((↑d.1:Int)<
 aG (oV d)/\∃(S:Sl),aK (nG d).1 (nG d).2 L (bL M d.1 1) (aL S)/\KU (nG d).2 (pL d).1 S (λA Q=>aA (lL (fJ (mI (pL d)))) (eA (fJ (mI (pL d)))) (∃(f:Nat×Nat×Nat×Sl×Sl×Sl×Sl×cw×MH×PH),aA (I2 f) (u f<u d) (aA (aW (CB d) (CB f)) (kZ (CC d) (CC f)) (aA (eL 72) (aW (pL d).1 (pL f).1) (aA (aW (qR d) (qR f)) (bN (qR d) (qR f)) (aA (cJ d.2.1 f.2.1) (aW (oV d) (oV f)) (aA (bN (oV d) (oV f)) (iH (bE d.1 1)=bP f.1) (aA (xO (fJ (mI (pL d))) A (mI (pL f))) (iJ (nG d) (nG f)) (cF Q (nG f)/\True)))))))))))) (∃(f:Nat×Nat×Sl×Sl×cw×MH×PH),aA (I1 f) (n f<n
 e) (aA (aW (CB d) (Bk f)) (kZ (CC d) f.2.1) (aA (eL 72) (aW (qR d) (pR f)) (aA (bN (qR d) (pR f)) (iH (bE d.2.1 1)=bP f.1) (aA (tC (mI (pL d)) (D3 f)) (iJ (nG d) (oE f)) (eO (nG d) (oE f)/\True)))))))))))))))))) (vU (oE e).2 (fJ (mI e.2.2)) K (oE e).1))))))
theorem Te:cm 99 NI:=by
 refine jC func99 ?_;rintro c m h K ⟨s,on,rfl,d,e⟩;refine⟨X8 s m h,rfl,aH,IQ s m h K,ax,?_⟩;exact aJZ d e
theorem ajZ:cm 160 Md:=by
 refine jC func160 ?_;rintro d m h K ⟨s,t,r,c,rfl,e,f,g,j⟩;refine⟨X7 s t m h,rfl,aE GD aH,IP s t m h K,ax,?_⟩;exact aJX e f g j
theorem nU.get1{m0 y kk us key K0}{K:Sl->Prop}(g:nU m0 m y kk us)(d:∀s,Dz kk key s->K s)(e:K ⟨none,0,0⟩=K0):
 ∃(c:List (Value×Sl))(Ok:Value->Prop),uX m y (c.map λp=>(p.1,dW p.2))/\KeyLaw Tryz.prog 9 Ok/\Ok (.string key)/\(∀e,List.Mem e c->Ok e.1)/\((∀e,List.Mem e c->e.1=Value.string key->False)->K0)/\∀t,List.Mem (Value.string key,t) c->K t:=g.get2 (λf=>e▸d _ f) d
theorem a2J:cm 98 b4X:=by
 refine Sn func98 ?_;rintro c9 m h K ⟨v,on,s1,s2,D,f,rfl,ho,L,M,hT,c',d',hK⟩;refine⟨cfJ,rfl,aE Te (aE Dq (aE ajZ (aE Rv aH))),Q8 v s1 s2 m h (cR h K),ax,?_⟩;show Q8 v s1 s2 m h (cR h K);dsimp only[Q8,push_cast];obtain⟨-,wa,wb,n,c,c0,a8⟩:=c';have n:iV wa D:=n;have c:iV wb f:=c;have d0:=n.len;have c6:=c.len;refine⟨v.on,on,rfl,ho,λsa sb h1 B O a9 y m2 b' a0=>?_⟩;obtain⟨st,ny⟩:=jB (Sub.refl m) b' a0;have b0:m2 y=some (.map #[] 0):=a0.at_;have U:∀{mx kk us},nU m2 mx y kk us->Sub m mx:=λg z o J=>g.old z o (st z o J) (λP=>bg);clear a0 b';have L:=bM.mono L B (λ_ _ h=>bQ.mono h B);have M:=bM.mono M B (λ_ _ h=>bQ.mono h B);have b1:=bM.slen L;have b2:=bM.slen M;refine⟨λx=>x.1<=f.length/\x.2.1=y/\x.2.2.1=s1/\x.2.2.2.1=sa/\x.2.2.2.2.1=sb/\x.2.2.2.2.2.1=s2/\x.2.2.2.2.2.2.2=h1/\NM m2 x.2.2.2.2.2.2.1 h1 y (under rE (eG on) (f.take x.1)),λx=>f.length-x.1,⟨(0,y,s1,sa,sb,s2,m2,h1),⟨Nat.zero_le _,rfl,rfl,rfl,rfl,rfl,rfl,⟨[],_,nU.new b0,λk=>by simpa[under]using fE.nil h1⟩⟩,MT⟩,?_⟩;rintro⟨i,y',t1,ta,tb,t2,mx,hx⟩ ⟨hi,V,J,P,W,e5,e6,⟨kk,uk,g,hg⟩⟩;dsimp only at hi V J P W e5 e6 g hg⊢
 subst V J P W e5 e6;refine aF (λa1=>?_) (λb3=>?_)
 .obtain⟨r,E⟩:=fK b2 a1;obtain⟨b,o,u,ea,rd,Q⟩:=bM.at M E;have A:=bo E;have C:jY r.length (eG on):=by rw[c.wid r A];exact a8
  rw[jK aC];refine⟨b,o,ea,aC,aC,u,.imm rd,u,tb,r,eG on,rfl,Q,a9,C,aD (λd=>?_) (λd=>?_)⟩
  .have hl:(uk (rE (pick r (eG on)))).length<=502633886983:=by
    have h5:=(hg (rE (pick r (eG on)))).len;have h6:(under rE (eG on) (f.take i) (rE (pick r (eG on)))).length<=(f.take i).length:=length_filter_le _ _
    grind
   exact⟨u,tb,r,eG on,rfl,Q,a9,c.row r A,C,hT.sub (U g),g.get1 (λs hs=>g.appV ⟨_,b0⟩ hl (λm' d1 g'=>⟨(i+1,y',t1,ta,tb,t2,m',hx),⟨aC,rfl,rfl,rfl,rfl,rfl,rfl,NM.upd g' hg Q (by rw[AH E,if_pos];simpa[wP]using d) (λk2 d2=>by rw[AH E,if_neg,append_nil];grind)⟩,aC,MT⟩) hs) rfl⟩
  .refine⟨(i+1,y',t1,ta,tb,t2,mx,hx),⟨aC,rfl,rfl,rfl,rfl,rfl,rfl,⟨kk,uk,g,λk2=>?_⟩⟩,aC,MT⟩;dsimp only;rw[AH E,if_neg,append_nil]
   .exact hg k2
   .simp[wP,d]
 .rw[bt aC]at hg;have gx:∀{X},PH.le hx X->∀key,fE X (uk key) (under rE (eG on) f key):=λle key=>(hg key).mono le;have sx:=U g;refine⟨λx=>x.1<=D.length/\x.2.1=y'/\x.2.2.1=t1/\x.2.2.2.1=ta/\x.2.2.2.2.2.1=mx/\PH.le hx x.2.2.2.2.2.2/\fE x.2.2.2.2.2.2 x.2.2.2.2.1 ((D.take x.1).flatMap (kQ on f)),λx=>D.length-x.1,⟨(0,y',t1,ta,[],mx,hx),⟨Nat.zero_le _,rfl,rfl,rfl,rfl,.refl _,bk (fE.nil hx)⟩,MT⟩,?_⟩;rintro⟨k,y2,a2,F,us,my,hy⟩ ⟨hk,V,J,P,W,le,R⟩;dsimp only at hk V J P W le R⊢
  subst V J P W;refine aF (λa1=>?_) (λb3=>?_)
  .obtain⟨r,E⟩:=fK b1 a1;obtain⟨b,o,u,ea,rd,Q⟩:=bM.at L E;have A:=bo E;have C:jY r.length (jG on):=by rw[n.wid r A];exact c0
   have Q:=bQ.mono Q le;have O:=O.mono le;rw[jK aC];refine⟨b,o,ea,aC,aC,u,.imm (rd.mono le),u,F,r,jG on,rfl,Q,O,C,aD (λd=>?_) (λd=>?_)⟩
   .refine⟨(k+1,y2,a2,F,us,my,hy),⟨aC,rfl,rfl,rfl,rfl,le,?_⟩,aC,MT⟩;have:kQ on f r=[]:=if_neg (by simpa[wP]using d);dsimp only;rw[tK _ E,this,append_nil];exact R
   .have d:(pick r (jG on)).all pW=true:=bg
    have c1:under rE (eG on) f (rE (pick r (jG on)))=f.filter λy=>wP (eG on) y&&agree on r y:=by
     refine filter_congr λz X=>?_;congr 1;have h5:=CX LB (n.row r A) (c.row z X) C (by rw[c.wid z X];exact a8)
     grind
    have a3:kQ on f r=(under rE (eG on) f (rE (pick r (jG on)))).map (r++ ·):=by rw[c1];exact if_pos (by simpa[wP]using d)
    have b4:((D.take k).flatMap (kQ on f)).length+(under rE (eG on) f (rE (pick r (jG on)))).length<=8000000:=by
     have h5:((D.take (k+1)).flatMap (kQ on f)).length<=(D.take (k+1)).length*f.length:=vE λx _=>yW;rw[tK _ E,br,a3,length_map]at h5;have h6:(D.take (k+1)).length*f.length<=D.length*f.length:=Nat.mul_le_mul_right _ bg;omega
    have a4:=gx le (rE (pick r (jG on)));generalize hG:under rE (eG on) f (rE (pick r (jG on)))=G at a3 b4 a4;have c2:=a4.len;refine⟨u,F,r,jG on,rfl,Q,O,n.row r A,C,hT.sub sx,g.get1 (λs hs=>?_) rfl⟩;refine⟨λz=>z.1<=G.length/\z.2.1=k/\z.2.2.1=y2/\z.2.2.2.1=a2/\z.2.2.2.2.1=F/\z.2.2.2.2.2.1=u/\z.2.2.2.2.2.2.1=s/\z.2.2.2.2.2.2.2.2.1=my/\PH.le hy z.2.2.2.2.2.2.2.2.2/\fE z.2.2.2.2.2.2.2.2.2 z.2.2.2.2.2.2.2.1 ((D.take k).flatMap (kQ on f)++(G.take z.1).map (r++ ·)),λz=>G.length-z.1,⟨(0,k,y2,a2,F,u,s,us,my,hy),⟨Nat.zero_le _,rfl,rfl,rfl,rfl,rfl,rfl,rfl,.refl _,bg⟩,MT⟩,?_⟩;rintro⟨j,k',y3,Y,Z,ee,gg,b5,mz,X⟩ ⟨S,V,J,P,W,e5,e6,e7,H,a5⟩;dsimp only at S V J P W e5 e6 e7 H a5⊢
    subst V J P W e5 e6 e7;have a':=(hs.row g).1;have c3:=a'.slen;rw[length_map,c2]at c3;refine aF (λc7=>?_) (λb3=>?_)
    .have b6:j<G.length:=by omega
     obtain⟨w,hw,c4⟩:=a4.at_ j _ (bn b6);obtain⟨b8,e8,d3⟩:=a'.rd (h:=X) (i:=j) (e:=[dW w]) (by rw[getElem?_map,hw];rfl);have b7:=a5.len;simp only[br,length_map,length_take]at b7;rw[jK aC];refine⟨b8,0,e8,aC,aC,w,bg,λc5 h3 T a6=>⟨c5,[r,G[j]],rfl,?_,ay,?_,λsl h4 b9 c8=>⟨bg,bg,(j+1,k',y3,Y,Z,ee,gg,b5++[sl],mz,h4),⟨aC,rfl,rfl,rfl,rfl,rfl,rfl,rfl,H.trans (T.trans b9),?_⟩,aC,?_⟩⟩⟩
     .refine fE.rows (us:=[ee,w]) ?_ a6 ay;refine⟨rfl,λj z S=>?_⟩
      match j,S with
      |0,S=>
       simp at S;subst S;exact⟨ee,rfl,bQ.mono Q (H.trans T)⟩
      |1,S=>
       simp at S;subst S;exact⟨w,rfl,bQ.mono c4 (H.trans T)⟩
     .intro z I;have I:z∈[r,G[j]]:=I;rcases mem_cons.1 I with rfl|I
      .exact(n.row _ A).len
      .have e7:=mem_singleton.1 I
       have:z∈f:=by
        have h9:z∈under rE (eG on) f (rE (pick r (jG on))):=bg
        grind
       exact(c.row _ this).len
     .have e7:(G.take (j+1)).map (r++ ·)=(G.take j).map (r++ ·)++[r++G[j]]:=by rw[cd,bn b6,bu];rfl
      dsimp only;rw[e7, <-append_assoc];exact(a5.mono (T.trans b9)).snoc bg
     .dsimp only;rw[bu];exact MT
    .have:j=G.length:=by omega
     subst this;rw[jK aC];refine⟨(k'+1,y3,Y,Z,b5,mz,X),⟨aC,rfl,rfl,rfl,rfl,le.trans H,?_⟩,aC,MT⟩;dsimp only;rw[tK _ E,a3]
     grind
  .rw[bt aC]at R
   refineλs h' a7 a6=>cR.sub sx (B.trans (le.trans a7)) (hK s h' (B.trans (le.trans a7)) ((R.mono a7).rows a6 ?_))
   have h5:(D.flatMap (kQ on f)).length<=D.length*f.length:=vE λx _=>yW;omega
def ayZ:Vc.Spec:=λc m h K=>∃u b v w r,c=[cS u,cP b]/\m b=some (.cells ⟨xA.enc v⟩ 101 (0,0))/\fP h w v.where_/\bQ h u r/\K (cB (oJ r w)) m h
def b5X(t:Bool):Vc.Spec:=λc m h K=>∃u b s l r,c=[cS u,cP b]/\m b=some (.cells #[.slice s.a s.len s.cap] 58 (0,0))/\Rows h s l/\lJ l/\bQ h u r/\l.length<=8000000/\K (cB (Gy l r==t)) m h
def bYJ:Vc.Spec:=λe m h K=>∃u d f y s r c ks,e=[cS u,cP d,cP f]/\m d=some (.cells #[.map (some y)] 157 (0,0))/\m f=some (.cells #[.slice s.a s.len s.cap] 36 (0,0))/\sC m y ks/\Ints h s c/\bQ h u r/\OS r/\jY r.length c/\eK m/\∀t:Bool,(t=true↔rE (pick r c)∈ks)->K (cB t) m h
def b8Q:Vc.Spec:=λc m h K=>∃i:Nat,∃d e f v od g s rs r x,c=[cI i,cP d,cP e,cP f]/\m d=some (.cells ⟨xA.enc v⟩ 101 (0,0))/\m e=some (.cells #[Sl.val g] 58 (0,0))/\m f=some (.cells #[Sl.val s] 65 (0,0))/\jP h v.order od/\Rows h g rs/\bQ h s r/\rs[i]? =some x/\
 K (cB (decide (j5 od x r>=0))) m h
def YY:Vc.Spec:=λc m h K=>∃(n d e f:Nat)(v:xA)(od:cv)(g s:Sl)(rs:ct)(r:cz)(w:Nat),c=[cI n,.val (.func (.func 109) #[] #[.pointer (some ⟨d,0,none⟩),.pointer (some ⟨e,0,none⟩),.pointer (some ⟨f,0,none⟩)])]/\
 m d=some (.cells ⟨xA.enc v⟩ 101 (0,0))/\m e=some (.cells #[Sl.val g] 58 (0,0))/\m f=some (.cells #[Sl.val s] 65 (0,0))/\jP h v.order od/\Rows h g rs/\bQ h s r/\rs.length=n/\tM od rs/\(∀x∈rs,x.length=w)/\r.length=w/\
 K (cI ((rs.countP λy=>decide (j5 od y r<0):Nat):Int)) m h
def axZ:Vc.Spec:=λc m h K=>∃u d e v y gr od l f g r w,c=[cS u,cP d,cP e]/\m d=some (.cells #[.map (some y)] 160 (0,0))/\m e=some (.cells ⟨xA.enc v⟩ 101 (0,0))/\sF rE m h y gr od l f g/\iV w l/\jY w gr/\Ints h v.group gr/\jP h v.order od/\bQ h u r/\OS r/\r.length=w/\eK m/\
 K (cB (decide (((l.countP λy=>uF gr r y&&decide (j5 od y r<0):Nat):Int)<v.limit))) m h
def YZ:Vc.Spec:=λe m h K=>∃v t f g c d,e=[aT v,cS f,cS g]/\uW h t v/\Rows h f c/\Rows h g d/\eK m/\2<=t.op/\t.op<=10/\Qr t.op t.query [c,d]/\c.length<=8000000/\d.length<=8000000/\∀j h',PH.le h h'->Rows h' j (ET t.op t.query [c,d])->K (cS j) m h'
noncomputable def bQZ:=qD [(100,UL),(108,YY)] [] [(2,{A:=Nat×Nat×Nat×MH×PH,st:=λ⟨q,e,g,m,h⟩=>bY 21 24 [(2,pv q),(3,pv e),(5,pv g)] [] m h})] [] [200003,200005,0] [] false
noncomputable def f50_ctx:=qD [(95,cFZ),(71,bYZ),(98,b4X),(99,NI),(100,UL),(102,UO),(106,Y6)] [(7,{A:=Nat×Nat×Sl×cw×MH×PH,st:=λ⟨i,b,s,c,m,h⟩=>bY 140 143 [(3,pv b),(7,.at (.lst 33)),(34,sv s),(35,iv s.len),(36,iv i)] [(33,.lst 65 1 (c.map eS))] m h}),
 (11,{A:=Nat×Nat×Nat×Sl×Sl×Sl×cw×cz×MH×PH,st:=λ⟨k,i,b,s,u,co,c,l,m,h⟩=>bY 140 143 [(3,pv b),(7,.at (.lst 33)),(9,sv u),(10,.at (.lst 43)),(34,sv s),(35,iv s.len),(36,iv i),(45,sv co),(46,iv co.len),(47,iv k)] [(33,.lst 65 1 (c.map eS)),(43,.lst 30 3 (l.map VV.enc))] m h}),
 (24,{A:=Nat×Nat×Nat×Sl×Sl×Sl×MH×PH,st:=λ⟨i,a,b,s,t,r,m,h⟩=>bY 140 143 [(1,sv s),(13,pv a),(14,sv t),(15,pv b),(82,sv r),(83,iv r.len),(84,iv i)] [] m h}),
 (38,{A:=Nat×cw×Nat×MH×PH,st:=λ⟨b,c,r,m,h⟩=>bY 140 143 [(3,pv b),(18,.at (.lst 131)),(118,pv r)] [(131,.lst 65 1 (c.map eS))] m h})] [] [] [200003,200005,200013,200015,200021,400000,410000,0] [] false
def bAJ(u:Sl)(b:Nat)(m:MH)(h:PH)(K:cq):=
  ∃(y:PV),aK m h b 2 y.enc/\It (λv s p r=>aA (zX y u=zX v s) (fP h p v) (bQ h s r/\K (Aw (oJ r p)) m h))
def bjZ(u:Sl)(a b:Nat)(m:MH)(h:PH)(K:cq):=
  ∃(y:Nat),aK m h a 0 (oP y)/\∃(d:Sl),aA (aK m h b 0 (aL d)) (dM m h a y) (∃(s:Sl),DV u d s h m a y (λ_ _=>aK m h b 0 (aL d)) (λr c=>∃(k:dw)(O:Value->Prop),aA (uX m y (List.map (fun(p:Value×Bool)=>(p.1,Value.bool p.2)) k)) (Di O) (aA (O (iZ r c)) (∀(e:Value×Bool),List.Mem e k->O e.1) (((∀(e:Value×Bool),Gh e k (iZ r c))->K bD m h)/\∀(f:Bool),List.Mem (iZ r c,f) k->K (Aw f) m h))))
def bjX(u:Sl)(b:Nat)(m:MH)(h:PH)(K:cq):=
  xP m h b 0 (λy s=>Hj (λc l r=>aA (cD y u=cD s c) (Rows h s l) (aA (lJ l) (bQ h c r) (B7 l/\K (CV.val (Value.bool (!(Gy l r)))) m h))))
def biJ(u:Sl)(b:Nat)(m:MH)(h:PH)(K:cq):=
  xP m h b 0 (λy s=>Hj (λc l r=>aA (cD y u=cD s c) (Rows h s l) (aA (lJ l) (bQ h c r) (B7 l/\K (Aw (Gy l r)) m h))))
def Uq(i j d n:Nat)(m:MH)(h:PH)(K:cq):=
  xP m h j 18 (λy c=>aK m h d 0 (aL c)/\bK (λb o=>aA (aR c.a b o) (0<=(↑i:Int)) ((↑i:Int)<aG c/\∃(e:Sl),aK m h b (bL o i 1) (aL e)/\∃(f:Sl),aA (aK m h n 0 (aL f)) (aK m h d 0 (aL c)) (rC (λu s=>PD (λt g=>KV y e f u s t h g (λa z=>aK m h d 0 (aL c)/\K (Aw (decide (j5 g a z>=0))) m h)))))))
abbrev FN(a:MH)(b:Nat)(c:Value)(d:MH->(Nat×Nat×Nat×MH×PH)->Prop):=gT (λx e=>aA (sL a b (fA x e 0)) (0<x.size) (∀(f:MH),bJ a f b (iC c 1 x) e->∃(g:Nat×Nat×Nat×MH×PH),d f g))
attribute [push_cast] FN
def Nu(u:Sl)(a b:Nat)(m:MH)(h:PH)(K:cq):=
  ∀(j:Nat)(d:MH),bH (cW m h j) (bJ m d j (aL u) 65) (∃(I:Nat×Nat×Nat×MH×PH->Prop),(∃(y:Nat),aK d h a 0 (oP y)/\∃(z:Sl),aK d h j 0 (aL z)/\∃(A:Sl),aA (aK d h b 17 (aL A)) (aK d h a 0 (oP y)/\∃(s:Sl),DV z A s h d a y (λr c=>aA (aK d h j 0 (aL z)) (aK d h b 17 (aL A)) (sX d y (λO=>O (iZ r c)) (iZ r c) (aA (dM d h a y) (aK d h j 0 (aL z)) (aK d h b 17 (aL A)/\∀(e:Nat)(f:MH),bH (cW d h e) (bJ d f e gW 58) (FN f e pF (λB x=>aA (I x) (cA b x.1) (aA (cA j (fZ x)) (cA e (fY x)) (aA (bO B (fQ x)) (cF h (fQ x)) True)))))) (λC=>aA (dM d h a y) (aK d h j 0 (aL z)) (aK d h b 17 (aL A)/\∀(e:Nat)(f:MH),bH (cW
 d h e) (bJ d f e gW 58) (FN f e (dW C) (λB x=>aA (I x) (cA b x.1) (aA (cA j (fZ x)) (cA e (fY x)) (aA (bO B (fQ x)) (cF h (fQ x)) True)))))))) (λr c=>aA (dM d h a y) (aK d h j 0 (aL z)) (aK d h b 17 (aL A)/\∀(e:Nat)(f:MH),bH (cW d h e) (bJ d f e gW 58) (aA (aK f h j 0 (aL z)) (aK f h b 17 (aL A)) (sX f y (λO=>O (iZ r c)) (iZ r c) (FN f e pF (λB x=>aA (I x) (cA b x.1) (aA (cA j (fZ x)) (cA e (fY x)) (aA (bO B (fQ x)) (cF h (fQ x)) True)))) (λC=>FN f e (dW C) (λB x=>aA (I x) (cA b x.1) (aA (cA j (fZ x)) (cA e (fY x)) (aA (bO B (fQ x)) (cF h (fQ x)) True))))))))) (aA (dM d h a y) (aK d h j 0
 (aL z)) (aK d h b 17 (aL A)/\∀(e:Nat)(f:MH),bH (cW d h e) (bJ d f e gW 58) (aK f h a 0 (oP y)/\∃(s:Sl),DV z A s h f a y (λ_ _=>aK f h j 0 (aL z)) (λr c=>aK f h b 17 (aL A)/\sX f y (λO=>O (iZ r c)) (iZ r c) (FN f e pF (λB x=>aA (I x) (cA b x.1) (aA (cA j (fZ x)) (cA e (fY x)) (aA (bO B (fQ x)) (cF h (fQ x)) True)))) (λC=>FN f e (dW C) (λB x=>aA (I x) (cA b x.1) (aA (cA j (fZ x)) (cA e (fY x)) (aA (bO B (fQ x)) (cF h (fQ x)) True)))))))))/\∀(x:Nat×Nat×Nat×MH×PH),I x->∃(y:Sl),aK (lU x) (j9 x) (fY x) 0 (aL y)/\bK (λn e=>bK (λE F=>∃(v:xA)(o:cv)(g:Sl),Hj (λs r D=>∃(w:
 Nat),aA (gJ (aG y) (mV 109 (Array.mk (bG (SB x.1 0) (SB (fY x) 0) (Aa (fZ x)))))=gJ (↑n:Int) (mV 109 (Array.mk (bG (SB e 0) (SB E 0) (Aa F))))) ((fQ x).1 e=Option.some (fA (Array.mk v.enc) 101 0)) (aA ((fQ x).1 E=Option.some (fA (Array.mk (aL g)) 58 0)) ((fQ x).1 F=Option.some (fA (Array.mk (aL s)) 65 0)) (aA (jP (j9 x) v.order o) (Rows (j9 x) g r) (aA (bQ (j9 x) s D) (r.length=n) (aA (tM o r) (Ij r (λG=>G.length=w)) (D.length=w/\zO (lU x) (j9 x) x.1 19 (λz=>K (CV.val (Value.bool (decide ((↑(countP (fun(A:cz)=>decide (j5 o A D<0)) r):Int)<z)))) (lU x) (j9 x)))))))))))
abbrev Ie(a:dk)(b:Sl)(c:PH)(d:Nat->cr->ct->(cz->Bool)->Sl->cz->Prop)(e:cq)(g:MH):=Vm (λx j=>∃(f:ct)(n:cz->Bool),aA (a=gO b (mV x (Array.mk j))) (Rows c b f) (aA (B7 f) (∀(o:Sl)(u:cz),d x j f n o u) (Pz c n f e g)))
abbrev Bm(a:Nat×Nat×Sl×cw×MH×PH):=a.2.2.1
abbrev tG(a:Nat×Nat×Sl×cw×MH×PH):=a.2.2.2.2
abbrev Iu(a:Nat×Nat×Nat×Sl×Sl×Sl×cw×cz×MH×PH):=a.2.2.2.2.1
abbrev CD(a:Nat×Nat×Nat×Sl×Sl×Sl×cw×cz×MH×PH):=a.2.2.2.1
abbrev Bl(a:Nat×Nat×Nat×Sl×Sl×Sl×cw×cz×MH×PH):=a.2.2.2.2.2.1
abbrev Gi(a:Nat×Nat×Nat×Sl×Sl×Sl×cw×cz×MH×PH):=Ey a.2.2.2.2.2.2.2.1
abbrev wB(a:Nat×Nat×Nat×Sl×Sl×Sl×cw×cz×MH×PH):=a.2.2.2.2.2.2.2.2
abbrev JO(a:Sl->ct->ct->Prop):=QH (λx c=>∃(d:ct),a x c d)
abbrev Gj(a:Nat×Nat×Nat×Sl×Sl×Sl×MH×PH):=a.2.2.2.1
abbrev gP(a:Nat×Nat×Nat×Sl×Sl×Sl×MH×PH):=a.2.2.2.2
abbrev Bn(a:Nat×Nat×Nat×Sl×Sl×Sl×MH×PH):=a.2.2.1
abbrev IC(a:Nat×cw×Nat×MH×PH):=a.2.2.1
attribute [push_cast] Ie Bm tG Iu CD Bl Gi wB JO Gj gP Bn IC
def af(v:xA)(H s2:Sl)(m:MH)(h:PH)(K:cq):=
  ∀(b:Nat)(m1:MH),bH (cW m h b) (bJ m m1 b v.enc 101) (∀(U:Nat)(n:MH),bH (cW m1 h U) (bJ m1 n U (aL s2) 58) (zO n h b 0 (λy=>dQ (y==2) (∃(s:Sl),Ie (gO H (mV 96 (B5 b))) s h (λg c l p u r=>bH (List.Mem r l) (bQ h u r) (CE g 4 (dC u (List.map CV.val c)) n h (λx A f=>aA (x=tU (p r)) (A=n) (f=h)))) K n) (y==3) (aA (cN 0) (cN (aG H)) (aA (Ah H 24) (Ae (aG H)) (∃(I:Nat×Nat×Sl×cw×MH×PH->Prop)(A:Nat×Nat×Sl×cw×MH×PH->Nat),(∃(x:Nat×Nat×Sl×cw×MH×PH),aA (I x) (cA b x.2.1) (aA (eL 33) (aW H (Bm x)) (aA (bN H (Bm x)) (bA x.1) (aA (A4 x.2.2.2.1) (bO n (tG x)) (kY (cF h (tG x)))))))/\∀(x:Nat×Nat×Sl×cw×MH×PH),I x
 ->aY (↑x.1:Int) (aG (Bm x)) (bK (λJ o=>aA (aR (Bm x).a J o) (0<=(↑x.1:Int)) ((↑x.1:Int)<aG (Bm x)/\∃(D:Sl),aK (tG x).1 (tG x).2 J (bL o x.1 1) (aL D)/\∃(B:Sl),aA (aK (tG x).1 (tG x).2 x.2.1 15 (aL B)) (cN (aG B)) (aA (aG B<=aG B) (Ah B 32) (Ae (aG B)/\∃(G:Sl),aK (tG x).1 (tG x).2 x.2.1 15 (aL G)/\∃(I1:Nat×Nat×Nat×Sl×Sl×Sl×cw×cz×MH×PH->Prop)(M:Nat×Nat×Nat×Sl×Sl×Sl×cw×cz×MH×PH->Nat),(∃(d:Nat×Nat×Nat×Sl×Sl×Sl×cw×cz×MH×PH),aA (I1 d) (cA x.2.1 d.2.2.1) (aA (eL 33) (aW D (Iu d)) (aA (eL 43) (aW (Bm x) (CD d)) (aA (bN (Bm x) (CD d)) (cJ x.1 d.2.1) (aA (aW G (Bl d))
 (bN G (Bl d)) (aA (bA d.1) (tC x.2.2.2.1 d.2.2.2.2.2.2.1) (aA (bW 30 3 (tW (aG B) zY)=bW 30 3 (Gi d)) (iJ (tG x) (wB d)) (eO (tG x) (wB d)/\True))))))))/\∀(d:Nat×Nat×Nat×Sl×Sl×Sl×cw×cz×MH×PH),I1 d->aY (↑d.1:Int) (aG (Bl d)) (bK (λV W=>aA (aR (Bl d).a V W) (0<=(↑d.1:Int)) ((↑d.1:Int)<aG (Bl d)/\∃(C:Int),aK (wB d).1 (wB d).2 V (bL W d.1 1) (bC C)/\bK (λZ o2=>aA (aR (Iu d).a Z o2) (0<=C) (C<aG (Iu d)/\∃(y5:VV),aA (aK (wB d).1 (wB d).2 Z (gH o2 C 3) y5.enc) (0<=(↑d.1:Int)) ((↑d.1:Int)<nN (Gi d)/\∃(e:cr),aA (mH (Gi d) (nL d.1) e) (3<=e.length) (∃(j:Nat×Nat×Nat×
 Sl×Sl×Sl×cw×cz×MH×PH),aA (I1 j) (M j<M d) (aA (cA d.2.2.1 j.2.2.1) (eL 33) (aA (aW (Iu d) (Iu j)) (eL 43) (aA (aW (CD d) (CD j)) (bN (CD d) (CD j)) (aA (cJ d.2.1 j.2.1) (aW (Bl d) (Bl j)) (aA (bN (Bl d) (Bl j)) (iH (bE d.1 1)=bP j.1) (aA (tC d.2.2.2.2.2.2.1 j.2.2.2.2.2.2.1) (bW 30 3 (List.set (Gi d) (nL d.1) (bG (gZ y5.kind) (gZ y5.int) (GS (Value.string y5.text) 3 e)))=bW 30 3 (Gi j)) (aA (iJ (wB d) (wB j)) (eO (wB d) (wB j)) True)))))))))))))) (cK (wB d).2 3 (Gi d) (λs f=>aA (lL (fJ d.2.2.2.2.2.2.1)) (eA (fJ d.2.2.2.2.2.2.1)) (∃(j:Nat×Nat×Sl×cw×MH×PH),aA (I j) (A j<A x) (aA (cA d.2.2.1 j.2.1) (eL
 33) (aA (aW (CD d) (Bm j)) (bN (CD d) (Bm j)) (aA (iH (bE d.2.1 1)=bP j.1) (xO (fJ d.2.2.2.2.2.2.1) s j.2.2.2.1) (aA (iJ (wB d) (tG j)) (cF f (tG j)) True)))))))))))) (cK (tG x).2 1 (fJ x.2.2.2.1) (λs f=>∃(z:Sl),FO s z (tG x).1 f K))))) (dQ (y==4) (∃(D:xA),aK n h b 0 D.enc/\∃(B:Sl),aK n h U 0 (aL B)/\∃(L:xA)(o:cu)(s:Sl),JO (λz l F=>aA (cE D.enc (cD H B)=cE L.enc (cD s z)) (jD h L.on o) (aA (Rows h s l) (Rows h z F) (aA (eK n) (ccZ o [l,F]) (l.length*F.length<=8000000/\yA h (flatMap (kQ o F) l) K n))))) (y==5) (xP n h b 16 (λD s=>∃(o:cu),aA (eY (nW D) (nW s)) (jD h s o) (∀(a J:Sl)(f:PH),
 bS h f (Ints f a (jG o)) (Ints f J (eG o)->∀(V:Nat)(A:MH),bH (cW n f V) (bJ n A V gW 36) (gT (λc E=>aA (sL A V (fA c E 0)) (0<c.size) (∀(M:MH),bJ A M V (iC (dW a) 1 c) E->xN M f (λZ P=>∀(X:Nat)(Q:MH),bH (cW P f X) (bJ P Q X (pD Eu) 157) (gT (λY E1=>aA (sL Q X (fA Y E1 0)) (0<Y.size) (∀(m7:MH),bJ Q m7 X (iC (Dj Z) 1 Y) E1->∃(B:Sl),aK m7 f U 0 (aL B)/\∃(I:Nat×Nat×Nat×Sl×Sl×Sl×MH×PH->Prop)(m8:Nat×Nat×Nat×Sl×Sl×Sl×MH×PH->Nat),(∃(x:Nat×Nat×Nat×Sl×Sl×Sl×MH×PH),aA (I x) (aW H (Gj x)) (aA (cA V x.2.1) (aW J (gP x).1) (aA (cA X (Bn x)) (aW B (fF (gP x))) (aA (bN B (fF (gP x))) (bA x.1) (aA
 (bO m7 (iW (gP x))) (cF f (iW (gP x))) True)))))/\∀(x:Nat×Nat×Nat×Sl×Sl×Sl×MH×PH),I x->aY (↑x.1:Int) (aG (fF (gP x))) (bK (λb6 W=>aA (aR (fF (gP x)).a b6 W) (0<=(↑x.1:Int)) ((↑x.1:Int)<aG (fF (gP x))/\∃(G:Sl),aK (fM (gP x)) (dD (gP x)) b6 (bL W x.1 1) (aL G)/\∃(C:Nat),aA (dM (fM (gP x)) (dD (gP x)) (Bn x) C) (dM (fM (gP x)) (dD (gP x)) (Bn x) C) (∃(z:Sl),AL (λt r R=>aA (cD G (gP x).1=cD z t) (bQ (dD (gP x)) z r) (aA (Ints (dD (gP x)) t R) (OS r) (aA (AK r R) (eK (fM (gP x))) (dM (fM (gP x)) (dD (gP x)) (Bn x) C/\rK (fM (gP x)) C (λO=>O (iZ r R)) (iZ r R) (λk=>∀
 (S:MH),bH (kD (fM (gP x)) S C) (pV S C (Gt k (iZ r R))) (∃(d:Nat×Nat×Nat×Sl×Sl×Sl×MH×PH),aA (I d) (m8 d<m8 x) (aA (aW (Gj x) (Gj d)) (cA x.2.1 d.2.1) (aA (tF (gP x) (gP d)) (cA (Bn x) (Bn d)) (aA (aW (fF (gP x)) (fF (gP d))) (bN (fF (gP x)) (fF (gP d))) (aA (iH (bE x.1 1)=bP d.1) (bO S (iW (gP d))) (cF (dD (gP x)) (iW (gP d))/\True))))))) (λl L F=>iK l (iZ r R) L F) (λl F=>∀(S:MH),bH (kD (fM (gP x)) S C) (pV S C (iK l (iZ r R) Dk F)) (∃(d:Nat×Nat×Nat×Sl×Sl×Sl×MH×PH),aA (I d) (m8 d<m8 x) (aA (aW (Gj x) (Gj d)) (cA x.2.1 d.2.1) (aA (tF (gP x) (gP d)) (cA (Bn x)
 (Bn d)) (aA (aW (fF (gP x)) (fF (gP d))) (bN (fF (gP x)) (fF (gP d))) (aA (iH (bE x.1 1)=bP d.1) (bO S (iW (gP d))) (cF (dD (gP x)) (iW (gP d))/\True))))))))))))))) (∃(z:Sl),Ie (gO (Gj x) (mV 101 (Array.mk (kC (SB (Bn x) 0) (SB x.2.1 0))))) z (dD (gP x)) (λg R l p u r=>bH (List.Mem r l) (bQ (dD (gP x)) u r) (CE g 4 (dC u (List.map CV.val R)) (fM (gP x)) (dD (gP x)) (λd S T=>aA (d=tU (p r)) (bO S (iW (gP x))) (cF T (iW (gP x)))))) K (fM (gP x)))))))))))))) (dQ (y==6) (∃(D:Sl),aK n h U 0 (aL D)/\cK h 1 (mJ (aL H) (aL D)) (λs f=>JO (λz l F=>aA (vA s=vA z) (Leaves f z [l,F]) (aA (B7 l)
 (B7 F) (∀(s4:Sl)(T:PH),bS f T (Rows T s4 (l++F)) (∃(s5:Sl),FO s4 s5 n T K)))))) (y==7) (∃(s:Sl),Ie (gO H (mV 103 (B5 U))) s h (λg c l p u r=>bH (List.Mem r l) (bQ h u r) (CE g 4 (dC u (List.map CV.val c)) n h (λx A f=>aA (x=tU (p r)) (A=n) (f=h)))) K n) (dQ (y==8) (∃(s:Sl),Ie (gO H (mV 105 (B5 U))) s h (λg c l p u r=>bH (List.Mem r l) (bQ h u r) (CE g 4 (dC u (List.map CV.val c)) n h (λx A f=>aA (x=tU (p r)) (A=n) (f=h)))) K n) (y==9) (∃(D:xA),aK n h b 0 D.enc/\∃(L:xA),QB (λs g o=>∃(l:ct)(w:Nat),Iv (eU D.enc (nW H)) (eU L.enc (nW s)) h L.group g (jP h L.order o) (Rows h s l) w l n (λB A f k g1=>Ig n B A (bS h f (sF rE A f
 B g o l k g1) (KX A B f (λr M=>∃(I:Nat×cw×Nat×MH×PH->Prop)(P:Nat×cw×Nat×MH×PH->Nat),(∃(x:Nat×cw×Nat×MH×PH),aA (I x) (cA b x.1) (aA (eL 131) (cA r (IC x)) (aA (A4 x.2.1) (bO M x.2.2.2) (cF f x.2.2.2/\True))))/\∀(x:Nat×cw×Nat×MH×PH),KW (I x) (qB x.2.2) (IC x) (cK (lO x.2.2) 1 (fJ x.2.1) (λz T=>∃(s4:Sl),FO z s4 (qB x.2.2) T K)) (λQ=>Lt (λJ k1 F d=>Ej Q J (IC x) k1 F d/\∃(z:Sl),d.2=dW z/\∃(G:Int),aA (aK Q (lO x.2.2) x.1 19 (bC G)) (0<=oX z G) (oX z G<=(↑z.cap:Int)/\∃(C:List cr),aA (gC 1 C) (vI Q (lO x.2.2) (Sl.mk z.a (oX z G).toNat z.cap) 1 C) (aA (sQ (fJ x.2.1) C 24) (sR (fJ
 x.2.1) C) (∃(j:Nat×cw×Nat×MH×PH),aA (I j) (P j<P x) (aA (cA x.1 j.1) (eL 131) (aA (cA (IC x) (IC j)) (bW 65 1 (fJ x.2.1++C)=oI 65 1 j.2.1) (aA (bO Q j.2.2.2) (eO x.2.2.2 j.2.2.2) True)))))))))))))) (∃(D:xA),aK n h b 0 D.enc/\∃(B:Sl),aK n h U 0 (aL B)/\∃(L:xA),QB (λs g o=>∃(l:ct)(w:Nat),Iv (eU D.enc (nW B)) (eU L.enc (nW s)) h L.group g (jP h L.order o) (Rows h s l) w l n (λG A f k g1=>Ig n G A (bS h f (sF rE A f G g o l k g1) (∀(J:Nat)(M:MH),bH (cW A f J) (bJ A M J (pD Eu) 160) (gT (λc E=>aA (sL M J (fA c E 0)) (0<c.size) (∀(P:MH),bJ M P J (iC (Dj G) 1 c) E->∃(z:Sl),Ie (gO H (mV 107 (Array.mk (kC (SB J
 0) (SB b 0))))) z f (λg2 Y F p u r=>bH (List.Mem r F) (bQ f u r) (CE g2 4 (dC u (List.map CV.val Y)) P f (λx Q T=>aA (x=tU (p r)) (Q=P) (T=f)))) K P))))))))))))))
theorem a3Q:cm 96 ayZ:=by
 refine jC func96 ?_;rintro c m h K ⟨u,b,v,w,r,rfl,d,e,f,g⟩;refine⟨qD [(97,ayX)] [] [] [] [0] [] false,rfl,aE Tf aH,bAJ u b m h K,ax,?_⟩;exact⟨v.where_,.of_m d rfl,v.where_,u,w,r,rfl,e,f,g⟩
theorem asQ:cm 101 bYJ:=by
 refine jC func101 ?_;rintro j m h K ⟨u,e,n,y,s,r,c,ks,rfl,f,g,o,z,A,B,d,C,D⟩;refine⟨qD [(100,UL)] [] [] [] [0] [] false,rfl,aE Dq aH,bjZ u e n m h K,ax,?_⟩;exact⟨y,.of_m f rfl,s,.of_m g rfl,.of_m f rfl,u,s,r,c,rfl,A,z,B,d,C,.of_m f rfl,.of_m g rfl,o.get D⟩
theorem arZ:cm 103 (b5X false):=by
 refine jC func103 ?_;rintro e m h K ⟨u,b,s,l,r,rfl,f,g,c,j,n,d⟩;refine⟨qD [(104,b7Q)] [] [] [] [0] [] false,rfl,aE RG aH,bjX u b m h K,ax,?_⟩;exact⟨s,.of_m f rfl,s,u,l,r,rfl,g,c,j,n,by rw[show(Gy l r==false)= !Gy l r by grind]at d;exact d⟩
theorem arX:cm 105 (b5X true):=by
 refine jC func105 ?_;rintro e m h K ⟨u,b,s,l,r,rfl,f,g,c,j,n,d⟩;refine⟨qD [(104,b7Q)] [] [] [] [0] [] false,rfl,aE RG aH,biJ u b m h K,ax,?_⟩;exact⟨s,.of_m f rfl,s,u,l,r,rfl,g,c,j,n,by rw[show(Gy l r==true)=Gy l r by grind]at d;exact d⟩
theorem aqX:cm 109 b8Q:=by
 refine jC func109 ?_;rintro j m h K ⟨i,n,e,o,v,od,g,s,rs,r,x,rfl,y,z,A,B,c,C,f,D⟩;refine⟨qD [(110,HR)] [] [] [] [0] [] false,rfl,aE GG aH,Uq i n e o m h K,ax,?_⟩;dsimp only[Uq,push_cast];have J:=bM.slen c;have L:=(bm f);obtain⟨E,F,u,G,H,I⟩:=bM.at c f;have d:aK m h e 0 [dW g]:=.of_m z rfl;exact⟨v.order,.of_m y rfl,g,d,E,F,G,aC,aC,u,.imm H,s,.of_m A rfl,d,v.order,u,s,od,x,r,rfl,B,I,C,d,D⟩
theorem Yw:cm 108 YY:=Qa aqX λy m h K⟨n,j,o,u,v,od,g,s,rs,r,z,e,A,B,C,D,c,E,F,d,G,f,H⟩=>⟨n,j,o,u,z,od,rs,r,e,by have:=c.len;omega,F,d,G,f,λi x I=>⟨i,j,o,u,v,od,g,s,rs,r,x,rfl,A,B,C,D,c,E,I,rfl,rfl,rfl⟩,H⟩
structure cCZ(m:MH)(h:PH)(v:xA)(bq be:Nat)(e:Sl)(Gk:ct)(c:Nat×Nat×Nat×MH×PH):Prop where
 c1:c.1=bq
 c2:c.2.1=be
 c3:c.2.2.2.2=h
 sub:Sub m c.2.2.2.1
 q_:c.2.2.2.1 bq=some (.cells ⟨xA.enc v⟩ 101 (0,0))
 e_:c.2.2.2.1 be=some (.cells #[Sl.val e] 65 (0,0))
 g_:∃s,c.2.2.2.1 c.2.2.1=some (.cells #[Sl.val s] 58 (0,0))/\Rows h s Gk
theorem aqJ:cm 107 axZ:=by
 refine Sn func107 ?_;rintro b' m h K ⟨u,ba,M,v,y,gr,od,l,kk,G,r,w,rfl,X,H,Y,L,O,Z,a7,hu,hr,a',hT,hK⟩;refine⟨bQZ,rfl,aE Dq (aE Yw aH),Nu u ba M m h (cR h K),ax,?_⟩;show Nu u ba M m h (cR h K);dsimp only[Nu,push_cast];intro T D a8 a0;obtain⟨F,n1⟩:=jB (Sub.refl m) a8 a0;have I:D T=some (.cells #[Sl.val u] 65 (0,0)):=a0.at_;have a1:jY r.length gr:=bg
 have g1:=Y.keep (λo e=>F _ o e) (.refl _)
 have a2:∀{g j},cW D h g->lI D j g (.cells #[pF] 58 (0,0))->∀z o,D z=some o->j z=some o:=fun{g j} f d z o B=>by
  have:z≠g:=λU=>by rw[U,f.m_]at B;cases B
  rw[d.other z this];exact B
 have fin:∀s,Dz kk (rE (pick r gr)) s->∀g j,cW D h g->lI D j g (.cells #[pF] 58 (0,0))->∃(cs:Array Value)(E:TypeId),sL j g (.cells cs E (0,0))/\0<cs.size/\∀m9,lI j m9 g (.cells (Array.mk (dW s::cs.toList.drop 1)) E (0,0))->
  ∃c:Nat×Nat×Nat×MH×PH,cCZ m h v M T u (G (rE (pick r gr))) c/\WG M 0=WG c.1 0/\WG T 0=WG c.2.1 0/\WG g 0=WG c.2.2.1 0/\m9=c.2.2.2.1/\h=c.2.2.2.2/\True:=λs A g j f d=>by
  refine⟨_,_,⟨d.at_⟩,ay,λm9 a3=>⟨(M,T,g,m9,h),?_,MT⟩⟩
  have P:∀z o,D z=some o->m9 z=some o:=λz o B=>by
   have:z≠g:=λU=>by rw[U,f.m_]at B;cases B
   rw[a3.other z this,d.other z this];exact B
  exact⟨rfl,rfl,rfl,λz o B=>P z o (F z o B),P _ _ (F _ _ H),P _ _ I,s,a3.at_,Y.at_ A⟩
 have Q:aK D h ba 0 [Value.map (some y)]:=.of_m (F _ _ X) rfl;have V:aK D h T 0 [dW u]:=.of_m I rfl;have W:aK D h M 17 [dW v.group]:=.of_m (F _ _ H) rfl;refine⟨cCZ m h v M T u (G (rE (pick r gr))),⟨y,Q,u,V,v.group,W,⟨Q,u,v.group,r,gr,rfl,hu,Z,hr,a1,hT.sub F,Q,⟨V,W,g1.get2 (λA=>⟨Q,V,W,fin _ A⟩) (λs A=>⟨Q,V,W,fin _ A⟩)⟩,Q,V,W,λg j f d=>?_⟩,Q,V,W,λg j f d=>?_⟩,?_⟩
 .have J:=a2 f d;exact⟨.of_m (J _ _ I) rfl,.of_m (J _ _ (F _ _ H)) rfl,(g1.keep (J y) (.refl _)).get2 (λA=>fin _ A g j f d) (λs A=>fin _ A g j f d)⟩
 .have J:=a2 f d;have a4:aK j h ba 0 [Value.map (some y)]:=.of_m (J _ _ (F _ _ X)) rfl;exact⟨a4,u,v.group,r,gr,rfl,hu,Z,hr,a1,(hT.sub F).sub J,a4,.of_m (J _ _ I) rfl,.of_m (J _ _ (F _ _ H)) rfl,(g1.keep (J y) (.refl _)).get2 (λA=>fin _ A g j f d) (λs A=>fin _ A g j f d)⟩
 .rintro⟨c1,c2,g,mz,hz⟩ ⟨e1,B,U,a5,R,a6,s,S,C⟩;dsimp only at e1 B U a5 R a6 S⊢
  subst e1 B U;have n:=Hw LB (od:=od) L O hr a';rw[<-(Y.perm _).countP_eq]at n;refine⟨s,.of_m S rfl,s.len,c1,g,c2,v,od,s,u,G (rE (pick r gr)),r,w,rfl,R,S,a6,a7,C,hu,C.slen.symm,Y.sort _,λz a9=>?_,a',v.limit,.of_m R rfl,?_⟩
  .have:=(Y.perm _).mem_iff.1 (show z∈_ from a9);exact L.wid z (mem_filter.1 this).1
  .rw[n];exact cR.keep a5 (.refl _) hK
theorem c0Z x:Vc.valOf Tryz.prog 4 [x]=x:=ax
theorem L2{g S u}{c:cr}{b}(d:cm g S)(e:∀K:CV->MH->PH->Prop,K (cB b) m h->S (cS u::c.map .val) m h K):FAt Tryz.prog g 4 (cS u::c.map .val) m h λx m' h'=>x=[.bool b]/\m'=m/\h'=h:=
 Sound.fat (vs:=Sl.val u::c) d (e _ ⟨[.bool b],(congrArg CV.val (c0Z _)).symm,rfl,rfl,rfl⟩)
structure StM(m m2:MH)(b b2:Nat)(v:xA)(s2:Sl):Prop where
 sub:Sub m m2
 b_:m2 b=some (.cells ⟨xA.enc v⟩ 101 (0,0))
 s_:m2 b2=some (.cells #[Sl.val s2] 58 (0,0))
 tab:eK m2
theorem au:cm 50 YZ:=by
 refine Sn func50 ?_;rintro k0 m h K ⟨v,t,R,S,n,B,rfl,U,G,I,hT,h2,g8,P,W,b0,J⟩;refine⟨f50_ctx,rfl,aE a3X (aE IL (aE a2J (aE Te (aE Dq (aE arJ (aE arQ aH)))))),af v R S m h (cR h K),ax,?_⟩;show af v R S m h (cR h K);dsimp only[af,push_cast];obtain⟨op,ta,w,co,on,gr,od,li,lf,rt⟩:=t;dsimp only[Step.query]at P J h2 g8;intro b m1 d1 a5 b2 m2 b1 a6
 have M:StM m m2 b b2 v S:=by
  obtain⟨R,n1⟩:=jB (Sub.refl m) d1 a5;obtain⟨st,n2⟩:=jB R b1 a6;have g9:b≠b2:=λe=>by have:=b1.m_;rw[<-e,a5.at_]at this;cases this
  exact⟨st,by rw[a6.other b g9];exact a5.at_,a6.at_,hT.sub st⟩
 clear d1 a5 b1 a6;have d2:=bM.slen G;have d3:=bM.slen I;have e0:v.op=op:=U.op_;have go:∀k,(v.op==k)=true->op=k:=λk e=>e0.symm.trans (eq_of_beq e);have b6:∀{m' h'},m' b=some (.cells ⟨xA.enc v⟩ 101 (0,0))->aK m' h' b 0 (xA.enc v):=λh=>.of_m h (take_length ..);refine⟨v.op,.of_m M.b_ rfl,aD (λe=>?_) (λn2=>aD (λe=>?_) (λn3=>aD (λe=>?_) (λn4=>aD (λe=>?_) (λn5=>aD (λe=>?_) (λn6=>aD (λe=>?_) (λn7=>aD (λe=>?_) (λn8=>aD (λe=>?_) (λn9=>?_))))))))⟩
 .obtain rfl:=go _ e;exact⟨R,96,[.pointer (some ⟨b,0,none⟩)],n,λr=>oJ r w,rfl,G,W,λu r j X=>L2 a3Q λK J=>⟨u,b,v,w,r,rfl,M.b_,U.where_,X,J⟩,λL h' le j=>cR.sub M.sub le (J L h' le j)⟩
 .obtain rfl:=go _ e;obtain⟨_,k3,wd,d,C⟩:=(show Mz (.mk 3 ta w co on gr od li []) [n,B]from P)
  have d:iV wd n:=d;have hc:Ints h v.columns co:=U.columns_;have h4:=hc.slen;refine⟨aC,aC,aC,aC,λx=>x.1<=n.length/\x.2.1=b/\x.2.2.1=R/\x.2.2.2.2.1=m2/\PH.le h x.2.2.2.2.2/\fE x.2.2.2.2.2 x.2.2.2.1 ((n.take x.1).map λr=>pick r co),λx=>n.length-x.1,⟨(0,b,R,[],m2,h),⟨Nat.zero_le _,rfl,rfl,rfl,.refl _,bk (fE.nil h)⟩,MT⟩,?_⟩;rintro⟨i,b',t1,us,mx,Y⟩ ⟨hi,e1,A,O,le,j⟩;dsimp only at hi e1 A O le j⊢
  subst e1 A O;refine aF (λb7=>?_) (λd4=>?_)
  .obtain⟨r,D⟩:=fK d2 b7;obtain⟨bb,o,u,ea,rd,X⟩:=bM.at G D;have k4:=d.wid r (bo D);have d5:=bQ.mono X le;have k5:=bM.slen d5;have k6:(pick r co).length=co.length:=by simp[pick]
   have d6:=j.len;rw[length_map,length_take]at d6;refine⟨bb,o,ea,aC,aC,u,.imm (rd.mono le),v.columns,.of_m M.b_ rfl,aC,aC,aC,aC,v.columns,.of_m M.b_ rfl,λz=>z.1<=co.length/\z.2.1=i/\z.2.2.1=b'/\z.2.2.2.1=t1/\z.2.2.2.2.1=u/\z.2.2.2.2.2.1=v.columns/\z.2.2.2.2.2.2.1=us/\z.2.2.2.2.2.2.2.1=(pick r co).take z.1++replicate (co.length-z.1) zeroV/\z.2.2.2.2.2.2.2.2.1=mx/\z.2.2.2.2.2.2.2.2.2=Y,λz=>co.length-z.1,⟨(0,i,b',t1,u,v.columns,us,replicate co.length zeroV,mx,Y),⟨Nat.zero_le _,rfl,rfl,rfl,rfl,rfl,rfl,ay,rfl,rfl⟩,?_⟩,?_⟩
   .dsimp only;rw[map_replicate,show((v.columns.len:Int)).toNat=co.length by omega];exact MT
   .rintro⟨k,i',d7,d8,u',cc,d9,cells,my,hy⟩ ⟨hk,e1,A,O,e4,e5,e6,e7,e8,e9⟩;dsimp only at hk e1 A O e4 e5 e6 e7 e8 e9⊢
    subst e1 A O e4 e5 e6 e7 e8 e9;refine aF (λe'=>?_) (λd4=>?_)
    .obtain⟨c,f'⟩:=fK h4 e';obtain⟨b4,o4,e4,k7⟩:=(hc.mono le).at f';obtain⟨y,h7,h8,h0,h1⟩:=Kt (r:=r) bg f';obtain⟨b5,o5,y',e5,h9,rfl⟩:=bM.at d5 h7;have f0:k<co.length:=by omega
     have f1:=WW h8 f0;refine⟨b4,o4,e4,aC,aC,c,.imm bg,b5,o5,e5,h0,aC,y,.imm h9,aC,bf,_,SN f0,by simp[VV.enc],(k+1,i',d7,d8,u',v.columns,d9,(pick r co).take (k+1)++replicate (co.length-(k+1)) zeroV,my,hy),⟨aC,rfl,rfl,rfl,rfl,rfl,rfl,rfl,rfl,rfl⟩,aC,?_⟩;dsimp only;refine⟨rfl,rfl,rfl,rfl,rfl,rfl,rfl,rfl,rfl,by rw[jK aC],rfl,?_,rfl,rfl,trivial⟩;rw[<-f1,map_set];rfl
    .have:k=co.length:=by omega
     subst this;rw[bt aC,Nat.sub_self,replicate_zero,append_nil]
     refineλs3 h3 E T=>⟨bg,bg,(i'+1,d7,d8,d9++[s3],my,h3),⟨aC,rfl,rfl,rfl,le.trans E,?_⟩,aC,?_⟩
     .dsimp only;rw[cd,D,bu];exact(j.mono E).snoc ⟨⟨_,T,rfl,λi x Y=>⟨x,Y,rfl⟩⟩,bg⟩
     .dsimp only;rw[jK aC,bu];exact MT
  .rw[bt aC]at j
   exactλs3 h3 E T=>⟨s3,us,_,rfl,.imm T,j.mono E,bf,λL h' a' b8=>cR.sub M.sub (le.trans (E.trans a')) (J L h' (le.trans (E.trans a')) b8)⟩
 .obtain rfl:=go _ e;obtain⟨h5,h6⟩:=(show MA (.mk 4 ta w co on gr od li []) [n,B]from P)
  exact⟨v,b6 M.b_,S,.of_m M.s_ rfl,v,on,R,S,n,B,rfl,U.on_,G,I,M.tab,h5,h6,λL h' le j=>cR.sub M.sub le (J L h' le j)⟩
 .obtain rfl:=go _ e;obtain⟨_,wa,wb,d,f,f2,b9⟩:=(show Mx (.mk 5 ta w co on gr od li []) [n,B]from P)
  have d:iV wa n:=d;have f:iV wb B:=f;refine⟨v.on,.of_m M.b_ rfl,v.on,on,rfl,U.on_,λsa sb h1 F i0 i1 b3 m3 f3 c'=>⟨_,_,⟨c'.at_⟩,ay,λm4 a0 y m5 i2 Z b4 m6 f4 c0=>⟨_,_,⟨c0.at_⟩,ay,λm7 c5=>?_⟩⟩⟩;obtain⟨k8,n3⟩:=jB M.sub f3 c'
  have Q:∀{z o},m2 z=some o->m4 z=some o:=fun{z o} A=>by
   have:z≠b3:=λO=>by rw[O,f3.m_]at A;cases A
   rw[a0.other z this,c'.other z this];exact A
  have c6:∀{z o},m4 z=some o->m7 z=some o/\z≠y:=fun{z o} A=>by
   have O:z≠y:=λO=>by rw[O,i2.m_]at A;cases A
   have e5:m5 z=some o:=by rw[Z.other z O];exact A
   have e4:z≠b4:=λe4=>by rw[e4,f4.m_]at e5;cases e5
   exact⟨by rw[c5.other z e4,c0.other z e4];exact e5,O⟩
  have y4:y≠b4:=λe=>by have:=f4.m_;rw[<-e,Z.at_]at this;cases this
  have i3:m7 y=some (.map #[] 0):=by rw[c5.other y y4,c0.other y y4];exact Z.at_
  have i4:m7 b2=some (.cells #[Sl.val S] 58 (0,0)):=(c6 (Q M.s_)).1;have f5:=c6 a0.at_;have V:∀{z o},m z=some o->m7 z=some o/\z≠y:=fun{z o} e=>c6 (Q (M.sub z o e));have G:=bM.mono G F (λ_ _ h=>bQ.mono h F);have I:=bM.mono I F (λ_ _ h=>bQ.mono h F);refine⟨S,.of_m i4 rfl,λz=>z.1<=B.length/\z.2.1=b3/\z.2.2.1=b4/\z.2.2.2.1=R/\z.2.2.2.2.1=sb/\z.2.2.2.2.2.1=S/\z.2.2.2.2.2.2.2=h1/\(∀x o,m7 x=some o->x≠y->z.2.2.2.2.2.2.1 x=some o)/\sC z.2.2.2.2.2.2.1 y ((B.take z.1).map λr=>rE (pick r (eG on))),λz=>B.length-z.1,⟨(0,b3,b4,R,sb,S,m7,h1),⟨Nat.zero_le _,rfl,rfl,rfl,rfl,rfl,rfl,λ_ _ e _=>e,bk (sC.new i3)⟩,MT⟩,?_⟩;rintro⟨i,c3,c4,t1,tb,t2,mx,Y⟩ ⟨hi,e1,A,O,e4,e5,e6,a1,a7⟩;dsimp only at hi e1 A O e4 e5 e6 a1 a7⊢
  subst e1 A O e4 e5 e6;have T7:eK mx:=hT.sub λz o e=>a1 z o (V e).1 (V e).2;have f6:mx c4=some (.cells #[.map (some y)] 157 (0,0)):=a1 c4 _ c5.at_ (Ne.symm y4);refine aF (λb7=>?_) (λd4=>?_)
  .obtain⟨r,D⟩:=fK d3 b7;obtain⟨bb,o,u,ea,rd,X⟩:=bM.at I D;have f7:=bo D;have r4:aK mx Y c4 0 [Value.map (some y)]:=.of_m f6 rfl;rw[jK aC];refine⟨bb,o,ea,aC,aC,u,.imm rd,y,r4,r4,u,tb,r,eG on,rfl,X,i1,f.row r f7,by rw[f.wid r f7];exact b9,T7,r4,a7.put (λm' i5 f8=>⟨(i+1,c3,c4,t1,tb,t2,m',Y),⟨aC,rfl,rfl,rfl,rfl,rfl,rfl,λz o A c7=>by dsimp only;rw[i5.other z c7];grind,?_⟩,aC,MT⟩)⟩;obtain⟨kk,h5,h6⟩:=f8.ex;exact⟨kk,h5,λq=>by rw[h6,cd,D];grind⟩
  .rw[bt aC]at a7;refine⟨t1,101,[.pointer (some ⟨c4,0,none⟩),.pointer (some ⟨c3,0,none⟩)],n,λx=>B.any λy=>agree on x y,rfl,G,W,λu r j X=>L2 asQ λK J=>⟨u,c4,c3,y,sa,r,jG on,_,rfl,f6,a1 c3 _ f5.1 f5.2,a7,i0,X,d.row r j,by rw[d.wid r j];exact f2,T7,λt U=>?_⟩,λL h' le j=>cR.sub (λz o e=>a1 z o (V e).1 (V e).2) (F.trans le) (J L h' (F.trans le) j)⟩;have f9:jY r.length (jG on):=by rw[d.wid r j];exact f2
   have h1:(rE (pick r (jG on))∈B.map λz=>rE (pick z (eG on)))↔(B.any λy=>agree on r y)=true:=by
    rw[mem_map,any_eq_true];constructor
    .rintro⟨z,hz,A⟩;exact⟨z,hz,(CX LB (d.row r j) (f.row z hz) f9 (by rw[f.wid z hz];exact b9)).1 A.symm⟩
    .rintro⟨z,hz,A⟩;exact⟨z,hz,((CX LB (d.row r j) (f.row z hz) f9 (by rw[f.wid z hz];exact b9)).2 A).symm⟩
   grind
 .obtain rfl:=go _ e;refine⟨S,.of_m M.s_ rfl,λs h1 F D=>⟨s,n,B,rfl,⟨⟨[R,S],D,rfl,λi x Y=>?_⟩,ay⟩,W,b0,λsl h2 H j=>?_⟩⟩
  .match i,Y with
   |0,Y=>cases Y;exact⟨R,rfl,bM.mono G F (λ_ _ h=>bQ.mono h F)⟩
   |1,Y=>cases Y;exact⟨S,rfl,bM.mono I F (λ_ _ h=>bQ.mono h F)⟩
  .obtain⟨⟨us,D,g',i8⟩,_⟩:=j;exact⟨sl,us,n++B,rfl,.imm D,⟨g'.symm,i8⟩,aC,λL h3 E T=>cR.sub M.sub (F.trans (H.trans E)) (J L h3 (F.trans (H.trans E)) T)⟩
 .obtain rfl:=go _ e;obtain⟨_,wd,d⟩:=(show B4 (.mk 7 ta w co on gr od li []) [n,B]from P)
  exact⟨R,103,[.pointer (some ⟨b2,0,none⟩)],n,λr=>Gy B r==false,rfl,G,W,λu r j X=>L2 arZ λK J=>⟨u,b2,S,B,r,rfl,M.s_,I,(d B ay).srt,X,b0,J⟩,λL h' le j=>cR.sub M.sub le (J L h' le j)⟩
 .obtain rfl:=go _ e;obtain⟨_,wd,d⟩:=(show B4 (.mk 8 ta w co on gr od li []) [n,B]from P)
  exact⟨R,105,[.pointer (some ⟨b2,0,none⟩)],n,λr=>Gy B r==true,rfl,G,W,λu r j X=>L2 arX λK J=>⟨u,b2,S,B,r,rfl,M.s_,I,(d B ay).srt,X,b0,J⟩,λL h' le j=>cR.sub M.sub le (J L h' le j)⟩
 .obtain rfl:=go _ e;obtain⟨_,⟨wd,d,C⟩,g0⟩:=(show My (.mk 9 ta w co on gr od li []) [n,B]from P)
  have d:iV wd n:=d;refine⟨v,b6 M.b_,v,R,gr,od,n,wd,rfl,U.group_,U.order_,G,d,C,M.tab,λy m3 h2 kk g hy g1 H hg=>⟨_,hg.map_,λr m4 c8 i9 it=>?_⟩⟩;have a2:∀{z o},m2 z=some o->m3 z=some o:=fun{z o} e=>bg
  have Q:∀{z o},m2 z=some o->m4 z=some o/\z≠r:=fun{z o} e=>by
   have:z≠r:=λA=>by have:=a2 e;rw[A,c8.m_]at this;cases this
   exact⟨by rw[i9.other z this];exact a2 e,this⟩
  refine⟨λz=>z.1=b/\z.2.2.1=r/\z.2.2.2.2=h2/\(∀x o,m4 x=some o->x≠r->z.2.2.2.1 x=some o)/\∃left a3,mR z.2.2.2.1 y r (kk.map λp=>(Value.string p.1,dW p.2)) left/\fE h2 z.2.1 a3/\GJ rE gr li n kk g left a3,λz=>leftOf z.2.2.2.1 z.2.2.1,⟨(b,[],r,m4,h2),⟨rfl,rfl,rfl,λ_ _ e _=>e,_,[],it,fE.nil _,.start⟩,MT⟩,?_⟩;rintro⟨b',us,r',mz,hz⟩ ⟨e1,A,O,c9,left,a3,a4,a8,rk⟩;dsimp only at e1 A O c9 a4 a8 rk⊢
  subst e1 A O;have d6:=a8.len;have j2:=rk.cnt;refine⟨y,_,left,a4,λd' s3 h3 E T=>?_,λk1 x1 k2 g2 m5 g3 d0=>?_⟩
  .subst d';refine⟨s3,us,a3,rfl,.imm T,a8.mono E,aC,λL h' a' b8=>cR.sub (λz o e=>c9 z o (Q (M.sub z o e)).1 (Q (M.sub z o e)).2) (H.trans (E.trans a')) (J L h' (H.trans (E.trans a')) ?_)⟩;show Rows h' L (yS gr od li n n);rw[rk.done LB hg d C g0];exact b8
  .have j':x1∈left:=bg
   obtain⟨p0,g4,rfl⟩:=mem_map.1 (mR.mem a4 j');have g5:v.limit=li:=U.limit_;have j0:m5 b'=some (.cells ⟨xA.enc v⟩ 101 (0,0)):=by rw[g3.other b' (Q M.b_).2];exact c9 b' _ (Q M.b_).1 (Q M.b_).2
   obtain⟨c1,c2,g6,D,j1,g'⟩:=WJ (li:=li) (hg.rows p0 g4) g0;have k9:=(hg.perm p0.1).length_eq;have k':(mQ rE gr n p0.1).length<=n.length:=length_filter_le _ _;refine⟨y,_,_,_,d0,p0.2,rfl,li,.of_m j0 (by rw[<-g5];rfl),c1,c2,g6.map eS,BN _,.imm D,bg,bg,(b',us++g6,r',m5,hz),⟨rfl,rfl,rfl,λx o e c7=>by dsimp only;rw[g3.other x c7];grind,_,a3++(g p0.1).take li.toNat,d0.it,a8.app j1,rk.step hg a4 g4 g2⟩,?_,bg⟩;show leftOf m5 r'<leftOf mz r';rw[mR.left_ d0.it,mR.left_ a4,g2];simp
 .have n2:=ne_of_beq_false n2;have n3:=ne_of_beq_false n3;have n4:=ne_of_beq_false n4;have n5:=ne_of_beq_false n5;have n6:=ne_of_beq_false n6;have n7:=ne_of_beq_false n7;have n8:=ne_of_beq_false n8;have n9:=ne_of_beq_false n9;obtain rfl:op=10:=by omega
  obtain⟨_,wd,d,f,C⟩:=(show EU (.mk 10 ta w co on gr od li []) [n,B]from P)
  have d:iV wd n:=d;have f:iV wd B:=f;refine⟨v,b6 M.b_,S,.of_m M.s_ rfl,v,S,gr,od,B,wd,rfl,U.group_,U.order_,I,f,C,M.tab,λy m3 h2 kk g hy g1 H hg b4 m4 c8 a0=>⟨_,_,⟨a0.at_⟩,ay,λm5 Z=>?_⟩⟩
  have g7:∀{z o},m3 z=some o->m5 z=some o:=fun{z o} e=>by
   have:z≠b4:=λA=>by rw[A,c8.m_]at e;cases e
   rw[Z.other z this,a0.other z this];exact e
  have a2:∀{z o},m2 z=some o->m5 z=some o:=fun{z o} e=>g7 bg;have a9:Sub m m5:=λz o e=>a2 (M.sub z o e);exact⟨R,107,[.pointer (some ⟨b4,0,none⟩),.pointer (some ⟨b,0,none⟩)],n,λr=>decide (((B.countP λy=>uF gr r y&&decide (j5 od y r<0):Nat):Int)<v.limit),rfl,bM.mono G H (λ_ _ h=>bQ.mono h H),W,λu r j X=>L2 aqJ λK J=>⟨u,b4,b,v,y,gr,od,B,kk,g,r,wd,rfl,Z.at_,a2 M.b_,hg.keep (λo=>g7) (.refl _),f,C,U.group_.mono H,U.order_.mono H,X,d.row r j,d.wid r j,hT.sub a9,J⟩,λL h' le j=>cR.sub a9 (H.trans le) (J L h' (H.trans le) (by have e:v.limit=li:=U.limit_;rw[e]at j;exact j))⟩
def aSt(s:Sl):CV:=.val (.agg ⟨[.slice s.a s.len s.cap]⟩)
def cFQ:Vc.Spec:=λc m h K=>∃v s,c=[aS v,cI 3]/\iU h s v/\K (cI (eX s)) m h
def Ap(st:List ct):=(st.map λl=>(l.length:Int)).sum
def aSJ:Vc.Spec:=λc m h K=>∃s d,c=[aSt s]/\Leaves h s d/\d.length<=1000/\K (cI (Ap d)) m h
def a2Q s t r:=AQ s t&&(match s.tables[t.toNat]? with|some c=>G3 c r|none=>false)
def LA s t r:=match(if AQ s t then s.tables[t.toNat]? else none)with|some c=>pM c r|none=>[]
def cGQ:Vc.Spec:=λc m h K=>∃v s t d r,c=[aS v,cI t,cS d,cI 3]/\iU h s v/\bQ h d r/\K (cB (a2Q s t r)) m h
def aPZ:Vc.Spec:=λc m h K=>∃v s t d r,c=[aS v,cI t,cS d]/\iU h s v/\bQ h d r/\∀e,bQ h e (LA s t r)->K (cS e) m h
def HM:Vc.Spec:=λc m h K=>∃v s e d,c=[aS v,cI 3,aSt e]/\iU h s v/\Leaves h e d/\d.length<=1000/\K (cI (jL s d)) m h
noncomputable def cgZ:=dK [(132,cSZ),(133,RS)] [(7,{A:=Nat×cZ×Sl×MH×PH,st:=λ⟨i,t,s,m,h⟩=>bY 95 99 [(3,iv 3),(9,.at (.ptr 9 0)),(41,sv s),(42,iv s.len),(43,iv i)] [(9,.cells 73 (t.enc.map .val))] m h})] [(12,{A:=Nat×cZ×VV×Sl×Bool×MH×PH,st:=λ⟨i,t,v,s,b,m,h⟩=>bY 95 99 [(3,iv 3),(9,.at (.ptr 9 0)),(10,iv i),(11,.at (.ptr 11 0)),(12,bv b),(41,sv s),(42,iv s.len),(43,iv i)] [(9,.cells 73 (t.enc.map .val)),(11,.cells 30 (v.enc.map .val))] m h}),
 (13,{A:=Nat×cZ×VV×Sl×Bool×Bool×MH×PH,st:=λ⟨i,t,v,s,b,c,m,h⟩=>bY 95 99 [(3,iv 3),(9,.at (.ptr 9 0)),(10,iv i),(11,.at (.ptr 11 0)),(12,bv b),(13,bv c),(41,sv s),(42,iv s.len),(43,iv i)] [(9,.cells 73 (t.enc.map .val)),(11,.cells 30 (v.enc.map .val))] m h})] [] false
noncomputable def cgJ s m h:=dK [] [(3,{A:=Nat×Int,st:=λ⟨i,n⟩=>bY 19 20 [(3,iv n),(7,sv s),(8,iv s.len),(9,iv i)] [] m h})] [] [] false
noncomputable def cnQ(v:bT)(s:Sl)(m:MH)(h:PH):=dK [(90,cFQ),(91,aSJ),(92,cGQ),(94,aPZ),(93,Jv)] [(9,{A:=Nat,st:=λi=>bY 69 72 [(1,iv 3),(3,.at (.ptr 3 0)),(29,sv s),(30,iv s.len),(31,iv i)] [(3,.cells 27 (v.enc.map .val))] m h}),
 (12,{A:=Nat×Sl×Nat,st:=λ⟨i,u,j⟩=>bY 69 72 [(1,iv 3),(3,.at (.ptr 3 0)),(8,iv i),(9,sv u),(29,sv s),(30,iv s.len),(31,iv i),(36,sv u),(37,iv u.len),(38,iv j)] [(3,.cells 27 (v.enc.map .val))] m h})] [] [] false
def Xv(v:bT)(m:MH)(h:PH)(K:cq):=
  KY v h (λs=>dR (eX s) 0 (K (jA (eX s)) m h) (K (jA 0) m h))
def Xu(s:Sl)(m:MH)(h:PH)(K:cq):=
  ∃(I:Nat×Int->Prop)(d:Nat×Int->Nat),(∃(x:Nat×Int),aA (I x) (dA 0 x.2) (aA (aI s) (bI s) (dJ (bA x.1) m m h h)))/\∀(x:Nat×Int),I x->aY (↑x.1:Int) (aG s) (bK (λb o=>aA (aR s.a b o) (0<=(↑x.1:Int)) ((↑x.1:Int)<aG s/\∃(y:Sl),aK m h b (bL o x.1 1) (aL y)/\∃(c:Nat×Int),aA (I c) (d c<d x) (aA (dA (iF (x.2+aG y)) c.2) (aI s) (aA (bI s) (iH (bE x.1 1)=bP c.1) (aA (m=m) (h=h) True)))))) (K (jA x.2) m h)
abbrev rN(a:Nat×cZ×Sl×MH×PH):=a.2.2.1
abbrev Hl(a:Nat×cZ×Sl×MH×PH):=a.2.1
abbrev oW(a:Nat×cZ×Sl×MH×PH):=a.2.2.2
abbrev Lg(a:Nat×cZ×VV×Sl×Bool×MH×PH):=a.2.2.2.2.1
abbrev CF(a:Nat×cZ×VV×Sl×Bool×MH×PH):=a.2.2.2.1
abbrev MD(a:Nat×cZ×VV×Sl×Bool×MH×PH):=a.2.1
abbrev CG(a:Nat×cZ×VV×Sl×Bool×MH×PH):=a.2.2.2.2.2
abbrev zZ(a:Nat×cZ×VV×Sl×Bool×Bool×MH×PH):=a.2.2.2.1
abbrev Hk(a:Nat×cZ×VV×Sl×Bool×Bool×MH×PH):=a.2.1
abbrev tA(a:Nat×cZ×VV×Sl×Bool×Bool×MH×PH):=a.2.2.2.2.2.2
attribute [push_cast] rN Hl oW Lg CF MD CG zZ Hk tA
def Xt(v:bT)(t:Int)(s:Sl)(m:MH)(h:PH)(K:cq):=
  rD (λj n=>∃(u:Int),aA (cT (jO (cC v)) t=cT (jO (cC j)) u) (iU h n j) (pI (AQ n u) (K bD m h) (H5 v t (λb o=>∃(y:cZ),aK m h b (gH o t 5) (Bo y)/\dR (aG s) (BA y) (K bD m h) (∃(I:Nat×cZ×Sl×MH×PH->Prop)(f:Nat×cZ×Sl×MH×PH->Nat),(∃(x:Nat×cZ×Sl×MH×PH),aA (I x) (fI 3) (aA (eP 9) (aW s (rN x)) (aA (bN s (rN x)) (bA x.1) (aA (oQ 73 (jJ y)=oQ 73 (jJ (Hl x))) (bO m (oW x)) (kY (cF h (oW x)))))))/\∀(x:Nat×cZ×Sl×MH×PH),I x->aY (↑x.1:Int) (aG (rN x)) (bK (λz A=>aA (aR (rN x).a z A) (0<=(↑x.1:Int)) ((↑x.1:Int)<aG (rN x)/\∃(g:VV),aK (oW x).1 (oW x).2 z (bL A x.1 3) g.enc/\∃(B:VV),gX (eY
 (lV g) (lV B)) (!(oC B)) (K bD (oW x).1 (oW x).2) (∃(I1:Nat×cZ×VV×Sl×Bool×MH×PH->Prop),fC g.kind 2 (∃(d:Nat×cZ×VV×Sl×Bool×MH×PH),aA (I1 d) (fI 3) (aA (eP 9) (cJ x.1 d.1) (aA nA (kN (decide ((↑x.1:Int)>=(Hl x).key)) (Lg d)) (aA (aW (rN x) (CF d)) (bN (rN x) (CF d)) (aA (cJ x.1 d.1) (oQ 73 (jJ (Hl x))=oQ 73 (jJ (MD d))) (aA (qM 30 g.enc=qM 30 d.2.2.1.enc) (iJ (oW x) (CG d)) (kY (eO (oW x) (CG d))))))))) (∃(d:Nat×cZ×VV×Sl×Bool×MH×PH),aA (I1 d) (fI 3) (aA (eP 9) (cJ x.1 d.1) (aA nA (B6 (Lg d)) (aA (aW (rN x) (CF d)) (bN (rN x) (CF d)) (aA (cJ x.1 d.1) (oQ 73 (jJ (Hl x))=oQ 73 (jJ
 (MD d))) (aA (qM 30 g.enc=qM 30 d.2.2.1.enc) (iJ (oW x) (CG d)) (kY (eO (oW x) (CG d)))))))))/\∀(d:Nat×cZ×VV×Sl×Bool×MH×PH),I1 d->∃(I2:Nat×cZ×VV×Sl×Bool×Bool×MH×PH->Prop),fC d.2.2.1.kind 1 (∃(c:Nat×cZ×VV×Sl×Bool×Bool×MH×PH),aA (I2 c) (fI 3) (aA (eP 9) (cJ d.1 c.1) (aA nA (kN (Lg d) c.2.2.2.2.1) (aA (kN (decide ((↑d.1:Int)>=(MD d).key)) c.2.2.2.2.2.1) (aW (CF d) (zZ c)) (aA (bN (CF d) (zZ c)) (cJ d.1 c.1) (aA (oQ 73 (jJ (MD d))=oQ 73 (jJ (Hk c))) (qM 30 d.2.2.1.enc=qM 30 c.2.2.1.enc) (aA (iJ (CG d) (tA c)) (eO (CG d) (tA c)) True))))))) (∃(c:Nat×cZ×VV×Sl×Bool×Bool×MH×PH),aA (I2 c) (fI 3)
 (aA (eP 9) (cJ d.1 c.1) (aA nA (kN (Lg d) c.2.2.2.2.1) (aA (B6 c.2.2.2.2.2.1) (aW (CF d) (zZ c)) (aA (bN (CF d) (zZ c)) (cJ d.1 c.1) (aA (oQ 73 (jJ (MD d))=oQ 73 (jJ (Hk c))) (qM 30 d.2.2.1.enc=qM 30 c.2.2.1.enc) (aA (iJ (CG d) (tA c)) (eO (CG d) (tA c)) True)))))))/\∀(c:Nat×cZ×VV×Sl×Bool×Bool×MH×PH),I2 c->bK (λC D=>aA (aR (Hk c).columns.a C D) (0<=(↑c.1:Int)) ((↑c.1:Int)<aG (Hk c).columns/\∃(E:Int),aK (tA c).1 (tA c).2 C (bL D c.1 2+1) (bC E)/\dR c.2.2.1.kind E (pI c.2.2.2.2.1 (pI c.2.2.2.2.2.1 (K bD (tA c).1 (tA c).2) (∃(e:Nat×cZ×Sl×MH×PH),aA (I e) (f e<f x) (aA (fI 3) (eP 9) (aA (aW
 (zZ c) (rN e)) (bN (zZ c) (rN e)) (aA (iH (bE c.1 1)=bP e.1) (oQ 73 (jJ (Hk c))=oQ 73 (jJ (Hl e))) (aA (iJ (tA c) (oW e)) (eO (tA c) (oW e)) True)))))) (∃(e:Nat×cZ×Sl×MH×PH),aA (I e) (f e<f x) (aA (fI 3) (eP 9) (aA (aW (zZ c) (rN e)) (bN (zZ c) (rN e)) (aA (iH (bE c.1 1)=bP e.1) (oQ 73 (jJ (Hk c))=oQ 73 (jJ (Hl e))) (aA (iJ (tA c) (oW e)) (eO (tA c) (oW e)) True)))))) (∃(e:Nat×cZ×Sl×MH×PH),aA (I e) (f e<f x) (aA (fI 3) (eP 9) (aA (aW (zZ c) (rN e)) (bN (zZ c) (rN e)) (aA (iH (bE c.1 1)=bP e.1) (oQ 73 (jJ (Hk c))=oQ 73 (jJ (Hl e))) (aA (iJ (tA c) (oW e))
 (eO (tA c) (oW e)) True))))))))))) (K jF (oW x).1 (oW x).2))))))
def Xs(v:bT)(t:Int)(s:Sl)(m:MH)(h:PH)(K:cq):=
  aY t 0 (K EH m h) (iO t (kM v) (K EH m h) (bK (λb o=>aA (aR (wY v) b o) (0<=t) (t<aG v.tables/\∃(y:Int),aA (aK m h b (gH o t 5+2) (bC y)) (0<=ite (oX s y>0) (oX s y) 0) (ite (oX s y>0) (oX s y) 0<=(↑s.cap:Int)/\K (CV.val (Value.slice s.a (ite (oX s y>0) (oX s y) 0).toNat s.cap)) m h)))))
abbrev nH(a:Nat×Sl×Nat):=a.2.1
abbrev Iw(a:Nat×Sl×Nat):=iF ((↑a.2.2:Int)-1)
attribute [push_cast] nH Iw
def XO(v:bT)(s:Sl)(m:MH)(h:PH)(K:cq):=
  rD (λA n=>aA (cT (jO (cC v)) 3=cT (jO (cC A)) 3) (iU h n A) (dR (eX n) 0 (K (jA (eX n)) m h) (FP (λB u=>aA (eY (jO (aL s)) (jO (aL B))) (Leaves h B u) (mY u.length/\dQ (decide (Ap u>512)) (K (jA 2) m h) (aG s !=kM v) (K (jA 80) m h) (nI (λI x=>aA (I x) (fI 3) (aA (eP 3) (aI s) (aA (bI s) (bA x) (aA (cV v) (m=m) (bU h h))))) (λI C x=>I x->aY (↑x:Int) (aG s) (bK (λb o=>aA (aR s.a b o) (0<=(↑x:Int)) ((↑x:Int)<aG s/\∃(y:Sl),aK m h b (bL o x 1) (aL y)/\∃(I1:Nat×Sl×Nat->Prop)(e:Nat×Sl×Nat->Nat),(∃(c:Nat×Sl×Nat),aA (I1 c) (fI 3) (aA (eP 3) (cJ x c.1) (aA (aW y (nH c)) (aI s) (aA (bI s) (cJ x c.1) (aA (aW y (nH c))
 (bN y (nH c)) (aA (bA c.2.2) (cV v) (eM m m h h)))))))/\∀(c:Nat×Sl×Nat),I1 c->aY (↑c.2.2:Int) (aG (nH c)) (bK (λD E=>aA (aR (nH c).a D E) (0<=(↑c.2.2:Int)) ((↑c.2.2:Int)<aG (nH c)/\∃(z:Sl),aK m h D (bL E c.2.2 1) (aL z)/\rD (λF G=>∃(t:Int),pX (λH r=>aA (cE (cC v) (jA (↑c.1:Int)::j3 z 3)=cE (cC F) (jA t::j3 H 3)) (iU h G F) (bQ h H r/\qC (!(a2Q G t r)) (K (jA 80) m h) (↑c.2.2:Int) 0 (bK (λf g=>aA (aR (nH c).a f g) (0<=Iw c) (Iw c<aG (nH c)/\∃(j:Sl),aK m h f (gH g (Iw c) 1) (aL j)/\rD (λJ L=>∃(M:Int),pX (λO P=>aA (cE (cC v) (gJ (↑c.1:Int) (nW j))=cE (cC J) (gJ M
 (nW O))) (iU h L J) (bQ h O P/\∀(Q:Sl),bQ h Q (LA L M P)->cO h f (gH g (Iw c) 1) (aL j)/\rD (λR S=>∃(T:Int),pX (λa U=>aA (cE (cC v) (gJ (↑c.1:Int) (nW z))=cE (cC R) (gJ T (nW a))) (iU h S R) (bQ h a U/\∀(V:Sl),bQ h V (LA S T U)->cO h f (gH g (Iw c) 1) (aL j)/\∃(W:Sl),pX (λX Y=>∃(Z:cz),aA (cD Q V=cD W X) (bQ h W Y) (bQ h X Z/\iO (fG Y Z) 0 (K (jA 80) m h) (∃(d:Nat×Sl×Nat),aA (I1 d) (e d<e c) (aA (fI 3) j8 (aA (cJ c.1 d.1) (aW (nH c) (nH d)) (aA (aI s) (bI s) (aA (cJ c.1 d.1) (aW (nH c) (nH d)) (aA (bN (nH c) (nH d)) (iH (bE c.2.2 1)=bP d.2.2) (dJ (cV v) m m h
 h)))))))))))))))))) (∃(d:Nat×Sl×Nat),aA (I1 d) (e d<e c) (aA (fI 3) j8 (aA (cJ c.1 d.1) (aW (nH c) (nH d)) (aA (aI s) (bI s) (aA (cJ c.1 d.1) (aW (nH c) (nH d)) (aA (bN (nH c) (nH d)) (iH (bE c.2.2 1)=bP d.2.2) (dJ (cV v) m m h h))))))))))))) (∃(d:Nat),aA (I d) (C d<C x) (aA (fI 3) j8 (aA (aI s) (bI s) (aA (iH (bE c.1 1)=bP d) (cV v) (eM m m h h)))))))) (K (jA 0) m h))))))))
theorem bQ.cut{a len c r}(x:bQ h ⟨a,len,c⟩ r){n}(f:n<=r.length):bQ h ⟨a,n,c⟩ (r.take n):=by
 obtain⟨⟨d,e,g,j⟩,o⟩:=x;refine⟨⟨d.take n,by rw[map_take];exact dH.cut e n bg,bg,λi x u=>?_⟩,bg⟩
 grind
theorem cOQ{v}(d:iU h s v)(c:K (cI (eX s)) m h):Xv v m h K:=
 ⟨v,s,rfl,d,aD (λ_=>c) (λe=>by rw[show eX s=0 by simpa using e]at c;exact c)⟩
theorem a4X:cm 90 cFQ:=by
 refine jC func90 ?_;rintro c m h K ⟨v,s,rfl,d,e⟩;refine⟨dK [(73,C5)] [] [] [] false,rfl,aE MU aH,Xv v m h K,ax,?_⟩;exact cOQ d e
theorem Leaves.lens{s st}(c:Leaves h s st){l}(d:l∈st):l.length<=502633886983:=by
 obtain⟨i,e,rfl⟩:=mem_iff_getElem.1 d;obtain⟨_,_,_,_,_,f⟩:=bM.at c (bn e);exact f.len
theorem HI:∀{l:List ct},(∀x∈l,x.length<=502633886983)->0<=Ap l/\Ap l<=(l.length:Int)*502633886983
 |[],_=>by simp[Ap]
 |a::l,h=>by
  have e:=h a (mem_cons_self ..);have c:=HI (l:=l) λx d=>h x (mem_cons_of_mem _ d);simp only[Ap,map_cons,sum_cons,ci]at c⊢
  omega
theorem atQ{st:List ct}{l}(h:st[i]? =some l):Ap (st.take (i+1))=Ap (st.take i)+(l.length:Int):=by
 rw[cd,h];simp[Ap]
theorem a4Q:cm 91 aSJ:=by
 refine jC func91 ?_;rintro A m h K ⟨s,c,rfl,f,J,B⟩;refine⟨cgJ s m h,rfl,aH,Xu s m h K,ax,?_⟩;dsimp only[Xu,push_cast];have g:=bM.slen f;refine⟨λz=>z.1<=c.length/\z.2=Ap (c.take z.1),λz=>c.length-z.1,⟨(0,0),⟨ay,by simp[Ap]⟩,MT⟩,?_⟩;rintro⟨i,n⟩ ⟨C,e⟩;dsimp only at C e⊢
 subst e;refine aF (λj=>?_) (λD=>?_)
 .obtain⟨l,d⟩:=fK g j;obtain⟨b,o,u,E,rd,F⟩:=bM.at f d;have y:=bM.slen F;have G:=HI (l:=c.take (i+1)) λx d=>f.lens (mem_of_mem_take d);have H:=(HI (l:=c.take i) λx d=>f.lens (mem_of_mem_take d)).1;have I:=atQ d;rw[length_take]at G;refine⟨b,o,E,aC,aC,u,.imm rd,(i+1,Ap (c.take (i+1))),⟨aC,rfl⟩,aC,?_⟩;rw[fL aC aC,y, <-I];exact MT
 .rw[bt aC];exact B
theorem HE{t r}:G3 t r=true↔r.length=t.columns.length/\∀i,i<r.length->CP t.key (t.columns.getD i ⟨⟨#[]⟩,0⟩).kind i (r.getD i zeroV)=true:=by
 simp only[G3,bz,ce,all_eq_true,mem_range]
theorem Xo{t r c}(d:s.tables[t.toNat]? =some c)(h:AQ s t=true):a2Q s t r=G3 c r:=by
 simp only[a2Q,h,d,Bool.true_and]
theorem a3J:cm 92 cGQ:=by
 refine jC func92 ?_;rintro a' m h K ⟨v,s,t,L,r,rfl,M,O,C⟩;refine⟨cgZ,rfl,aE RC (aE RB aH),Xt v t L m h K,ax,?_⟩;dsimp only[Xt,push_cast];have a0:=M.tables.slen;have a1:=bM.slen O;refine⟨v,s,t,rfl,M,aD (λe=>?_) (λe=>?_)⟩
 .have e:AQ s t=false:=bk e
  simp only[a2Q,e,Bool.false_and]at C;exact C
 have e:AQ s t=true:=bk e
 have Z:=e;simp only[AQ,bz,ce]at Z;obtain⟨d,E⟩:∃d,s.tables[t.toNat]? =some d:=⟨_,bn aC⟩
 obtain⟨b,o,y,ea,rd,P⟩:=bM.at M.tables E;rw[Xo E e]at C;have a2:=bM.slen P.columns;have hk:=P.key;refine⟨b,o,ea,Z.1,aC,y,.imm rd,aD (λH=>?_) (λH=>?_)⟩
 .have:G3 d r=false:=by
   cases f:G3 d r with
   |false=>rfl
   |true=>
    have:=(HE.1 f).1
    grind
  rw[this]at C;exact C
 have Q:r.length=d.columns.length:=bg
 have bad:∀i,i<r.length->CP d.key (d.columns.getD i ⟨⟨#[]⟩,0⟩).kind i (r.getD i zeroV)=false->K (cB false) m h:=λi R F=>by
  have:G3 d r=false:=by
   cases f:G3 d r with
   |false=>rfl
   |true=>rw[(HE.1 f).2 i R]at F;cases F
  grind
 refine⟨λz=>z.2.1=y/\z.2.2.1=L/\z.2.2.2.1=m/\z.2.2.2.2=h/\z.1<=r.length/\∀j,j<z.1->CP d.key (d.columns.getD j ⟨⟨#[]⟩,0⟩).kind j (r.getD j zeroV)=true,λz=>r.length-z.1,⟨(0,y,L,m,h),⟨rfl,rfl,rfl,rfl,ay,λj S=>by simp at S⟩,MT⟩,?_⟩;rintro⟨i,n,A,m',h'⟩ ⟨H,f,I,J,R,B⟩;dsimp only at H f I J R B⊢
 subst H f I J;refine aF (λa3=>?_) (λa4=>?_)
 .have T:i<r.length:=by omega
  have hx:r[i]? =some (r.getD i zeroV):=bg
  obtain⟨b2,o2,x,U,G,V⟩:=bM.at O hx;subst V;have hc:d.columns[i]? =some (d.columns.getD i ⟨⟨#[]⟩,0⟩):=bg
  obtain⟨b3,o3,c,W,X,Y⟩:=bM.at P.columns hc;have g:=bad i T
  have u:CP d.key (d.columns.getD i ⟨⟨#[]⟩,0⟩).kind i (r.getD i zeroV)=true->∀j,j<i+1->CP d.key (d.columns.getD j ⟨⟨#[]⟩,0⟩).kind j (r.getD j zeroV)=true:=λF j S=>by
   grind
  generalize r.getD i zeroV=x at g u G hx;rw[Y]at g u;have go:CP d.key c.kind i x=true->∃z:Nat×cZ×Sl×MH×PH,(z.2.1=n/\z.2.2.1=A/\z.2.2.2.1=m'/\z.2.2.2.2=h'/\z.1<=r.length/\∀j,j<z.1->CP d.key (d.columns.getD j ⟨⟨#[]⟩,0⟩).kind j (r.getD j zeroV)=true)/\r.length-z.1<r.length-i/\z=(i+1,n,A,m',h'):=λF=>⟨_,⟨rfl,rfl,rfl,rfl,aC,u F⟩,aC,rfl⟩
  refine⟨b2,o2,U,aC,aC,x,.imm G,x,rfl,aD (λev=>g ?_) (λev=>?_)⟩
  .have ev:oC x=false:=bg
   simp[CP,ev]
  have ev:oC x=true:=bg
  refine⟨λz=>z=(i,n,x,A,(x.kind==2&&decide ((i:Int)>=n.key)),m',h'),aD (λf=>⟨_,rfl,by rw[f];exact MT⟩) (λf=>⟨_,rfl,by rw[f];exact MT⟩),?_⟩;rintro _ rfl;dsimp only;refine⟨λz=>z=(i,n,x,A,(x.kind==2&&decide ((i:Int)>=n.key)),(x.kind==1&&decide ((i:Int)>=n.key)),m',h'),aD (λf=>⟨_,rfl,by rw[f];exact MT⟩) (λf=>⟨_,rfl,by rw[f];exact MT⟩),?_⟩;rintro _ rfl;dsimp only
  have D:CP d.key c.kind i x=(x.kind==c.kind||((x.kind==2&&decide ((i:Int)>=n.key))||(x.kind==1&&decide ((i:Int)>=n.key)))):=by
   rw[hk];simp only[CP,ev,Bool.true_and,ge_iff_le,Bool.and_or_distrib_right]
  generalize a5:(x.kind==2&&decide ((i:Int)>=n.key))=B1 at D⊢
  generalize a6:(x.kind==1&&decide ((i:Int)>=n.key))=B2 at D⊢
  refine⟨b3,o3,W,aC,aC,c.kind,.imm (cO.part X 1 1),aD (λI=>aD (λJ=>aD (λe5=>g ?_) (λe5=>?_)) (λJ=>?_)) (λI=>?_)⟩
  .grind
  all_goals
   obtain⟨_,g1,g2,rfl⟩:=go (by rw[D];simp_all);refine⟨_,g1,g2,?_⟩;dsimp only;rw[jK (by have:=bM.len O;omega)];exact MT
 .have:G3 d r=true:=HE.2 ⟨Q,λj S=>B j aC⟩;rw[this]at C;exact C
theorem a3Z:cm 94 aPZ:=by
 refine jC func94 ?_;rintro D m h K ⟨v,s,t,z,r,rfl,A,n,B⟩;refine⟨dK [] [] [] [] false,rfl,aH,Xs v t z m h K,ax,?_⟩;dsimp only[Xs,push_cast];have E:=A.tables.slen;have d:=bM.slen n;have c:AQ s t=false->K EH m h:=λe=>B ⟨none,0,0⟩ (by simp only[LA,e];exact bM.nil _ _ _ _);refine aF (λF=>c (by simp[AQ];omega)) (λF=>aF (λG=>c (by simp[AQ];omega)) (λG=>?_));have e:AQ s t=true:=by simp[AQ];omega
 obtain⟨f,g⟩:∃f,s.tables[t.toNat]? =some f:=⟨_,bn aC⟩
 obtain⟨b,o,y,H,rd,I⟩:=bM.at A.tables g;have M:=I.key;obtain⟨a,len,j⟩:=z;have C:len<=j:=by obtain⟨O,J,_⟩:=n.ex;exact J.cap
 have d:len=r.length:=d
 have u:(if(if(len:Int)<y.key then(len:Int)else y.key)>0 then(if(len:Int)<y.key then(len:Int)else y.key)else 0)=max 0 (min f.key r.length):=by
  omega
 refine⟨b,o,H,aC,aC,y.key,.imm (cO.part rd 2 1),?_⟩;dsimp only;rw[u];refine⟨aC,aC,B ⟨a,(max 0 (min f.key r.length)).toNat,j⟩ ?_⟩;have L:LA s t r=r.take (max 0 (min f.key r.length)).toNat:=by simp only[LA,e,if_true,g];rfl
 rw[L];exact n.cut aC
theorem II{t:Nat}{c}(h:s.tables[t]? =some c) r:LA s t r=pM c r:=by
 have:t<s.tables.length:=(bm h);have e:AQ s (t:Int)=true:=by simp[AQ];omega
 simp only[LA,e,if_true,Int.toNat_natCast,h]
theorem aGZ{t:Nat}{c}(h:s.tables[t]? =some c) r:a2Q s t r=G3 c r:=by
 have:t<s.tables.length:=(bm h);have e:AQ s (t:Int)=true:=by simp[AQ];omega
 exact Xo (bk h) e
theorem Tk:cm 49 HM:=by
 refine jC func49 ?_;rintro b' m h K ⟨v,s,X,G,rfl,L,Y,Z,d⟩;refine⟨cnQ v X m h,rfl,aE a4X (aE a4Q (aE a3J (aE a3Z (aE E4 aH)))),XO v X m h K,ax,?_⟩;dsimp only[XO,push_cast];have b0:=L.tables.slen;have a':=bM.slen Y;unfold jL at d;refine⟨v,s,rfl,L,aD (λe=>?_) (λe=>⟨X,G,rfl,Y,Z,aF (λH=>?_) (λH=>aD (λe3=>?_) (λe3=>?_))⟩)⟩
 .rw[if_pos (bk e)]at d;exact d
 all_goals rw[if_neg (bk e)]at d
 .rw[if_pos (by unfold Ap at H;omega)]at d;exact d
 all_goals rw[if_neg (by unfold Ap at H;omega)]at d
 .rw[if_pos bg]at d;exact d
 have M:G.length=s.tables.length:=bg
 rw[if_neg (by simp[M])]at d;have bad:¬PZ s G->K (cI 80) m h:=λhb=>bg
 refine⟨λi=>i<=G.length/\∀(j:Nat) t l,j<i->s.tables[j]? =some t->G[j]? =some l->SC t l,λi=>G.length-i,⟨0,⟨ay,λj t l hj=>by omega⟩,MT⟩,?_⟩;rintro i ⟨hi,O⟩;refine aF (λa0=>?_) (λb1=>?_)
 .obtain⟨l,hx⟩:=fK a' a0;obtain⟨b,o,u,ea,rd,I⟩:=bM.at Y hx;have a1:=bM.slen I;have b4:=bM.len I;obtain⟨y,c⟩:∃y,s.tables[i]? =some y:=⟨_,bn aC⟩
  have A:¬SC y l->K (cI 80) m h:=λhb=>bad λf=>hb (f i y l c hx);refine⟨b,o,ea,aC,aC,u,.imm rd,λz=>z.1=i/\z.2.1=u/\z.2.2<=l.length/\(∀k r,k<z.2.2->l[k]? =some r->G3 y r=true)/\∀k r J,k+1<z.2.2->l[k]? =some r->l[k+1]? =some J->fG (pM y r) (pM y J)<0,λz=>l.length-z.2.2,⟨(i,u,0),⟨rfl,rfl,ay,λk r D=>by simp at D,λk r J D=>by simp at D⟩,MT⟩,?_⟩;rintro⟨E,u',j⟩ ⟨e1,H,hj,B,C⟩;dsimp only at e1 H hj B C⊢
  subst e1 H;refine aF (λP=>?_) (λa9=>?_)
  .obtain⟨r,Q⟩:=fK a1 P;obtain⟨b2,o2,w,a2,a3,hv⟩:=bM.at I Q;refine⟨b2,o2,a2,aC,aC,w,.imm a3,v,s,E,w,r,rfl,L,hv,aD (λV=>A λf=>?_) (λV=>?_)⟩
   .rw[aGZ c,f.1 r (bo Q)]at V;cases V
   have hf:G3 y r=true:=by rw[aGZ c]at V;grind
   have g:∀k r,k<j+1->l[k]? =some r->G3 y r=true:=λk J D b5=>by
    grind
   refine aF (λa4=>?_) (λa4=>?_)
   .have hw:IntKind.i64.wrap ((j:Int)-1)=((j-1:Nat):Int):=by rw[fL aC aC];omega
    obtain⟨W,R⟩:∃W,l[j-1]? =some W:=⟨_,bn aC⟩
    obtain⟨b3,o3,w3,a5,F,a6⟩:=bM.at I R;rw[hw];refine⟨b3,o3,a5,aC,aC,w3,.imm F,v,s,E,w3,W,rfl,L,a6,λs1 a7=>⟨F,v,s,E,w,r,rfl,L,hv,λs2 a8=>⟨F,s1,s2,_,_,rfl,a7,a8,aF (λhc=>A λf=>?_) (λhc=>?_)⟩⟩⟩
    .rw[II c,II c]at hc;have:=f.2 (j-1) W r R bg;omega
    .rw[II c,II c]at hc;refine⟨(E,u',j+1),⟨rfl,rfl,bg,g,λk r1 r2 D S T=>?_⟩,bg,?_⟩
     .grind
     .dsimp only;rw[jK aC];exact MT
   .refine⟨(E,u',j+1),⟨rfl,rfl,bg,g,λk r1 r2 D S T=>bg⟩,bg,?_⟩;dsimp only;rw[jK aC];exact MT
  .refine⟨E+1,⟨aC,λk t l' D ht U=>?_⟩,aC,?_⟩
   .by_cases e5:k=E
    .subst e5;rw[c]at ht;cases ht;rw[hx]at U;cases U;refine⟨λr I=>?_,λk r J S T=>C k r J ?_ S T⟩
     .obtain⟨n,Z,rfl⟩:=mem_iff_getElem.1 I;exact B n _ aC (bn Z)
     grind
    grind
   .rw[jK aC];exact MT
 .rw[if_pos]at d
  .exact d
  .exactλj t l S T=>O j t l bg S T
noncomputable def brJ s st q:=
 if(eH s [] q).2≠0 then([],(eH s [] q).2)else if jL s st≠0 then([],jL s st)else(dY st q,0)
def aUX(st:List ct)(q:Query):=∃c,1<=c/\(∀l∈st,l.length<=c)/\iD c q<=8000000
structure DG(h:PH)(sl:Sl)(st:List ct):Prop where
 lea:Leaves h sl st
 len:st.length<=1000
 val:StV st
theorem DG.mono{sl st}(x:DG h sl st)(le:PH.le h h'):DG h' sl st:=⟨bM.mono x.lea le λl s c=>bM.mono c le λr t d=>bQ.mono d le,x.len,x.val⟩
def cXX:Vc.Spec:=λd m h K=>∃v s e c w q,d=[aS v,aSt e,aQ w]/\iU h s v/\DG h e c/\dO h q w/\tT q=true/\eK m/\((eH s [] q).2=0->jL s c=0->aUX c q)/\∀f h',PH.le h h'->Rows h' f (brJ s c q).1->K (.tup [cS f,cI (brJ s c q).2]) m h'
noncomputable def cqZ(w:QV)(sl:Sl):=dK [(37,Eg),(49,HM),(59,bZX),(60,aOJ)] [(10,{A:=Nat×cw×Sl×MH×PH,st:=λ⟨i,c,s,m,h⟩=>bY 54 57 [(4,.at (.ptr 4 0)),(5,.at (.ptr 5 0)),(12,.at (.lst 34)),(35,sv s),(36,iv s.len),(37,iv i)] [(4,.cells 52 [.val (.slice sl.a sl.len sl.cap)]),(5,.cells 41 (w.enc.map .val)),(34,.lst 58 1 (c.map eS))] m h})] [] [] false
abbrev Ih a:=eQ (oQ 52 (uH (yY a)))
abbrev Ii a b c d e g:=bW 58 a (List.set b (nL c) (GS (dW d) a e))=oI 58 a g
attribute [push_cast] Ih Ii
def X9 v sl w m h K:=
  FY (cE (cC v) (tN EH (cM w))) h (λs p q=>CL q/\∀(P:Sl)(c:PH),bS h c (Ints c P (eH s p q).1) (dR (eH s p q).2 0 (K (CV.tup (tN EH (CV.val (gZ (eH s p q).2)))) m c) (rD (λD u=>FP (λE n=>aA (cE (cC v) (gJ 3 (jO (aL sl)))=cE (cC D) (gJ 3 (jO (aL E)))) (iU c u D) (aA (Leaves c E n) (mY n.length) (dR (jL u n) 0 (cG K (jL u n) m c) (rB (λF z=>aA (eY (cM w) (cM F)) (dO c z F) (oZ z<=900000/\∀(f:Sl)(A:PH),bS c A (Ints A f (bR z)) (CH f 24 (Pq (λI x=>aA (I x) (eP 4) (aA (eP 5) (eL 34) (aA (aW f (iI x)) (bN f (iI x)) (aA (bA x.1) (Ih sl) (aA (fU w) (bW 58 1 (tW (aG f) gW)=oI 58 1 x.2.1) (aA (bO m
 (kF x)) (cF A (kF x)) True)))))) (λI G x=>I x->aY (↑x.1:Int) (aG (iI x)) (bK (λb o=>aA (aR (iI x).a b o) (0<=(↑x.1:Int)) ((↑x.1:Int)<aG (iI x)/\∃(y:Int),aK (kF x).1 (rQ x) b (bL o x.1 1) (bC y)/\bK (λH J=>aA (aR sl.a H J) (0<=y) (y<aG sl/\∃(L:Sl),aA (aK (kF x).1 (rQ x) H (gH J y 1) (aL L)) (0<=(↑x.1:Int)) ((↑x.1:Int)<nN (rO x)/\∃(e:cr),QF (mH (rO x) (nL x.1) e) (wJ 0 e) (λd=>aA (I d) (G d<G x) (aA (eP 4) fT (aA (eL 34) (aW (iI x) (iI d)) (aA (bN (iI x) (iI d)) (iH (bE x.1 1)=bP d.1) (aA (Ih sl) (fU w) (aA (Ii 1 (rO x) x.1 L e d.2.1) (iJ (kF x) (kF d)) (kY (eO (kF x) (kF d)))))))))))))))
 (cK (rQ x) 1 (rO x) (λQ B=>∃(l:Sl)(M:QV)(g:List ct)(j:Query),aA (gO Q (cM w)=gO l (cM M)) (Leaves B l g) (aA (dO B j M) (okQ g j 0) (aA (eK (kF x).1) (B7 (gQ g j 0).1) (Ij (gQ g j 0).1 (λr=>Et r)/\∀(O:Sl)(C:PH),bS B C (Rows C O (gQ g j 0).1) (K (CV.tup (cT (nW O) 0)) (kF x).1 C)))))))))))))))))))
mutual
theorem HV:∀q:Query,(bR q).length<=oZ q
 |.mk op ta _ _ _ _ _ _ args=>by
  have:=Qc args;rw[bR,oZ,br]
  grind
theorem Qc:∀c:db,(dU c).length<=mD c
 |[]=>by simp[dU,mD]
 |q::c=>by
  have:=HV q;have:=Qc c;rw[dU,mD,br];omega
end
theorem bdZ:cm 23 cXX:=by
 refine jC func23 ?_;rintro a7 m h K ⟨v,s,Q,B,w,q,rfl,hs,f,R,I,hT,hb,g⟩;refine⟨cqZ w Q,rfl,aE JR (aE Tk (aE ap (aE a9Z aH))),X9 v Q w m h K,ax,?_⟩;dsimp only[X9,push_cast];unfold brJ at g;refine⟨v,cH,w,s,[],q,rfl,hs,oL h,R,I,λa8 h1 d _=>aD (λe=>?_) (λe=>?_)⟩
 .rw[if_pos (bk e)]at g;exact g ⟨none,0,0⟩ h1 d (bM.nil _ _ _ _)
 have e:(eH s [] q).2=0:=bk e
 rw[if_neg (by simp[e])]at g;refine⟨v,s,Q,B,rfl,hs.mono d,(f.mono d).lea,f.len,aD (λG=>?_) (λG=>?_)⟩
 .rw[if_pos bg]at g;exact g ⟨none,0,0⟩ h1 d (bM.nil _ _ _ _)
 have G:jL s B=0:=bg
 rw[if_neg (by simp[G])]at g;dsimp only at g;obtain⟨c,c1,c2,c3⟩:=hb e G;obtain⟨_,_,_,S⟩:=DN e;have J:aJ s [] q=((aJ s [] q).1,0):=Prod.ext rfl S;obtain⟨ok,ev,T,len⟩:=Db G f.val c2 c1 J c3;have a4:=Ml I;have U:=HV q;have L:=De J;have a9:=(P4 G).2.1;refine⟨w,q,rfl,R.mono d,aC,λV W C X=>?_⟩;have M:=X.slen;have y:=f.mono (d.trans C);have a5:=bM.slen y.lea;generalize D:bR q=ts at X M U L;refine⟨aC,aC,aC,aC,λz=>z.1<=ts.length/\z.2.2.1=V/\z.2.2.2.1=m/\z.2.2.2.2=W/\∃H,z.2.1=H++replicate (ts.length-z.1) ⟨none,0,0⟩/\H.length=z.1/\∀(j:Nat) u t,H[j]? =some u->ts[j]? =some t->Rows W u (B.getD t.toNat []),λz=>ts.length-z.1,⟨(0,replicate ts.length ⟨none,0,0⟩,V,m,W),⟨ay,rfl,rfl,rfl,[],ay,rfl,λj u t h=>by simp at h⟩,?_⟩,?_⟩
 .rw[show((V.len:Int)).toNat=ts.length by omega];dsimp only;rw[map_replicate];exact MT
 rintro⟨i,l,s2,m2,h3⟩ ⟨Y,e3,e4,e5,H,O,E,A⟩;dsimp only at Y e3 e4 e5 O E A⊢
 subst e3 e4 e5;refine aF (λZ=>?_) (λb'=>?_)
 .obtain⟨t,F⟩:=fK M Z;obtain⟨b,o,ea,rd⟩:=X.at' F;have ht:=L t (bo F);have b0:t.toNat<B.length:=by omega
  have e6:B[t.toNat]? =some (B.getD t.toNat []):=bg
  obtain⟨b2,o2,u,a',a0,P⟩:=bM.at y.lea e6;have b1:l.length=ts.length:=bg
  have a1:l[i]? =some ⟨none,0,0⟩:=by
   grind
  refine⟨b,o,ea,aC,aC,t,.imm rd,b2,o2,a',ht.1,aC,u,.imm a0,aC,bg,[pF],by rw[getElem?_map,show((i:Int)).toNat=i from rfl,a1];rfl,ay,(i+1,l.set i u,s2,m2,h3),⟨aC,rfl,rfl,rfl,H++[u],?_,by simp[E],λj u' t' h7 h8=>?_⟩,aC,?_⟩
  .dsimp only;rw[O,set_append,if_neg aC,append_assoc];congr 1;rw[show ts.length-i=(ts.length-(i+1))+1 by omega,replicate_succ,show i-H.length=0 by omega];rfl
  .grind
  .dsimp only
   have e9:((l.map eS).set ((i:Int)).toNat (dW u::List.drop 1 [pF]))=(l.set i u).map eS:=by
    rw[map_set];rfl
   rw[e9,jK aC];exact MT
 .have:i=ts.length:=by omega
  subst this;rw[Nat.sub_self,replicate_zero,append_nil]at O;subst O;intro s3 h4 n a2;refine⟨s3,w,kP B q,q,rfl,⟨⟨l,a2,by rw[kP,length_map,D,E],λi x F=>?_⟩,by rw[kP,length_map,D];omega⟩,R.mono ((d.trans C).trans n),ok,hT,bg,λr P=>?_,λs5 h5 a3 P=>g s5 h5 (((d.trans C).trans n).trans a3) bg⟩
  .rw[kP,D,getElem?_map]at F;cases e7:ts[i]? with
   |none=>grind
   |some t=>
    rw[e7]at F;simp only[Option.map_some,bx]at F;subst F;have a6:=(bm e7);exact⟨l[i],bn aC,bM.mono (A i _ t (bn aC) e7) n λr t hv=>bQ.mono hv n⟩
  .rw[ev]at P;have:=(T.row r P).len;omega
noncomputable def pG st ts:=(List.range ts.length).map λi=>dY st (aU ts i)
structure Jf(s:jZ)(st:List ct)(ts:de):Prop where
 ar:∀(i:Nat) t,ts[i]? =some t->0<=arity t.op
 fit:∀(i:Nat) t,ts[i]? =some t->qJ i t
 kinds:∀i,i<ts.length->(aJ s [] (aU ts i)).2=0
 bnd:∃c,1<=c/\(∀l∈st,l.length<=c)/\∀i,i<ts.length->iD c (aU ts i)<=8000000
def cXQ:Vc.Spec:=λd m h K=>∃sc e p r s c ts rs,d=[aS sc,aSt e,aPl p r]/\iU h s sc/\DG h e c/\rR h p r ts rs/\eK m/\(jQ s ts rs=0->jL s c=0->Jf s c ts)/\
 (jQ s ts rs≠0->K (.tup [EH,cI (jQ s ts rs)]) m h)/\(jQ s ts rs=0->jL s c≠0->K (.tup [EH,cI (jL s c)]) m h)/\(jQ s ts rs=0->jL s c=0->∀f h',PH.le h h'->Leaves h' f (pG c ts)->K (.tup [cS f,cI 0]) m h')
noncomputable def cvX(sl p:Sl):=dK [(48,R3),(49,HM),(50,YZ),(51,UN)] [(9,{A:=Nat×cw×MH×PH,st:=λ⟨i,c,m,h⟩=>bY 85 88 [(4,.at (.ptr 4 0)),(11,.at (.lst 34)),(36,sv p),(37,iv p.len),(38,iv i)] [(4,.cells 52 [.val (.slice sl.a sl.len sl.cap)]),(34,.lst 58 1 (c.map eS))] m h}),
 (16,{A:=Nat×Nat×cw×MH×PH,st:=λ⟨i,n,c,m,h⟩=>bY 85 88 [(11,.at (.lst 34)),(71,.at (.lst 34)),(72,iv n),(73,iv i)] [(34,.lst 58 1 (c.map eS))] m h})] [] [] false
abbrev lN(a:Nat×cw×MH×PH):=a.2.2
abbrev pS(a:Nat×cw×MH×PH):=fJ a.2.1
attribute [push_cast] lN pS
def Rx sc sl p r m h K:=
  ∃(s:bT),rC (λH J=>∃(D:jZ)(t:de)(E:cn),aA (eU (cC sc) (jO (kC (dW p) (dW r)))=eU (cC s) (jO (kC (dW H) (dW J)))) (iU h D s) (rR h H J t E/\∀(_:Sl),dR (jQ D t E) 0 (cG K (jQ D t E) m h) (rD (λv F=>FP (λL A=>aA (cE (cC sc) (gJ 3 (jO (aL sl)))=cE (cC v) (gJ 3 (jO (aL L)))) (iU h F v) (aA (Leaves h L A) (mY A.length) (dR (jL F A) 0 (cG K (jL F A) m h) (CH p 24 (∃(I:Nat×cw×MH×PH->Prop)(B:Nat×cw×MH×PH->Nat),(∃(x:Nat×cw×MH×PH),aA (I x) (eP 4) (aA (eL 34) (aI p) (aA (bI p) (bA x.1) (aA (Ih sl) (bW 58 1 (tW (aG p) gW)=oI 58 1 x.2.1) (aA (bO m (lN x)) (cF h (lN x)) True)))))/\∀(x:
 Nat×cw×MH×PH),I x->aY (↑x.1:Int) (aG p) (bK (λb o=>aA (aR p.a b o) (0<=(↑x.1:Int)) ((↑x.1:Int)<aG p/\∃(y:xA),aK (lN x).1 (lN x).2 b (bL o x.1 22) y.enc/\fC y.op 1 (bK (λM O=>aA (aR sl.a M O) (0<=y.table) (y.table<aG sl/\∃(n:Sl),aA (aK (lN x).1 (lN x).2 M (gH O y.table 1) (aL n)) (0<=(↑x.1:Int)) ((↑x.1:Int)<nN (pS x)/\∃(e:cr),aA (mH (pS x) (nL x.1) e) (wJ 0 e) (∃(c:Nat×cw×MH×PH),aA (I c) (B c<B x) (aA (eP 4) (eL 34) (aA (aI p) (bI p) (aA (iH (bE x.1 1)=bP c.1) (Ih sl) (aA (Ii 1 (pS x) x.1 n e c.2.1) (iJ (lN x) (lN c)) (eO (lN x) (lN c)/\True)))))))))) (qS y.left (pS x) (λe=>mH (pS x) y.left.toNat e/\∃
 (n:Sl),aA (uI 1 e (aL n)) (0<=y.right) (y.right<nN (pS x)/\∃(j:cr),mH (pS x) y.right.toNat j/\∃(P:Sl),uI 1 j (aL P)/\QC (λQ d=>∃(u:Sl),JO (λz l C=>aA (cE y.enc (cD n P)=cE Q.enc (cD u z)) (uW (lN x).2 d Q) (aA (Rows (lN x).2 u l) (Rows (lN x).2 z C) (aA (eK (lN x).1) (2<=d.op) (aA (d.op<=10) (Qr d.op (Query.mk d.op d.table d.wher d.columns d.on d.group d.order d.limit []) [l,C]) (aA (B7 l) (B7 C) (∀(R:Sl)(f:PH),bS (lN x).2 f (Rows f R (ET d.op (Query.mk d.op d.table d.wher d.columns d.on d.group d.order d.limit []) [l,C])) (qS (↑x.1:Int) (pS x) (λG=>aA (mH (pS x) (nL x.1) G) (wJ 0 G) (∃(c:Nat×cw×MH×PH),aA (I c) (B
 c<B x) (aA (eP 4) (eL 34) (aA (aI p) (bI p) (aA (iH (bE x.1 1)=bP c.1) (Ih sl) (aA (Ii 1 (pS x) x.1 R G c.2.1) (iJ (lN x) (lN c)) (cF f (lN c)/\True))))))))))))))))))))) (∃(I1:Nat×Nat×cw×MH×PH->Prop)(S:Nat×Nat×cw×MH×PH->Nat),(∃(c:Nat×Nat×cw×MH×PH),aA (I1 c) (eL 34) (aA (eL 34) (cJ (pS x).length c.2.1) (aA (bA c.1) (oI 58 1 x.2.1=oI 58 1 c.2.2.1) (aA (iJ (lN x) (lN c.2)) (eO (lN x) (lN c.2)) True))))/\∀(c:Nat×Nat×cw×MH×PH),I1 c->aY (↑c.1:Int) (↑c.2.1:Int) (qS (↑c.1:Int) (pS c.2) (λe=>mH (pS c.2) (nL c.1) e/\∃(y:Sl),uI 1 e (aL y)/\QH (λu l=>aA (vA y=vA u) (Rows (lN c.2).2 u l) (aA (B7 l) (∀
 (T:cz),List.Mem T l->Et T) (∀(z:Sl)(f:PH),bS (lN c.2).2 f (Rows f z l) (qS (↑c.1:Int) (pS c.2) (λj=>aA (mH (pS c.2) (nL c.1) j) (wJ 0 j) (∃(g:Nat×Nat×cw×MH×PH),aA (I1 g) (S g<S c) (aA (eL 34) (eL 34) (aA (cJ c.2.1 g.2.1) (iH (bE c.1 1)=bP g.1) (aA (Ii 1 (pS c.2) c.1 z j g.2.2.1) (iJ (lN c.2) (lN g.2)) (kY (cF f (lN g.2)))))))))))))) (uK (lN c.2).2 (pS c.2) K (lN c.2).1)))))))))))
theorem Mn(st:List ct):∀l,Ax st l=l.map (dY st)
 |[]=>by simp[Ax]
 |q::l=>by rw[Ax,Mn st l];rfl
theorem btJ{op o w on args ls}:ET op (.mk o ta w co on gr od li args) ls=ET op (.mk o ta w co on gr od li []) ls:=rfl
theorem SP{op o w on args ls}:Qr op (.mk o ta w co on gr od li args) ls=Qr op (.mk o ta w co on gr od li []) ls:=rfl
theorem bpZ{st ts}(ok:CR ts){i t}(c:ts[i]? =some t)(d:t.op≠1):dY st (aU ts i)=ET t.op t.query ((BV t).map λa=>dY st (aU ts a.toNat)):=by
 rw[rG ok c,dY,if_neg d,Mn,Du,map_map];exact btJ
theorem buX{st op w on args ks c}(e:jL s st=0)(g:StV st)(n:∀l∈st,l.length<=c)(o:1<=c)(f:aJ s ps (.mk op ta w co on gr od li args)=(ks,0))(u:iD c (.mk op ta w co on gr od li args)<=8000000)(d:op≠1):
 Qr op (.mk op ta w co on gr od li args) (Ax st args):=by
 have x:=(Db e g n o f u).1;rw[okQ,if_neg d]at x;obtain⟨z,A,_,_⟩:=yR f;have B:bR (.mk op ta w co on gr od li args)=dU args:=by simp[bR,d]
 have y:=JX (st:=st) (ls:=kP st (.mk op ta w co on gr od li args)) (k:=0) A ⟨λj t h=>by
  rw[getD_eq_getElem?_getD,Nat.zero_add,kP,B,getElem?_map,h];rfl⟩
 grind
theorem ccQ{c d}(h:arity t.op=1):ET t.op t.query [c,d]=ET t.op t.query [c]:=by
 obtain⟨op,ta,w,co,on,gr,od,li,a,b⟩:=t;have h:arity op=1:=h
 have:op=2\/op=3\/op=9:=by
  unfold arity at h
  grind
 rcases this with rfl|rfl|rfl<;>rfl
theorem buQ{d e}(h:arity t.op=1)(x:Qr t.op t.query [d])(f:∃w,iV w e):Qr t.op t.query [d,e]:=by
 obtain⟨op,ta,w,co,on,gr,od,li,a,b⟩:=t;have h:arity op=1:=h
 have:op=2\/op=3\/op=9:=by
  unfold arity at h
  grind
 rcases this with rfl|rfl|rfl
 .obtain⟨_,c⟩:=x;refine⟨ay,λl g=>?_⟩
  grind
 .obtain⟨_,c⟩:=x;exact⟨ay,c⟩
 .obtain⟨_,c⟩:=x;exact⟨ay,c⟩
theorem btZ{op}(h:0<arity op):2<=op/\op<=10:=by
 unfold arity at h
 grind
theorem cRQ{sl p st}(hs:iU h s sc)(C:DG h sl st)(x:rR h p r ts rs)(hT:eK m)(hb:jQ s ts rs=0->jL s st=0->Jf s st ts)(k1:jQ s ts rs≠0->K (.tup [EH,cI (jQ s ts rs)]) m h)(k2:jQ s ts rs=0->jL s st≠0->K (.tup [EH,cI (jL s st)]) m h)(k3:jQ s ts rs=0->jL s st=0->∀A h',PH.le h h'->Leaves h' A (pG st ts)->K (.tup [cS A,cI 0]) m h'):Rx sc sl p r m h K:=by
 dsimp only[Rx,push_cast];obtain⟨a7,_⟩:=x.slen;have b8:=x.len;refine⟨sc,p,r,s,ts,rs,rfl,hs,x,λkk=>aD (λe=>k1 (bk e)) (λe=>?_)⟩;have e1:jQ s ts rs=0:=bk e
 refine⟨sc,s,sl,st,rfl,hs,C.lea,C.len,aD (λe=>k2 e1 (bk e)) (λe=>?_)⟩;have V:jL s st=0:=bk e
 have B:=hb e1 V;obtain⟨c,W,X,Y⟩:=B.bnd;have ok:CR ts:=λi t e=>⟨B.ar i t e,LG (B.ar i t e) (B.fit i t e)⟩
 have kq:∀j,j<ts.length->aJ s [] (aU ts j)=((aJ s [] (aU ts j)).1,0):=λj D=>Prod.ext rfl (B.kinds j D);have R:∀j,j<ts.length->∃w,iV w (dY st (aU ts j)):=λj D=>⟨_,(Db V C.val X W (kq j D) (Y j D)).2.2.1⟩
 refine⟨aC,aC,aC,aC,λx=>x.1<=ts.length/\x.2.2.1=m/\PH.le h x.2.2.2/\∃G:cw,G.length=x.1/\x.2.1=G++replicate (ts.length-x.1) ⟨none,0,0⟩/\∀j,j<x.1->∃u,G[j]? =some u/\Rows x.2.2.2 u (dY st (aU ts j)),λx=>ts.length-x.1,⟨(0,replicate ts.length ⟨none,0,0⟩,m,h),⟨Nat.zero_le _,rfl,.refl _,[],rfl,ay,λj D=>by omega⟩,?_⟩,?_⟩
 .dsimp only;rw[map_replicate,show((p.len:Int)).toNat=ts.length by omega];exact MT
 rintro⟨i,vs,mx,hx⟩ ⟨hi,Z,le,G,H,hv,g⟩;dsimp only at hi Z le H hv g⊢
 subst Z hv;refine aF (λa'=>?_) (λa8=>?_)
 .obtain⟨t,f⟩:=fK a7 a';obtain⟨b,o,y,ea,rd,U⟩:=x.at f;have P:i<ts.length:=by omega
  have nx:∀(A:Sl)(h':PH),PH.le hx h'->Rows h' A (dY st (aU ts i))->∃e,((G++replicate (ts.length-i) (⟨none,0,0⟩:Sl)).map eS)[((i:Nat):Int).toNat]? =some e/\0<e.length/\∃E:cw,(((G++replicate (ts.length-i) (⟨none,0,0⟩:Sl)).map eS).set ((i:Nat):Int).toNat (dW A::List.drop 1 e))=List.map eS E/\∃Q:cw,Q.length=i+1/\E=Q++replicate (ts.length-(i+1)) ⟨none,0,0⟩/\∀j,j<i+1->∃u,Q[j]? =some u/\Rows h' u (dY st (aU ts j)):=λA h' d L=>by
   refine⟨[pF],?_,ay,(G++[A])++replicate (ts.length-(i+1)) ⟨none,0,0⟩,?_,G++[A],by simp[H],rfl,λj D=>?_⟩
   .rw[getElem?_map,Int.toNat_natCast,getElem?_append_right aC,getElem?_replicate,if_pos aC];rfl
   .rw[Int.toNat_natCast,show ts.length-i=(ts.length-(i+1))+1 by omega,replicate_succ,bu,set_append,if_neg (by simp[H]),bu,bu,append_assoc];simp[H,eS]
   .by_cases a0:j<i
    .obtain⟨u,S,J⟩:=g j a0;exact⟨u,bg,bM.mono J d (λ_ _ h=>bQ.mono h d)⟩
    grind
  have a1:((List.map eS (G++replicate (ts.length-i) (⟨none,0,0⟩:Sl))).length:Int)=ts.length:=bg
  rw[a1,jK aC];refine⟨b,o,ea,aC,aC,y,.imm (rd.mono le),aD (λe=>?_) (λe=>?_)⟩
  .have F:t.op=1:=by rw[<-U.op_];grind
   have hq:=kq i P;rw[rG ok f]at hq;have a9:=De hq t.table (by rw[bR,if_pos F];simp);have b9:=bM.slen C.lea;have b7:=(P4 V).2.1;have a2:st[t.table.toNat]? =some (st.getD t.table.toNat []):=bg
   obtain⟨b2,o2,u,b',b0,hu⟩:=bM.at C.lea a2;have hF:dY st (aU ts i)=st.getD t.table.toNat []:=by rw[rG ok f,dY,if_pos F]
   obtain⟨e,S,J,E,h3,h4⟩:=nx u hx (.refl _) (by rw[hF];exact bM.mono hu le (λ_ _ h=>bQ.mono h le));rw[U.table_];exact⟨b2,o2,b',a9.1,aC,u,.imm (b0.mono le),aC,aC,e,S,J,(i+1,E,mx,hx),⟨aC,rfl,le,h4⟩,aC,bg⟩
  .have F:t.op≠1:=by rw[<-U.op_];grind
   have h0:=B.ar i t f;have J:=Fa t.op;have c':arity t.op≠0:=λe=>F (RO e);have M:=btZ (op:=t.op) aC;have a3:=(ok i t f).2;have hA:arity t.op=1\/arity t.op=2:=by omega
   have hL:0<=t.left/\t.left<i:=a3 _ (by rcases hA with e|e<;>simp[BV,e])
   have hR:0<=t.right/\t.right<i:=by
    rcases hA with e|e
    .have:=(bzX (B.fit i t f)).2 aC;omega
    .exact a3 _ (by simp[BV,e])
   obtain⟨u1,b1,b3⟩:=g t.left.toNat aC;obtain⟨u2,b4,b5⟩:=g t.right.toNat aC
   have I:∀{j:Nat}{u:Sl},G[j]? =some u->((G++replicate (ts.length-i) (⟨none,0,0⟩:Sl)).map eS)[j]? =some (eS u):=fun{j u} h=>by
    grind
   have len:∀{j},j<ts.length->(dY st (aU ts j)).length<=8000000:=fun{j} D=>(R j D).elim λ_ h=>h.len;have hq:=kq i P;have a4:=Y i P;rw[rG ok f]at hq a4;have x1:=buX V C.val X W hq a4 F;rw[Mn,Du,map_map]at x1;have x2:=bpZ (st:=st) ok f F
   have x3:Qr t.op t.query [dY st (aU ts t.left.toNat),dY st (aU ts t.right.toNat)]/\dY st (aU ts i)=ET t.op t.query [dY st (aU ts t.left.toNat),dY st (aU ts t.right.toNat)]:=by
    rcases hA with e|e
    .rw[show BV t=[t.left]by simp[BV,e]]at x1 x2;exact⟨buQ e (SP▸x1) (R _ aC),by rw[x2,ccQ e];rfl⟩
    .rw[show BV t=[t.left,t.right]by simp[BV,e]]at x1 x2;exact⟨SP▸x1,x2⟩
   rw[U.left_,U.right_];refine⟨hL.1,aC,eS u1,I b1,u1,rfl,hR.1,aC,eS u2,I b4,u2,rfl,y,t,u1,u2,_,_,rfl,U.mono le,b3,b5,hT,M.1,M.2,x3.1,len aC,len aC,λA h' d L=>?_⟩;obtain⟨e,S,J,E,h3,h4⟩:=nx A h' d (by rw[x3.2];exact L);exact⟨aC,aC,e,S,J,(i+1,E,mx,h'),⟨aC,rfl,le.trans d,h4⟩,aC,bg⟩
 .have:i=ts.length:=by omega
  subst this;rw[Nat.sub_self,replicate_zero,append_nil];refine⟨λx=>x.1<=ts.length/\x.2.1=ts.length/\x.2.2.2.1=mx/\PH.le h x.2.2.2.2/\x.2.2.1.length=ts.length/\∀j,j<ts.length->∃u,x.2.2.1[j]? =some u/\Rows x.2.2.2.2 u (dY st (aU ts j)),λx=>ts.length-x.1,⟨(0,ts.length,G,mx,hx),⟨Nat.zero_le _,rfl,rfl,le,H,g⟩,bg⟩,?_⟩;rintro⟨i,n,vs,my,hy⟩ ⟨hi,Z,e4,le,T,L⟩;dsimp only at hi Z e4 le T L⊢
  subst Z e4;refine aF (λa'=>?_) (λa8=>?_)
  .obtain⟨u,hu,g⟩:=L i aC;obtain⟨w,O⟩:=R i aC;have I:(vs.map eS)[((i:Nat):Int).toNat]? =some (eS u):=bg
   rw[length_map,T,jK aC];refine⟨aC,aC,eS u,I,u,rfl,u,_,rfl,g,O.len,λr L=>by have:=(O.row r L).len;omega,λA h' d c0=>⟨aC,aC,eS u,I,by simp[eS],(i+1,ts.length,vs.set i A,my,h'),⟨aC,rfl,rfl,le.trans d,bg,λj D=>?_⟩,aC,?_⟩⟩
   .dsimp only;rw[getElem?_set];by_cases a0:i=j
    .grind
    .obtain⟨u',S,J⟩:=L j D;exact⟨u',bg,bM.mono J d (λ_ _ h=>bQ.mono h d)⟩
   .dsimp only;rw[map_set,Int.toNat_natCast];exact MT
  .refineλA h' d b6=>k3 e1 V A h' (le.trans d) ⟨⟨vs,b6,by simp[pG,T],λj z hz=>?_⟩,by simp[pG];omega⟩
   unfold pG at hz;rw[getElem?_map]at hz;cases D:(List.range ts.length)[j]? with
   |none=>grind
   |some k=>
    rw[D]at hz;obtain⟨a5,a6⟩:=List.getElem?_eq_some_iff.1 D;rw[length_range]at a5;rw[getElem_range]at a6;subst a6;have hz:dY st (aU ts j)=z:=bg
    subst hz;obtain⟨u,S,J⟩:=L j a5;exact⟨u,S,bM.mono J d (λ_ _ h=>bQ.mono h d)⟩
theorem bhJ:cm 14 cXQ:=by
 refine jC func14 ?_;rintro e m h K ⟨sc,d,p,r,s,z,ts,rs,rfl,f,c,g,j,n,o,u,y⟩;refine⟨cvX d p,rfl,aE a9J (aE Tk (aE au (aE aq aH))),Rx sc d p r m h K,ax,?_⟩;exact cRQ f c g j n o u y
noncomputable def Mt(st:List ct)(p:de×cn):=p.2.map λr=>(pG st p.1).getD r.toNat []
noncomputable def B3 s ts rs st:=if jQ s ts rs≠0 then jQ s ts rs else jL s st
def V7 s q:=(eH s [] q).2=0->Dx q/\Jg (gI s q []).1/\lE (gI s q []).1<=100/\oZ q<=100
theorem HU{P f S S'}(x:Sound P f S)(d:∀c m h K,S' c m h K->S c m h K):Sound P f S':=⟨x.1,λc e m h w K g=>x.2 c e m h w K (d _ _ _ _ g)⟩
def UK:Vc.Spec:=λc m h K=>∃sc v s q,c=[aS sc,aQ v]/\iU h s sc/\dO h q v/\tT q=true/\eK m/\V7 s q/\∀p r h',PH.le h h'->((eH s [] q).2=0->rR h' p r (mA s q).1 (mA s q).2)->K (.tup [aPl p r,cI (eH s [] q).2]) m h'
theorem apJ:cm 11 UK:=HU biZ λ_ m h K⟨sc,v,s,q,e,f,g,c,j,n,o⟩=>⟨sc,v,s,q,e,f,g,c,j,n,λd=>o _ _ h (.refl _) (λe=>(d e).elim),λd p r h' le u=>bg⟩
def cDQ:Vc.Spec:=λd m h K=>∃sc e p r s c ts rs,d=[aS sc,aSt e,aPl p r]/\iU h s sc/\DG h e c/\rR h p r ts rs/\eK m/\(jQ s ts rs=0->jL s c=0->Jf s c ts)/\
 ∀f h',PH.le h h'->(B3 s ts rs c=0->Leaves h' f (pG c ts))->K (.tup [cS f,cI (B3 s ts rs c)]) m h'
theorem alX:cm 14 cDQ:=HU bhJ λ_ m h K⟨sc,j,p,r,s,n,ts,rs,e,o,d,u,y,z,f⟩=>⟨sc,j,p,r,s,n,ts,rs,e,o,d,u,y,z,
 λc=>by have:=f cH h (.refl _) (λe=>by unfold B3 at e;omega);unfold B3 at this;rw[if_pos c]at this;exact this,
 λc g=>by have:=f cH h (.refl _) (λe=>by unfold B3 at e;omega);unfold B3 at this;rw[if_neg (by simp[c])]at this;exact this,
 λc g A h' le B=>by have:=f A h' le (λ_=>B);unfold B3 at this;grind⟩
def bnX:Vc.Spec:=λd m h K=>∃sc e v s c q,d=[aS sc,aSt e,aQ v]/\iU h s sc/\DG h e c/\dO h q v/\tT q=true/\eK m/\V7 s q/\
 ((eH s [] q).2=0->jQ s (mA s q).1 (mA s q).2=0/\(jL s c=0->Jf s c (mA s q).1/\∀l∈pG c (mA s q).1,l.length<=8000000/\∀r∈l,r.length<=1000))/\
 ((eH s [] q).2≠0->∀h',PH.le h h'->K (.tup [EH,cI (eH s [] q).2]) m h')/\((eH s [] q).2=0->jL s c≠0->∀h',PH.le h h'->K (.tup [EH,cI (jL s c)]) m h')/\
 ((eH s [] q).2=0->jL s c=0->∀f h',PH.le h h'->Leaves h' f (Mt c (mA s q))->K (.tup [cS f,cI 0]) m h')
noncomputable def ctZ:=qD [(11,UK),(14,cDQ),(57,PO)] [(9,{A:=Nat×Sl×Sl×cw×MH×PH,st:=λ⟨i,rs,c,d,m,h⟩=>bY 77 80 [(10,sv rs),(11,.at (.lst 38)),(40,sv c),(41,iv c.len),(42,iv i)] [(38,.lst 58 1 (d.map eS))] m h}),
 (13,{A:=Nat×Nat×Sl×Sl×Sl×cw×MH×PH,st:=λ⟨j,i,rs,c,t,d,m,h⟩=>bY 77 80 [(10,sv rs),(11,.at (.lst 38)),(12,iv i),(40,sv c),(41,iv c.len),(42,iv i),(59,sv t),(60,iv t.len),(61,iv j)] [(38,.lst 58 1 (d.map eS))] m h})] [] [] [2058] [] false
noncomputable abbrev AJ a b:=(eH a [] b).2
abbrev Vl(a:jZ->(List ct)->Prop):=∃(x:jZ)(c:List ct),a x c
abbrev Bq(a:Nat×Sl×Sl×cw×MH×PH):=a.2.2.1
abbrev tB(a:Nat×Sl×Sl×cw×MH×PH):=a.2.2.2.2
abbrev uB(a:Nat×Nat×Sl×Sl×Sl×cw×MH×PH):=a.2.2.2
abbrev Bp a:=(uB a).2.1
abbrev xZ a:=(uB a).2.2.2
attribute [push_cast] AJ Vl Bq tB uB Bp xZ
def Rt sc sl v m h K:=
  ∃(s:bT)(J:QV)(g:jZ)(q:Query),aA (eU (cC sc) (cM v)=eU (cC s) (cM J)) (iU h g s) (aA (dO h q J) (CL q) (aA (eK m) (V7 g q) (∀(p r:Sl)(j:PH),bS h j (AJ g q=0->rR j p r (mA g q).1 (mA g q).2) (dR (AJ g q) 0 (K (CV.tup (tN EH (CV.val (gZ (AJ g q))))) m j) (∃(L:bT),rC (λM O=>∃(P:Sl),Vl (λn u=>∃(t:de)(A:cn),aA (cE (cC sc) (eU (aL sl) (jO (kC (dW p) (dW r))))=cE (cC L) (eU (aL M) (jO (kC (dW O) (dW P))))) (iU j n L) (aA (DG j M u) (rR j O P t A) (aA (eK m) (bH (jQ n t A=0) (jL n u=0) (Jf n u t)) (∀(Q:Sl)(B:PH),bS j B (B3 n t A u=0->Leaves B Q (pG u t)) (dR (B3 n t A u) 0
 (cG K (B3 n t A u) m B) (CH r 24 (∃(I:Nat×Sl×Sl×cw×MH×PH->Prop)(R:Nat×Sl×Sl×cw×MH×PH->Nat),(∃(x:Nat×Sl×Sl×cw×MH×PH),aA (I x) (aW Q x.2.1) (aA (eL 38) (aW r (Bq x)) (aA (bN r (Bq x)) (bA x.1) (aA (bW 58 1 (tW (aG r) gW)=oI 58 1 (mI x.2)) (bO m (tB x)) (kY (cF B (tB x)))))))/\∀(x:Nat×Sl×Sl×cw×MH×PH),I x->aY (↑x.1:Int) (aG (Bq x)) (bK (λb o=>aA (aR (Bq x).a b o) (0<=(↑x.1:Int)) ((↑x.1:Int)<aG (Bq x)/\∃(y:Int),aK (tB x).1 (tB x).2 b (bL o x.1 1) (bC y)/\bK (λS T=>aA (aR x.2.1.a S T) (0<=y) (y<aG x.2.1/\∃(z:Sl),aA (aK (tB x).1 (tB x).2 S (gH T y 1) (aL z)) (cN (aG z)) (aA (aG z<=
 aG z) (Ah z 24) (Ae (aG z)/\jW (λU D=>sE (tB x).1 D (tB x).2 U 65 1 (tW (aG z) gW)->qS (↑x.1:Int) (fJ (mI x.2)) (λe=>aA (mH (fJ (mI x.2)) (nL x.1) e) (wJ 0 e) (bK (λV W=>aA (aR x.2.1.a V W) (0<=y) (y<aG x.2.1/\∃(F:Sl),aK D (tB x).2 V (gH W y 1) (aL F)/\∃(I1:Nat×Nat×Sl×Sl×Sl×cw×MH×PH->Prop)(X:Nat×Nat×Sl×Sl×Sl×cw×MH×PH->Nat),(∃(d:Nat×Nat×Sl×Sl×Sl×cw×MH×PH),aA (I1 d) (aW x.2.1 d.2.2.1) (aA (eL 38) (cJ x.1 d.2.1) (aA (aW (Bq x) (uB d).1) (bN (Bq x) (uB d).1) (aA (cJ x.1 d.2.1) (aW F (Bp d)) (aA (bN F (Bp d)) (bA d.1) (aA (Ii 1 (fJ (mI x.2)) x.1 U e (mI (uB d))) (bO D
 (xZ d)) (kY (eO (tB x) (xZ d)))))))))/\∀(d:Nat×Nat×Sl×Sl×Sl×cw×MH×PH),I1 d->aY (↑d.1:Int) (aG (Bp d)) (bK (λY Z=>aA (aR (Bp d).a Y Z) (0<=(↑d.1:Int)) ((↑d.1:Int)<aG (Bp d)/\∃(y3:Sl),aA (aK (xZ d).1 (xZ d).2 Y (bL Z d.1 1) (aL y3)) (0<=(↑d.2.1:Int)) ((↑d.2.1:Int)<nN (fJ (mI (uB d)))/\∃(e1:cr),mH (fJ (mI (uB d))) (nL d.2.1) e1/\∃(C:Sl),aA (uI 1 e1 (aL C)) (∃(e2:cr),mH (fJ (mI (uB d))) (nL d.2.1) e2/\uI 1 e2 (aL C)) (FZ y3 (xZ d).2 (λs8 h3=>bK (λG H=>aA (aR C.a G H) (0<=(↑d.1:Int)) ((↑d.1:Int)<aG C/\gT (λc E=>aA (sL (xZ d).1 G (fA c E 0)) (bL H d.1 1<
 c.size) (∀(m4:MH),bJ (xZ d).1 m4 G (splice c.toList (bL H d.1 1) (aL s8)) E->∃(f:Nat×Nat×Sl×Sl×Sl×cw×MH×PH),aA (I1 f) (X f<X d) (aA (aW d.2.2.1 f.2.2.1) (eL 38) (aA (cJ d.2.1 f.2.1) (aW (uB d).1 (uB f).1) (aA (bN (uB d).1 (uB f).1) (cJ d.2.1 f.2.1) (aA (aW (Bp d) (Bp f)) (bN (Bp d) (Bp f)) (aA (iH (bE d.1 1)=bP f.1) (oI 58 1 (mI (uB d))=oI 58 1 (mI (uB f))) (aA (bO m4 (xZ f)) (cF h3 (xZ f)) True)))))))))))))))) (∃(f:Nat×Sl×Sl×cw×MH×PH),aA (I f) (R f<R x) (aA (aW d.2.2.1 f.2.1) (eL 38) (aA (aW (uB d).1 (Bq f)) (bN (uB d).1 (Bq f)) (aA (iH (bE d.2.1 1)=bP f.1) (oI 58 1 (mI (uB d))=oI 58 1
 (mI f.2)) (aA (iJ (xZ d) (tB f)) (eO (xZ d) (tB f)) True))))))))))))))))) (uK (tB x).2 (fJ (mI x.2)) K (tB x).1))))))))))))))
structure Av(m0 m:MH)(h:PH)(w:Sl)(l:ct)(j:Nat):Prop where
 ex:∃vs:cw,vs.length=l.length/\uZ m0 m w 65 1 (vs.map eS)/\∀k r,k<j->l[k]? =some r->∃v,vs[k]? =some v/\bQ h v r
theorem Av.mono{m0 w l j}(x:Av m0 m h w l j)(le:PH.le h h'):Av m0 m h' w l j:=by
 obtain⟨c,d,e,f⟩:=x.ex;exact⟨c,d,e,λk r g n=>let⟨v,e1,e2⟩:=f k r g n;⟨v,e1,e2.mono le⟩⟩
theorem Av.keep{m0 w l j}(x:Av m0 m h w l j)(d:∀b i,w.a=some ⟨b,i,none⟩->m' b=m b):Av m0 m' h w l j:=by
 obtain⟨e,f,c,g⟩:=x.ex;exact⟨e,f,⟨cL.keep c.row d,c.fresh⟩,g⟩
theorem Av.blk{m0 w l j}(x:Av m0 m h w l j)(e:w.a=some ⟨b,i,none⟩):∃o,m b=some o:=by
 obtain⟨f,_,c,_⟩:=x.ex;obtain⟨d,h⟩:=cL.blk c.row e
 grind
theorem Av.slen{m0 w l j}(x:Av m0 m h w l j):w.len=l.length:=by
 obtain⟨d,e,c,_⟩:=x.ex;have:=cL.slen c.row
 grind
theorem IJ:∀vs:cw,(vs.map eS).flatten=vs.map λs=>dW s
 |[]=>rfl
 |v::vs=>by rw[map_cons,flatten_cons,IJ vs];rfl
theorem Av.put{m0 w u l j r}(x:Av m0 m h w l j)(D:l[j]? =some r)(J:bQ h u r):∃b,w.a=some ⟨b,0,none⟩/\∃(cs:Array Value)(E:TypeId),m b=some (.cells cs E (0,0))/\0+j*1<cs.size/\∀m',lI m m' b (.cells ⟨splice cs.toList (0+j*1) [dW u]⟩ E (0,0))->Av m0 m' h w l (j+1):=by
 obtain⟨f,F,g,L⟩:=x.ex;have M:=(bm D);have O:=cL.slen g.row;rcases g.row.ex with⟨rfl,e⟩|⟨b,d,c,rfl,G,n,o,H,B⟩
 .grind
 .rw[length_map]at n;refine⟨b,rfl,c,65,G,aC,λm' y=>⟨f.set j u,by simp[F],⟨⟨⟨?_,?_⟩,.inr ⟨b,d,⟨splice c.toList (0+j*1) [dW u]⟩,ay,y.at_,bf,o,?_,?_⟩⟩,g.fresh⟩,λk P Q I=>?_⟩⟩
  .intro e z;obtain⟨s,_,rfl⟩:=mem_map.1 z;rfl
  .intro e z v C;obtain⟨s,_,rfl⟩:=mem_map.1 z;simp[eS]at C;subst C;rfl
  .show(splice c.toList (0+j*1) [dW u]).length=d*1;rw[AX _ _ _ bf];omega
  .rw[IJ];show(splice c.toList (0+j*1) [dW u]).take _=_;rw[Jy _ _ _ bf,take_set]
   have A:c.toList.take (((f.set j u).map eS).length*1)=f.map λs=>dW s:=by
    rw[length_map,length_set];rw[length_map,IJ]at B;exact B
   rw[A,Nat.zero_add,Nat.mul_one,map_set]
  grind
theorem Av.rows{m0 w l}(d:Fi m h)(x:Av m0 m h w l l.length)(u:l.length<=8000000):Rows (AP m0 m h) w l:=by
 obtain⟨e,f,g,j⟩:=x.ex
 exact⟨⟨e,uZ.ice g,f.symm,λi r c=>by
  obtain⟨v,n,o⟩:=j i r (bm c) c;exact⟨v,n,o.mono (Am d)⟩⟩,aC⟩
theorem bgJ:cm 18 bnX:=by
 refine Sn func18 ?_;rintro d4 m h K ⟨sc,sl,v,s,W,q,rfl,hs,b6,hq,b7,ht,hn,hv,hE,b8,hK⟩;refine⟨ctZ,rfl,aE apJ (aE alX (aE ab aH)),Rt sc sl v m h (cR h K),ax,?_⟩;show Rt sc sl v m h (cR h K);dsimp only[Rt,push_cast];refine⟨sc,v,s,q,rfl,hs,hq,b7,ht,hn,λp r h1 g hp=>aD (λX=>?_) (λX=>?_)⟩
 .exact cR.sub (Sub.refl m) g (hE bg h1 g)
 have X:(eH s [] q).2=0:=bg
 have hp:=hp X;obtain⟨d,hb⟩:=hv X;have a':B3 s (mA s q).1 (mA s q).2 W=jL s W:=by unfold B3;omega
 refine⟨sc,sl,p,r,s,W,(mA s q).1,(mA s q).2,rfl,hs.mono g,b6.mono g,hp,ht,λ_ e=>(hb e).1,λs1 h2 L hl=>?_⟩;rw[a']at hl⊢
 refine aD (λF=>?_) (λF=>?_)
 .exact cR.sub (Sub.refl m) (g.trans L) (b8 X bg h2 (g.trans L))
 have F:jL s W=0:=bg
 have hl:=hl F;have hK:=hK X F;have b9:=(hb F).2;have a0:=g.trans L;have a1:=(hp.roots.mono L)
 have a2:=a1.slen
 have a3:∀x∈(mA s q).2,0<=x/\x.toNat<(pG W (mA s q).1).length:=by
  intro x hx;unfold jQ at d;split at d
  .contradiction
  .split at d
   .cases d
   .split at d
    .contradiction
    .split at d
     .rename_i e;have:=all_eq_true.1 e x hx;simp only[bz,ce]at this;simp only[pG,length_map,length_range];omega
     .cases d
 have d5:(mA s q).2.length<=32:=by
  unfold jQ at d;omega
 generalize hR:pG W (mA s q).1=R at*
 generalize hN:(mA s q).2=N at*
 have d6:=bM.slen hl;refine⟨aC,aC,aC,aC,λx=>x.1<=N.length/\x.2.1=s1/\x.2.2.1=r/\PH.le h2 x.2.2.2.2.2/\x.2.2.2.1.length=N.length/\Sub m x.2.2.2.2.1/\∀k n,k<x.1->N[k]? =some n->∃u,x.2.2.2.1[k]? =some u/\Av m x.2.2.2.2.1 x.2.2.2.2.2 u (R.getD n.toNat []) (R.getD n.toNat []).length,λx=>N.length-x.1,⟨(0,s1,r,replicate N.length cH,m,h2),⟨aC,rfl,rfl,.refl _,ay,Sub.refl m,λk n hk=>by simp at hk⟩,?_⟩,?_⟩
 .have e:List.map eS (replicate N.length cH)=replicate (Int.toNat (r.len:Int)) [pF]:=by rw[map_replicate,a2];rfl
  grind
 rintro⟨i,a4,ro,Y,Z,hx⟩ ⟨hi,e1,M,A,c',f,B⟩;dsimp only at hi e1 M A c' f B⊢
 subst e1 M;have lex:=a0.trans A;refine aF (λa5=>?_) (λd7=>?_)
 .obtain⟨n,a6⟩:=fK a2 a5;obtain⟨Q,G⟩:=a3 n (bo a6);obtain⟨b,o,e,rd⟩:=(a1.mono A).at' a6;have c1:R[n.toNat]? =some R[n.toNat]:=bn G;obtain⟨b',o',t,e',a7,a8⟩:=bM.at (bM.mono hl A λ_ _ z=>bM.mono z A λ_ _ y=>bQ.mono y A) c1;have c2:R.getD n.toNat []=R[n.toNat]:=by simp[G]
  have c4:=b9 _ (getElem_mem G);have a9:=bM.slen a8;refine⟨b,o,e,aC,a5,n,.imm rd,b',o',e',Q,aC,t,.imm a7,aC,aC,aC,aC,λw m1 hw=>⟨aC,bg,_,by rw[getElem?_map,Int.toNat_natCast,bn aC];rfl,by simp[eS],b',o',e',Q,aC,t,.imm a7,?_⟩⟩;have d8:∀b i,w.a=some ⟨b,i,none⟩->Z b=none:=λb i e=>(hw.fresh b i e).m_;have C:Sub Z m1:=λx o e=>by rw[hw.other x (λi e'=>bg)];exact e
  have c0:Av m m1 hx w R[n.toNat] 0:=⟨replicate R[n.toNat].length cH,ay,⟨by
   have:=hw.row;rw[Int.toNat_natCast,a9]at this;rw[map_replicate];exact this,λb i e=>by
   cases e0:m b with
   |none=>rfl
   |some o=>have:=f b o e0;grind⟩,λk r hk=>by omega⟩
  refine⟨λx=>x.1<=R[n.toNat].length/\x.2.1=i/\x.2.2.1=a4/\x.2.2.2.1=ro/\x.2.2.2.2.1=t/\x.2.2.2.2.2.1=Y.set i w/\PH.le hx x.2.2.2.2.2.2.2/\Sub m x.2.2.2.2.2.2.1/\Av m x.2.2.2.2.2.2.1 x.2.2.2.2.2.2.2 w R[n.toNat] x.1/\∀b o,Z b=some o->x.2.2.2.2.2.2.1 b=some o,λx=>R[n.toNat].length-x.1,⟨(0,i,a4,ro,t,Y.set i w,m1,hx),⟨aC,rfl,rfl,rfl,rfl,rfl,.refl _,λx o e=>C x o (f x o e),c0,C⟩,?_⟩,?_⟩
  .rw[Int.toNat_natCast,map_set];exact MT
  clear c0 C;rintro⟨j,S,b0,b1,t2,d9,my,hy⟩ ⟨hj,f1,f2,H,I,J,c,D,c3,c6⟩;dsimp only at hj f1 f2 H I J c D c3 c6⊢
  subst f1 f2 H I J;refine aF (λP=>?_) (λd3=>?_)
  .obtain⟨rr,T⟩:=fK a9 P;obtain⟨b2,o2,y,M,c7,c8⟩:=bM.at (bM.mono a8 c λ_ _ z=>bQ.mono z c) T;have e3:S<Y.length:=by omega
   refine⟨b2,o2,M,aC,P,y,.imm c7,aC,bf,eS w,bg,w,rfl,⟨eS w,bg,rfl⟩,y,rr,rfl,c8,(c4.2 rr (bo T)),λu h4 b3 hu=>?_⟩;obtain⟨wb,c9,cs,E,d',e4,rF⟩:=(c3.mono b3).put T hu;have e5:=c3.slen;refine⟨wb,0,c9,aC,aC,cs,E,⟨d'⟩,aC,λm5 O=>?_⟩;rw[Int.toNat_natCast]at O;have c5:=rF m5 O;have b4:∀x o,Z x=some o->x≠wb:=λx o e e'=>bg
   refine⟨(j+1,S,b0,b1,t2,Y.set S w,m5,h4),⟨?_,rfl,rfl,rfl,rfl,rfl,c.trans b3,λx o e=>?_,c5,λx o e=>?_⟩,?_,MT⟩
   .omega
   .show m5 x=some o;rw[O.other x (b4 x o (f x o e))];exact D x o e
   .show m5 x=some o;rw[O.other x (b4 x o e)];grind
   omega
  .have d0:j=R[n.toNat].length:=by omega
   subst d0;refine⟨(S+1,b0,b1,Y.set S w,my,hy),⟨aC,rfl,rfl,A.trans c,bg,D,λk n' hk d1=>?_⟩,aC,MT⟩;have hk:k<S+1:=hk;by_cases e:k=S
   .grind
   .obtain⟨u,e1,M⟩:=B k n' aC d1;refine⟨u,bg,(M.mono c).keep (λb i e=>?_)⟩;obtain⟨o,ho⟩:=M.blk e
    grind
 .have d2:i=N.length:=by omega
  subst d2;intro s2 h3 c hr b5;have hd:Fi Z h3:=⟨b5⟩
  have le:=(lex.trans c).trans (Am (m0:=m) hd);refine⟨m,AP m Z h3,f,le,λb i w e=>?_,hK s2 _ le ⟨⟨Y,hr.mono (Am hd),?_,λk l U=>?_⟩,?_⟩⟩
  .unfold AP at e
   grind
  .unfold Mt;grind
  .unfold Mt at U;rw[getElem?_map,hN,hR,Option.map_eq_some_iff]at U;obtain⟨n,V,rfl⟩:=U;obtain⟨u,e1,M⟩:=B k n (bm V) V;obtain⟨Q,G⟩:=a3 n (bo V);have c2:R.getD n.toNat []=R[n.toNat]:=by simp[G]
   exact⟨u,e1,Av.rows hd (M.mono c) bg⟩
  .unfold Mt;grind
def Wd:Vc.Spec:=λc m h K=>∃s r,c=[cS s]/\bQ h s r/\r.length<=1000/\∀d h',PH.le h h'->bQ h' d r->K (cS d) m h'
def b4Q:Vc.Spec:=λc m h K=>∃v s t d r,c=[aS v,cI t,cS d]/\iU h s v/\bQ h d r/\r.length<=1000/\∀e h',PH.le h h'->bQ h' e (LA s t r)->K (cS e) m h'
def Wa(key:Int)(ks:cn)(r:cz):=r.length=ks.length/\(∀v∈r,NH v)/\∀(i:Nat) v k,r[i]? =some v->ks[i]? =some k->CP key k i v=true
def bmJ(m:MH)(d:Nat)(us:cw):=∃c:Array Value,m d=some (.cells c 58 (0,0))/\us.length<=c.size/\c.toList.take us.length=us.map Sl.val
def cXZ:Vc.Spec:=λg m h K=>∃v s c n d f u,∃t:Nat,∃e rs j o y row,g=[aS v,aSt ⟨some ⟨c,0,none⟩,n,d⟩,cI t,cS j,cS y]/\iU h s v/\s.tables[t]? =some e/\bmJ m c f/\n=f.length/\f[t]? =some u/\Rows h u rs/\rs.length<=1000/\(∀r∈rs,r.length<=1000)/\bQ h j o/\bQ h y row/\0<row.length/\row.length<=1000/\
 ∀z m' h',PH.le h h'->Rows h' z (Dh e o row false rs)->bmJ m' c (f.set t z)->bV m m' c->K (aSt ⟨some ⟨c,0,none⟩,n,d⟩) m' h'
noncomputable def cnZ(v:bT)(sl:Sl)(t:Nat)(f g:Sl)(m:MH):=dK [(47,b4Q),(55,Jv),(58,Wd)] [(4,{A:=Nat×cw×Bool×Sl×PH,st:=λ⟨i,e,d,u,h⟩=>bY 66 71 [(2,iv t),(3,sv f),(4,sv g),(5,.at (.ptr 5 0)),(6,.at (.ptr 6 0)),(10,.at (.ptr 10 0)),(11,.at (.lst 45)),(12,bv d),(23,sv u),(24,iv u.len),(25,iv i)] [(5,.cells 27 (v.enc.map .val)),(6,.cells 52 [.val sl.val]),(10,.cells 52 [.val cH.val]),(45,.lst 65 1 (e.map eS))] m h})] [(9,{A:=Nat×cw×Bool×Sl×Sl×Int×PH,st:=λ⟨i,e,d,u,r,c,h⟩=>bY 66 71 [(2,iv t),(3,sv f),(4,sv g),(5,.at (.ptr 5 0)),(6,.at (.ptr 6 0)),(10,.at (.ptr 10 0)),(11,.at (.lst 45)),(12,bv d),(14,sv r),(15,iv c),(23,sv u),(24,iv u.len),(25,iv i)] [(5,.cells 27 (v.enc.map .val)),(6,.cells 52 [.val sl.val]),(10,.cells 52 [.val cH.val]),(45,.lst 65 1 (e.map eS))] m h}),
 (14,{A:=cw×PH,st:=λ⟨e,h⟩=>bY 66 71 [(2,iv t),(6,.at (.ptr 6 0)),(10,.at (.ptr 10 0)),(11,.at (.lst 45))] [(6,.cells 52 [.val sl.val]),(10,.cells 52 [.val cH.val]),(45,.lst 65 1 (e.map eS))] m h})] [] false
def am(s:Sl)(m:MH)(h:PH)(K:cq):=
  ∃(y:List cr),aA (gC 3 y) (dH h (dL s) 3 y) (aA (jN y.length 32) (oK y.length) (cK h 3 y (λc d=>K (nW c) m d)))
def XP(v:bT)(t:Int)(s:Sl)(m:MH)(h:PH)(K:cq):=
  aY t 0 (K EH m h) (iO t (kM v) (K EH m h) (bK (λb o=>aA (aR (wY v) b o) (0<=t) (t<aG v.tables/\∃(y:Int),aA (aK m h b (gH o t 5+2) (bC y)) (0<=ite (oX s y>0) (oX s y) 0) (ite (oX s y>0) (oX s y) 0<=(↑s.cap:Int)/\pX (λd r=>aA (eY (CV.val (Value.slice s.a (ite (oX s y>0) (oX s y) 0).toNat s.cap)) (nW d)) (bQ h d r) (Et r/\∀(e:Sl)(c:PH),bS h c (bQ c e r) (K (nW e) m c))))))))
abbrev D4(a:Nat×cw×Bool×Sl×PH):=a.2.2.1
abbrev rP(a:Nat×cw×Bool×Sl×PH):=a.2.2.2.1
abbrev BC a:=eQ (oQ 52 (uH a))
abbrev qT:=BC J1
abbrev Bu(a:Nat×cw×Bool×Sl×PH):=a.2.2.2.2
abbrev Pr(a:(Nat×cw×Bool×Sl×Sl×Int×PH)->Prop)(b:Nat)(c d:Sl)(e:(Nat×cw×Bool×Sl×Sl×Int×PH)->Prop):=∃(x:Nat×cw×Bool×Sl×Sl×Int×PH),aA (a x) (eQ (bP b)) (aA (aI c) (aI d) (aA fT lK (aA oO (eL 45) (e x))))
abbrev z6(a:Nat×cw×Bool×Sl×Sl×Int×PH):=a.2.2.2.1
abbrev Ix(a:Nat×cw×Bool×Sl×Sl×Int×PH):=a.2.2.2.2.2.2
attribute [push_cast] D4 rP BC qT Bu Pr z6 Ix
def XQ(v:bT)(g n e t:Nat)(z u:Sl)(m:MH)(h:PH)(K:cq):=
  bK (λb o=>aA (aR (pP g) b o) (0<=(↑t:Int)) ((↑t:Int)<(↑n:Int)/\∃(y:Sl),aK m h b (bL o t 1) (aL y)/\∃(I:Nat×cw×Bool×Sl×PH->Prop)(F:Nat×cw×Bool×Sl×PH->Nat),(∃(x:Nat×cw×Bool×Sl×PH),aA (I x) (eQ (bP t)) (aA (aI z) (aI u) (aA fT lK (aA oO (eL 45) (aA (kN (aG u==0) (D4 x)) (aW y (rP x)) (aA (bN y (rP x)) (bA x.1) (aA (cV v) (BC (B8 (pP g) n e)) (aA qT (A4 x.2.1) (eM m m h (Bu x))))))))))/\∀(x:Nat×cw×Bool×Sl×PH),I x->aY (↑x.1:Int) (aG (rP x)) (bK (λA B=>aA (aR (rP x).a A B) (0<=(↑x.1:Int)) ((↑x.1:Int)<aG (rP x)/\∃(C:Sl),aK m (Bu x) A (bL B x.1 1) (aL C)/\rD (λG s=>∃(H:Int),
 pX (λJ r=>aA (cE (cC v) (gJ (↑t:Int) (nW C))=cE (cC G) (gJ H (nW J))) (iU (Bu x) s G) (aA (bQ (Bu x) J r) (Et r) (∀(L:Sl)(j:PH),bS (Bu x) j (bQ j L (LA s H r)) (∃(M:Sl),pX (λO a=>∃(D:cz),aA (cD L z=cD M O) (bQ j M a) (bQ j O D/\∃(I1:Nat×cw×Bool×Sl×Sl×Int×PH->Prop),iO (fG a D) 0 (pI (D4 x) (FZ u j (λQ R=>aA (lL (fJ x.2.1)) (eA (fJ x.2.1)) (Pr (λd=>I1 d) t z u (λd=>aA (yL d.2.2.1) (aW C d.2.2.2.2.1) (aA (dA (fG a D) d.2.2.2.2.2.1) (aW (rP x) (z6 d)) (aA (bN (rP x) (z6 d)) (cJ x.1 d.1) (aA (cV v) (BC (B8 (pP g) n e)) (aA qT (xO (fJ x.2.1) Q d.2.1) (aA (m=m) (R
 =Ix d) True))))))))) (Pr (λd=>I1 d) t z u (λd=>aA (kN (D4 x) d.2.2.1) (aW C d.2.2.2.2.1) (aA (dA (fG a D) d.2.2.2.2.2.1) (aW (rP x) (z6 d)) (aA (bN (rP x) (z6 d)) (cJ x.1 d.1) (aA (cV v) (BC (B8 (pP g) n e)) (aA qT (tC x.2.1 d.2.1) (aA (m=m) (j=Ix d) True)))))))) (Pr (λd=>I1 d) t z u (λd=>aA (kN (D4 x) d.2.2.1) (aW C d.2.2.2.2.1) (aA (dA (fG a D) d.2.2.2.2.2.1) (aW (rP x) (z6 d)) (aA (bN (rP x) (z6 d)) (cJ x.1 d.1) (aA (cV v) (BC (B8 (pP g) n e)) (aA qT (tC x.2.1 d.2.1) (aA (m=m) (j=Ix d) True)))))))/\∀(d:Nat×cw×Bool×Sl×Sl×Int×PH),gS (I1 d) (d.2.2.2.2.2.1 !=0) (aA (lL (fJ d.2.1))
 (eA (fJ d.2.1)) (∃(f:Nat×cw×Bool×Sl×PH),aA (I f) (F f<F x) (aA (eQ (bP t)) (aI z) (aA (aI u) fT (aA lK oO (aA (eL 45) (kN d.2.2.1 (D4 f)) (aA (aW (z6 d) (rP f)) (bN (z6 d) (rP f)) (aA (iH (bE d.1 1)=bP f.1) (cV v) (aA (BC (B8 (pP g) n e)) qT (dJ (xO (fJ d.2.1) d.2.2.2.2.1 f.2.1) m m (Ix d) (Bu f))))))))))) (∃(f:Nat×cw×Bool×Sl×PH),aA (I f) (F f<F x) (aA (eQ (bP t)) (aI z) (aA (aI u) fT (aA lK oO (aA (eL 45) (kN d.2.2.1 (D4 f)) (aA (aW (z6 d) (rP f)) (bN (z6 d) (rP f)) (aA (iH (bE d.1 1)=bP f.1) (cV v) (aA (BC (B8 (pP g) n e)) qT (dJ (tC d.2.1 f.2.1) m m (Ix d)
 (Bu f)))))))))))))))))))) (∃(I1:cw×PH->Prop),pI (D4 x) (FZ u (Bu x) (λs j=>aA (lL (fJ x.2.1)) (eA (fJ x.2.1)) (∃(d:cw×PH),aA (I1 d) (eQ (bP t)) (aA (eP 6) oO (aA (eL 45) (BC (B8 (pP g) n e)) (aA qT (xO (fJ x.2.1) s d.1) (eM m m j d.2))))))) (∃(d:cw×PH),aA (I1 d) (eQ (bP t)) (aA (eP 6) oO (aA (eL 45) (BC (B8 (pP g) n e)) (aA qT (tC x.2.1 d.1) (eM m m (Bu x) d.2)))))/\∀(d:cw×PH),I1 d->bK (λA B=>aA (aR (pP g) A B) (0<=(↑t:Int)) ((↑t:Int)<(↑n:Int)/\cK d.2 1 (fJ d.1) (λs j=>gT (λc E=>aA (sL m A (fA c E 0)) (bL B t 1<c.size) (∀(P:MH),bJ m P A (splice c.toList (bL B t 1) (aL s)) E->K (jO (pD
 (Value.slice (pP g) n e))) P j))))))))
theorem ag:cm 58 Wd:=by
 refine jC func58 ?_;rintro e m h K ⟨s,r,rfl,f,z,g⟩;refine⟨dK [] [] [] [] false,rfl,aH,am s m h K,ax,?_⟩;dsimp only[am,push_cast];obtain⟨⟨c,j,n,o⟩,u⟩:=f;exact⟨c.map VV.enc,Qd c,j,bg,bg,λy h' le d=>g y h' le ⟨⟨c,d,n,o⟩,u⟩⟩
theorem Tl:cm 47 b4Q:=by
 refine jC func47 ?_;rintro D m h K ⟨v,s,t,A,r,rfl,B,n,M,u⟩;refine⟨dK [(58,Wd)] [] [] [] false,rfl,aE ag aH,XP v t A m h K,ax,?_⟩;dsimp only[XP,push_cast];have E:=B.tables.slen;have d:=bM.slen n;have c:AQ s t=false->K EH m h:=λe=>u ⟨none,0,0⟩ h (.refl _) (by simp only[LA,e];exact bM.nil _ _ _ _);refine aF (λF=>c (by simp[AQ];omega)) (λF=>aF (λG=>c (by simp[AQ];omega)) (λG=>?_));have e:AQ s t=true:=by simp[AQ];omega
 obtain⟨f,g⟩:∃f,s.tables[t.toNat]? =some f:=⟨_,bn aC⟩
 obtain⟨b,o,y,H,rd,I⟩:=bM.at B.tables g;have O:=I.key;obtain⟨a,len,j⟩:=A;have C:len<=j:=by obtain⟨P,J,_⟩:=n.ex;exact J.cap
 have d:len=r.length:=d
 have z:(if(if(len:Int)<y.key then(len:Int)else y.key)>0 then(if(len:Int)<y.key then(len:Int)else y.key)else 0)=max 0 (min f.key r.length):=by
  omega
 refine⟨b,o,H,aC,aC,y.key,.imm (cO.part rd 2 1),?_⟩;dsimp only;rw[z];have L:LA s t r=r.take (max 0 (min f.key r.length)).toNat:=by simp only[LA,e,if_true,g];rfl
 rw[L]at u;exact⟨aC,aC,⟨a,(max 0 (min f.key r.length)).toNat,j⟩,_,rfl,n.cut aC,bg,u⟩
theorem Wa.snoc{key}{ks:cn}{l k v}(x:Wa key (ks.take i) l)(c:ks[i]? =some k)(f:NH v)(g:CP key k i v=true):Wa key (ks.take (i+1)) (l++[v]):=by
 obtain⟨n,o,y⟩:=x;have z:=(bm c);have A:l.length=i:=bg
 refine⟨bg,λu d=>?_,λj u B d e=>?_⟩
 .grind
 grind
theorem bzJ{key k c}(d:c=1\/c=2)(e:(i:Int)>=key):CP key k i ⟨c,0,⟨#[]⟩⟩=true:=by
 rcases d with rfl|rfl<;>simp[CP,oC,JK]<;>omega
theorem Tc{key k v}(c:KOk k)(d:aRX k v):CP key k i v=true:=by
 obtain⟨e,f⟩:=d c;simp[CP,e,f]
theorem boJ c:NH ⟨c,0,⟨#[]⟩⟩:=⟨⟨ay,ay⟩,by show(ByteArray.mk #[]).size<=64;decide⟩
theorem baQ:cm 46 cXZ:=by
 refine jC func46 ?_;rintro b0 m h K ⟨v,s,tb,n,T,us,u,t,B,rs,sk,J,U,row,rfl,hs,V,hT,hn,hu,W,b1,a0,a1,C,h0,h1,hK⟩;refine⟨cnZ v ⟨some ⟨tb,0,none⟩,n,T⟩ t sk U m,rfl,aE Tl (aE aa (aE ag aH)),XQ v tb n T t sk U m h K,ax,?_⟩;dsimp only[XQ,push_cast];obtain⟨y,L,b2,a2⟩:=hT;have b3:t<us.length:=(bm hu);have a3:=bM.slen W;have b':=bM.slen C;have b4:((U.len:Int)==0)=false:=bf
 have a4:(y.toList.drop (0+t*1)).take [dW u].length=[dW u]:=by
  have D:y.toList[t]? =some (Sl.val u):=by
   have e:(y.toList.take us.length)[t]? =some (Sl.val u):=bg
   grind
  have O:=(bm D);rw[Nat.zero_add,Nat.mul_one,drop_eq_getElem_cons O,(List.getElem?_eq_some_iff.1 D).2];rfl
 refine⟨tb,0,rfl,aC,aC,u,.lent y 58 (0,0) L a4,λz=>z.2.2.2.1=u/\z.1<=rs.length/\PH.le h z.2.2.2.2/\∃out,fE z.2.2.2.2 z.2.1 out/\out.length<=2*z.1/\out++Dh B J row z.2.2.1 (rs.drop z.1)=Dh B J row false rs,λz=>rs.length-z.1,⟨(0,[],false,u,h),⟨rfl,ay,.refl _,[],fE.nil _,ay,ay⟩,bg⟩,?_⟩;rintro⟨i,F,d,u',hx⟩ ⟨e1,hi,g,out,j,G,rF⟩;dsimp only at e1 hi g j G rF⊢
 subst e1;have X:=j.len;refine aF (λO=>?_) (λb5=>?_)
 .obtain⟨r,H⟩:=fK a3 O;have a5:=(bm H);obtain⟨b,o,w,ea,rd,hv⟩:=bM.at W H;have P:rs.drop i=r::rs.drop (i+1):=by rw[drop_eq_getElem_cons a5,(List.getElem?_eq_some_iff.1 H).2]
  rw[P,Dh]at rF;refine⟨b,o,ea,aC,aC,w,.imm (rd.mono g),v,s,t,w,r,rfl,hs.mono g,bQ.mono hv g,a0 r (bo H),λs' h2 A a6=>⟨s',sk,_,J,rfl,a6,bQ.mono a1 (g.trans A),?_⟩⟩;rw[II V];generalize hc:fG (pM B r) J=c at rF⊢
  refine⟨λz=>z.1=i/\z.2.2.2.1=u'/\z.2.2.2.2.1=w/\z.2.2.2.2.2.1=c/\PH.le hx z.2.2.2.2.2.2/\∃out,fE z.2.2.2.2.2.2 z.2.1 out/\out.length<=2*i+1/\out++((if c≠0 then[r]else[])++Dh B J row z.2.2.1 (rs.drop (i+1)))=Dh B J row false rs,aF (λQ=>aD (λE=>?_) (λE=>?_)) (λQ=>?_),?_⟩
  .have E:d=false:=bg
   subst E;rw[if_pos ⟨Q,rfl⟩,show(false||decide (0<=c))=true by simp;omega]at rF;refine⟨U,row,rfl,bQ.mono C (g.trans A),h1,λI R f S=>⟨bg,bg,(i,F++[I],true,u',w,c,R),⟨rfl,rfl,rfl,rfl,A.trans f,out++[row],(j.mono (A.trans f)).snoc S,bg,?_⟩,?_⟩⟩
   .grind
   .rw[bu];exact MT
  .have E:d=true:=bg
   subst E;rw[if_neg ay,Bool.true_or,nil_append]at rF;exact⟨(i,F,true,u',w,c,h2),⟨rfl,rfl,rfl,rfl,A,out,j.mono A,aC,rF⟩,MT⟩
  .rw[if_neg (λh=>Q h.1),show(d||decide (0<=c))=d by grind,nil_append]at rF;exact⟨(i,F,d,u',w,c,h2),⟨rfl,rfl,rfl,rfl,A,out,j.mono A,aC,rF⟩,MT⟩
  clear rF j G X out F;rintro⟨i',F,d,u2,w2,c2,R⟩ ⟨e2,e3,e4,e5,f,out,j,G,rF⟩;dsimp only at e2 e3 e4 e5 f j G rF⊢
  subst e2 e3 e4 e5;have X:=j.len;have hw:IntKind.i64.wrap ((i':Int)+1)=((i'+1:Nat):Int):=jK aC;refine aD (λa7=>?_) (λa7=>?_)
  .rw[if_pos bg]at rF;refine⟨bg,bg,(i'+1,F++[w2],d,u2,R),⟨rfl,aC,g.trans f,out++[r],j.snoc (bQ.mono hv (g.trans f)),bg,bg⟩,aC,?_⟩;rw[hw,bu];exact MT
  .rw[if_neg bg,nil_append]at rF;refine⟨(i'+1,F,d,u2,R),⟨rfl,aC,g.trans f,out,j,aC,rF⟩,aC,?_⟩
   grind
 .have a8:i=rs.length:=by omega
  rw[a8,drop_length,Dh]at rF;refine⟨λz=>PH.le h z.2/\fE z.2 z.1 (Dh B J row false rs),aD (λE=>?_) (λE=>?_),?_⟩
  .have E:d=false:=bg
   rw[E,if_neg ay]at rF;refine⟨U,row,rfl,bQ.mono C g,h1,λI R f S=>⟨bg,bg,(F++[I],R),⟨g.trans f,by rw[<-rF];exact(j.mono f).snoc S⟩,?_⟩⟩;rw[bu];exact MT
  .have E:d=true:=bg
   rw[E,if_pos rfl,append_nil]at rF;exact⟨(F,hx),⟨g,bg⟩,MT⟩
  rintro⟨b6,R⟩ ⟨f,M⟩;dsimp only at f M⊢
  have b7:=O2 (t:=B) (key:=J) (row:=row) (l:=rs) (d:=false);refine⟨tb,0,rfl,aC,aC,λI h4 Y a9=>⟨y,58,⟨L⟩,?_,λm' Z=>hK I m' h4 (f.trans Y) ((M.mono Y).rows a9 bg) ⟨_,Z.at_,?_,?_⟩ ⟨λb hb=>(Z.other b hb).symm▸rfl⟩⟩⟩
  .omega
  .have a':splice y.toList (0+((t:Int)).toNat*1) [dW I]=y.toList.set t (Sl.val I):=by
    rw[set_eq_take_append_cons_drop,if_pos bg];simp only[splice,Int.toNat_natCast,Nat.zero_add,Nat.mul_one,length_singleton,append_assoc];rfl
   grind
  .have a':splice y.toList (0+((t:Int)).toNat*1) [dW I]=y.toList.set t (Sl.val I):=by
    rw[set_eq_take_append_cons_drop,if_pos bg];simp only[splice,Int.toNat_natCast,Nat.zero_add,Nat.mul_one,length_singleton,append_assoc];rfl
   rw[a',length_set,map_set, <-a2,take_set]
def R9{α:Type}(T:List α->α->Prop):List α->List α->Prop
 |_,[]=>True
 |pre,x::r=>T pre x/\R9 T (pre++[x]) r
theorem Xm{α:Type}{T:List α->α->Prop}:∀{l c:List α},R9 T c l->∀(j:Nat) x,l[j]? =some x->T (c++l.take j) x
 |[],_,_,j,x,e=>by simp at e
 |y::r,c,h,0,x,e=>by simp at e;subst e;simpa using h.1
 |y::r,c,h,j+1,x,e=>by
  have:=Xm h.2 j x (bk e)
  grind
theorem BH{α}{T:List α->α->Prop}{l}(h:R9 T [] l):Good T l:=λj x e=>bk (Xm h j x e)
theorem a1Z{α}{T:List α->α->Prop}{l}(h:Good T l) n:Good T (l.take n):=λj x e=>by
 rw[getElem?_take]at e;split at e
 .rename_i c;rw[take_take,Nat.min_eq_left aC];exact h j x e
 .cases e
theorem bqZ(u:s.tables.length<=8)(g:∀t∈s.tables,t.columns.length<=8/\t.refs=[]/\t.checks=[])(y:0<=s.version)(z:s.version<=1000)(A:Good Fe s.tables):eX s=0:=by
 have c:EF s:=⟨u,λj t e=>by
  obtain⟨n,d,o⟩:=g t (bo e);exact⟨n,by simp[d],by simp[o]⟩⟩
 have ok:L8 s:=⟨y,z,A,λj t e=>by
  obtain⟨n,d,o⟩:=g t (bo e);unfold G0;rw[d];intro i x B;simp at B⟩
 rw[Mp c ok];refine EE _ λe f=>?_;obtain⟨i,_,f⟩:=mem_flatMap.1 f;unfold zB at f
 grind
theorem Zg{id}(h:id=4\/id=5):Good Fe (vL id):=by
 have c:iA id=true:=by rcases h with rfl|rfl<;>rfl
 refine BH ⟨⟨?_,?_,?_,?_,BH ⟨⟨?_,?_,?_⟩,⟨?_,?_,?_⟩,trivial⟩⟩,⟨?_,?_,?_,?_,BH ⟨⟨?_,?_,?_⟩,⟨?_,?_,?_⟩,⟨?_,?_,?_⟩,⟨?_,?_,?_⟩,trivial⟩⟩,⟨?_,?_,?_,?_,BH ⟨⟨?_,?_,?_⟩,⟨?_,?_,?_⟩,trivial⟩⟩,⟨?_,?_,?_,?_,BH ⟨⟨?_,?_,?_⟩,trivial⟩⟩,trivial⟩
 all_goals first|exact c|rfl|(simp;done)|decide
theorem Qn(h:Au s):eX s=0/\s.tables≠[]:=by
 obtain⟨f,n,id,g,j,o,u,c,rfl⟩:=h.ex;refine⟨bqZ bg (λt d=>?_) g bg (a1Z (Zg c) n),λe=>?_⟩
 .have d:=mem_of_mem_take d;simp only[vL,mem_cons,not_mem_nil,or_false]at d
  grind
 .have:=congrArg List.length e;simp[vL]at this;omega
theorem aXQ(h:Au s){t}(d:t∈s.tables):1<=t.key/\1<=t.columns.length/\t.columns.length<=4/\∀c∈t.columns,KOk c.kind:=by
 obtain⟨g,n,id,o,u,y,z,f,rfl⟩:=h.ex;have j:KOk id:=by rcases f with rfl|rfl;exact .inr (.inl rfl);exact .inr (.inr rfl)
 have d:=mem_of_mem_take d;simp only[vL,mem_cons,not_mem_nil,or_false]at d;rcases d with rfl|rfl|rfl|rfl
 all_goals
  refine⟨ay,ay,ay,λc e=>?_⟩;simp only[mem_cons,not_mem_nil,or_false]at e
 .rcases e with rfl|rfl<;>exact .inr (.inl rfl)
 .rcases e with rfl|rfl|rfl|rfl
  .exact j
  .exact .inr (.inl rfl)
  .exact .inr (.inr rfl)
  .exact .inl rfl
 .rcases e with rfl|rfl<;>exact .inr (.inl rfl)
 grind
structure J2(s:jZ)(st:List ct):Prop where
 len:st.length=s.tables.length
 few:∀l∈st,l.length<=4
 ok:PZ s st
 val:StV st
theorem cR.iceB{n hx r f d E}(g:n f=some (.cells d E (0,0)))(le:PH.le h hx)(y:∀u,PH.le hx u->(∀i,u f i=d[i]?)->K r (λb=>if b=f then none else n b) u):cR h K r n hx:=by
 intro j;have z:∀i,hx f i=none:=j f _ g
 have c:PH.le hx (λx i=>if x=f then d[i]? else hx x i):=⟨λx i v e=>by
  grind⟩
 refine⟨_,_,λb o e=>?_,le.trans c,λx i v e=>?_,y _ c (λi=>ay)⟩
 .grind
 grind
structure TSt(h:PH)(s:jZ)(m:MH)(tb:Nat)(us:cw)(st:List ct):Prop where
 tbl:bmJ m tb us
 ulen:us.length=s.tables.length
 slen:st.length=s.tables.length
 rows:∀(j:Nat) u l,us[j]? =some u->st[j]? =some l->Rows h u l
 ok:PZ s st
 val:StV st
 few:∀l∈st,l.length<=4
theorem TSt.mono{c us st}(x:TSt h s m c us st)(le:PH.le h h')(e:m' c=m c):TSt h' s m' c us st:=by
 obtain⟨d,o,f,g⟩:=x.tbl;exact⟨⟨d,bg,f,g⟩,x.ulen,x.slen,λj u l a b=>bM.mono (x.rows j u l a b) le λr t n=>bQ.mono n le,x.ok,x.val,x.few⟩
theorem cfZ{t r}(h:Wa t.key (t.columns.map qE.kind) r):G3 t r=true:=by
 obtain⟨c,_,d⟩:=h;rw[length_map]at c;refine HE.2 ⟨c,λi e=>?_⟩
 grind
theorem bAQ{key k v}(h:CP key k i v=true)(c:NH v):uY v.kind/\uY v.int:=by
 simp only[CP,bz]at h;have:=NR h.1;exact⟨⟨aC,aC⟩,c.int_⟩
theorem TSt.put{B:Nat}{t us st C c l row}(x:TSt h s m B us st)(le:PH.le h h')(I:s.tables[t]? =some c)(D:st[t]? =some l)(M:bmJ m' B (us.set t C))(g:Rows h' C (Dh c (pM c row) row false l))(A:Wa c.key (c.columns.map qE.kind) row)(S:l.length<=3):
 TSt h' s m' B (us.set t C) (st.set t (Dh c (pM c row) row false l)):=by
 have E:=cfZ A;have F:=(bm D);have y:=x.ok t c l I D;refine⟨M,by rw[length_set];exact x.ulen,by rw[length_set];exact x.slen,λj u n J f=>?_,λj O n o f=>?_,λn f=>?_,λn f=>?_⟩
 .by_cases e:t=j
  .grind
  .rw[getElem?_set_ne e]at J f;exact bM.mono (x.rows j u n J f) le λr t z=>bQ.mono z le
 .by_cases e:t=j
  .subst e;rw[getElem?_set_self F]at f;rw[I]at o;cases f;cases o;refine⟨λr g=>?_,λi r P Q R=>(Qj (OW.of y.2)).adj i r P Q R⟩;rcases O0 g with rfl|g
   .exact E
   .exact y.1 r g
  .rw[getElem?_set_ne e]at f;exact x.ok j O n o f
 .rcases mem_or_eq_of_mem_set f with G|rfl
  .exact x.val n G
  .intro r g v z;rcases O0 g with rfl|g
   .obtain⟨i,L,rfl⟩:=mem_iff_getElem.1 z;have H:i<(c.columns.map qE.kind).length:=by rw[<-A.1];exact L
    exact bAQ (A.2.2 i _ _ (bn L) (bn H)) (A.2.1 _ z)
   .exact x.val l (bo D) r g v z
 .rcases mem_or_eq_of_mem_set f with G|rfl
  .exact x.few n G
  .have:=O2 (t:=c) (key:=pM c row) (row:=row) (l:=l) (d:=false)
   grind
def cDX:Vc.Spec:=λc m h K=>∃cb s key ks,c=[cP cb,cS s,cI key,cI 2]/\bB m h cb/\Ints h s ks/\ks.length<=1000/\(∀k∈ks,k=3\/k=4\/k=5)/\∀d r m' h',PH.le h h'->bQ h' d r->Wa key ks r->bV m m' cb->bB m' h' cb->K (cS d) m' h'
def aMJ:Vc.Spec:=λc m h K=>∃cb v s,c=[cP cb,aS v,cI 2]/\bB m h cb/\iU h s v/\Au s/\∀d e m' h',PH.le h h'->DG h' e d->J2 s d->bV m m' cb->bB m' h' cb->K (aSt e) m' h'
noncomputable def bCQ cb key s:=dK [(25,UR),(88,V1)] [(3,{A:=Nat×cz×MH×PH,st:=λ⟨i,l,m,h⟩=>bY 59 63 [(0,pv cb),(2,iv key),(3,iv 2),(9,.at (.lst 24)),(12,sv s),(13,iv s.len),(14,iv i)] [(24,.lst 30 3 (l.map VV.enc))] m h})] [] [] false
noncomputable def bMX(cb:Nat)(v:bT):=qD [(19,Mb),(45,xL),(44,cDX),(47,b4Q),(46,cXZ)] [(3,{A:=Nat×Sl×MH×PH,st:=λ⟨i,s,m,h⟩=>bY 51 54 [(0,pv cb),(2,iv 2),(4,.at (.ptr 4 0)),(6,.at (.ptr 6 0)),(7,.at (.ptr 7 0)),(18,iv v.tables.len),(19,iv i)] [(4,.cells 27 (v.enc.map .val)),(6,.cells 52 [.val cH.val]),(7,.cells 52 [.val (.slice s.a s.len s.cap)])] m h}),
 (6,{A:=Nat×Int×Sl×MH×PH,st:=λ⟨i,n,s,m,h⟩=>bY 51 54 [(0,pv cb),(2,iv 2),(4,.at (.ptr 4 0)),(6,.at (.ptr 6 0)),(7,.at (.ptr 7 0)),(8,iv i),(9,iv n),(18,iv v.tables.len),(19,iv i)] [(4,.cells 27 (v.enc.map .val)),(6,.cells 52 [.val cH.val]),(7,.cells 52 [.val (.slice s.a s.len s.cap)])] m h})] [] [] [2050] [] false
abbrev yH(a:Nat×cz×MH×PH):=Ey a.2.1
abbrev kV(a:Nat×cz×MH×PH):=a.2.2
abbrev H6(a:Nat×cz×MH×PH)(b:Nat×cz×MH×PH->Prop)(c:Nat×cz×MH×PH->Nat)(d:Nat)(e:Int)(g:Sl)(i:(Nat×cz×MH×PH)->Prop):=aA (jN (kB (yH a) 1) 32) (eA (yH a)) (∃(x:Nat×cz×MH×PH),aA (b x) (c x<c a) (aA (cX d) (fI e) (aA (fI 2) (eL 24) (aA (aI g) (bI g) (i x)))))
attribute [push_cast] yH kV H6
def Tm(cb:Nat)(s:Sl)(key:Int)(m:MH)(h:PH)(K:cq):=
  ∃(I:Nat×cz×MH×PH->Prop)(f:Nat×cz×MH×PH->Nat),(∃(x:Nat×cz×MH×PH),aA (I x) (cX cb) (aA (fI key) (fI 2) (aA (eL 24) (aI s) (aA (bI s) (bA x.1) (aA (vB 30 3 (yH x)) (bO m (kV x)) (cF h (kV x)/\True))))))/\∀(x:Nat×cz×MH×PH),I x->aY (↑x.1:Int) (aG s) (bK (λb o=>aA (aR s.a b o) (0<=(↑x.1:Int)) ((↑x.1:Int)<aG s/\∃(y:Int),aK (kV x).1 (kV x).2 b (bL o x.1 1) (bC y)/\dQ (decide ((↑x.1:Int)>=key)) (rL cb 5 (kV x).1 (kV x).2 (λc r=>∀(e:MH),bH (bV (kV x).1 e c) (bB e (kV x).2 c) (dQ r (H6 x I f cb key s (λd=>aA (iH (bE x.1 1)=bP d.1) (bW 30 3 (dP (yH x) (bG (gZ 2) bF FC))=bW 30 3 (yH d)) (aA (bO e (kV d))
 (eO (kV x) (kV d)) True))) (decide ((↑x.1:Int)>=key)) (FX cb y e (kV x).2 (λv g=>H6 x I f cb key s (λd=>aA (iH (bE x.1 1)=bP d.1) (bW 30 3 (dP (yH x) v.enc)=bW 30 3 (yH d)) (aA (bO g (kV d)) (eO (kV x) (kV d)) True)))) (FX cb y e (kV x).2 (λv g=>H6 x I f cb key s (λd=>aA (iH (bE x.1 1)=bP d.1) (bW 30 3 (dP (yH x) v.enc)=bW 30 3 (yH d)) (aA (bO g (kV d)) (eO (kV x) (kV d)) True))))))) (decide ((↑x.1:Int)>=key)) (FX cb y (kV x).1 (kV x).2 (λv e=>H6 x I f cb key s (λd=>aA (iH (bE x.1 1)=bP d.1) (bW 30 3 (dP (yH x) v.enc)=bW 30 3 (yH d)) (aA (bO e (kV d)) (eO (kV x) (kV d)) True)))) (FX cb y (kV x).1 (kV
 x).2 (λv e=>H6 x I f cb key s (λd=>aA (iH (bE x.1 1)=bP d.1) (bW 30 3 (dP (yH x) v.enc)=bW 30 3 (yH d)) (aA (bO e (kV d)) (eO (kV x) (kV d)) True))))))) (cK (kV x).2 3 (yH x) (λj n=>K (nW j) (kV x).1 n))
abbrev lR a b:=oQ 52 (uH (yY a))=oQ 52 (uH (yY b))
abbrev wD(a:Nat×Int×Sl×MH×PH):=a.2.2.2
attribute [push_cast] lR wD
def Np(cb:Nat)(v:bT)(m:MH)(h:PH)(K:cq):=
  aA (cN (kM v)) (kM v<=kM v) (aA (Ae (kM v*24)) (Ae (kM v)) (jW (λs M=>sE m M h s 58 1 (tW (kM v) gW)->Pt (λI x=>aA (I x) (cX cb) (aA (fI 2) (eP 4) (aA lK (eP 7) (aA (kO v) (bA x.1) (aA (cV v) qT (aA (lR s (tH x)) (bO M (iY x)) (kY (cF h (iY x))))))))) (λI O x=>I x->aY (↑x.1:Int) (aG v.tables) (mS cb 5 (iY x).1 (iY x).2 (λk m3=>∃(I1:Nat×Int×Sl×MH×PH->Prop)(P:Nat×Int×Sl×MH×PH->Nat),(∃(d:Nat×Int×Sl×MH×PH),aA (I1 d) (cX cb) (aA (fI 2) (eP 4) (aA lK (eP 7) (aA (cJ x.1 d.1) (dA k d.2.1) (aA (kO v) (cJ x.1 d.1) (aA (cV v) qT (aA (lR (tH x) d.2.2.1) (bO m3 (wD d)) (eO (iY x) (wD d)/\
 True))))))))/\∀(d:Nat×Int×Sl×MH×PH),I1 d->gA d.2.1 0 (bK (λb o=>aA (aR (wY v) b o) (0<=(↑d.1:Int)) ((↑d.1:Int)<aG v.tables/\∃(y:Int),aA (aK (wD d).1 (wD d).2 b (bL o d.1 5+2) (bC y)) (kU (wD d).2 b (bL o d.1 5) 2 (bC y)) (Cr (cT (jO (cC v)) (↑d.1:Int)) (wD d).2 (λs1 F=>∃(c:Nat)(Q:Sl)(R:Int)(A:cn),aA (dE cb (dC s1 (cT (jA y) 2))=dE c (dC Q (cT (jA R) 2))) (bB (wD d).1 F c) (aA (Ints F Q A) (iB A) ((∀(f:Int),List.Mem f A->f=3\/f=4\/f=5)/\∀(G:Sl)(r:cz),fD (λB j=>bS F j (bQ j G r) (bH (Wa R A r) (bV (wD d).1 B c) (pK B j c (rD (λS T=>∃(t:Int),pX (λU H=>aA (cE (cC v) (gJ (↑d.1
 :Int) (nW G))=cE (cC S) (gJ t (nW U))) (iU j T S) (aA (bQ j U H) (Et H) (∀(V:Sl)(g:PH),bS j g (bQ g V (LA T t H)) (rD (λW X=>bK (λz n=>Lq (λY u=>∃(Z:Sl)(C:Nat)(t3:AE)(D:ct),pX (λs8 f=>pX (λs9 E=>aA (cE (cC v) (cE (aL d.2.2.1) (jA (↑d.1:Int)::cD V G))=cE (cC W) (cE (pD (Value.slice (pP z) n Y)) (jA (↑C:Int)::cD s8 s9))) (iU g X W) (aA (Px X C t3) (bmJ B z u) (aA (n=u.length) (u[C]? =Option.some Z) (aA (Rows g Z D) (mY D.length) (aA (Ij D (λr4=>Et r4)) (bQ g s8 f) (aA (bQ g s9 E) (0<E.length) (Et E/\∀(u2:Sl),fD (λJ L=>bS g L (Rows L u2 (Dh t3 f E false D)) (bH (bmJ J z (List.set u C u2))
 (bV B J z) (∃(e:Nat×Int×Sl×MH×PH),aA (I1 e) (P e<P d) (aA (cX cb) (fI 2) (aA (eP 4) lK (aA (eP 7) (cJ d.1 e.1) (aA (dA (iF (d.2.1-1)) e.2.1) (kO v) (aA (cJ d.1 e.1) (cV v) (aA qT (oQ 52 (uH (B8 (pP z) n Y))=oQ 52 (uH (yY e.2.2.1))) (aA (bO J (wD e)) (cF L (wD e)) True))))))))))))))))))))))))))))))))))))) (∃(e:Nat×Sl×MH×PH),aA (I e) (O e<O x) (aA (cX cb) (fI 2) (aA (eP 4) lK (aA (eP 7) (kO v) (aA (iH (bE d.1 1)=bP e.1) (cV v) (aA qT (lR d.2.2.1 (tH e)) (aA (iJ (wD d) (iY e)) (eO (wD d) (iY e)) True))))))))) (K (jO (aL (tH x))) (iY x).1 (iY x).2)))))
theorem ZG:cm 44 cDX:=by
 refine jC func44 ?_;rintro U m h K ⟨cb,s,key,ks,rfl,V,P,hl,W,X⟩;refine⟨bCQ cb key s,rfl,aE E6 (aE MR aH),Tm cb s key m h K,ax,?_⟩;dsimp only[Tm,push_cast];have H:=P.slen;refine⟨λz=>z.2.2.2=h/\z.1<=ks.length/\Wa key (ks.take z.1) z.2.1/\bV m z.2.2.1 cb/\bB z.2.2.1 h cb,λz=>ks.length-z.1,⟨(0,[],m,h),⟨rfl,ay,⟨ay,ay,λj u k h=>by simp at h⟩,.refl _ _,V⟩,MT⟩,?_⟩;rintro⟨i,l,Q,h'⟩ ⟨R,Y,d,I,E⟩;dsimp only at R Y d I E⊢
 subst R;have Z:l.length=i:=by rw[d.1,length_take];omega
 refine aF (λJ=>?_) (λa' s' h2 A L=>?_)
 .obtain⟨k,B⟩:=fK H J;obtain⟨b,o,ea,rd⟩:=P.at' B;have C:=W k (bo B);have M:∀(u:VV)(m':MH),NH u->CP key k i u=true->bV Q m' cb->bB m' h' cb->h'=h'/\i+1<=ks.length/\Wa key (ks.take (i+1)) (l++[u])/\bV m m' cb/\bB m' h' cb:=λu m' n hf o c=>⟨rfl,aC,d.snoc B n hf,I.trans o,c⟩
  have f:ks.length-(i+1)<ks.length-i:=by omega
  have hw:IntKind.i64.wrap ((i:Int)+1)=((i+1:Nat):Int):=jK aC;refine⟨b,o,ea,aC,aC,k,.imm rd,aF (λg=>⟨cb,5,rfl,aC,aC,E,λr S T O=>aD (λ_=>?_) (λ_=>aF (λ_=>⟨cb,k,rfl,O,λu y n e F G=>?_⟩) (λ_=>⟨cb,k,rfl,O,λu y n e F G=>?_⟩))⟩) (λg=>aF (λD=>absurd D g) (λ_=>⟨cb,k,rfl,E,λu y n e F G=>?_⟩))⟩
  .refine⟨bg,bg,(i+1,l++[⟨2,0,⟨#[]⟩⟩],S,h'),M _ S (boJ 2) (bzJ (.inr rfl) g) T O,f,?_⟩;rw[hw,bu];exact MT
  .refine⟨bg,bg,(i+1,l++[u],y,h'),M _ y n (Tc C e) (T.trans F) G,f,?_⟩
   grind
  .omega
  .refine⟨bg,bg,(i+1,l++[u],y,h'),M _ y n (Tc C e) F G,f,?_⟩
   grind
 .rw[bt aC]at d;exact X s' l Q h2 A ⟨⟨l,L,rfl,λi x B=>⟨x,B,rfl⟩⟩,aC⟩ d I (E.mono A)
theorem anZ:cm 13 aMJ:=by
 refine Sn func13 ?_;rintro c9 m h K ⟨cb,v,s,rfl,hc,hs,hp,hK⟩;refine⟨bMX cb v,rfl,aE MO (aE IN (aE ZG (aE Tl (aE baQ aH)))),Np cb v m h (cR h K),ax,?_⟩;show Np cb v m h (cR h K);dsimp only[Np,push_cast];have b2:=hs.tables.slen;obtain⟨a6,b3⟩:=Qn hp;have h8:=JC a6;have b4:=Dd a6;have d':0<s.tables.length:=length_pos_iff.2 b3;refine⟨aC,aC,aC,aC,λV m1 I=>?_⟩;rw[show((v.tables.len:Int)).toNat=s.tables.length by omega]at I
 obtain⟨J,E,C,S,L,_,_,a7,a1⟩:∃b E C,V=⟨some ⟨b,0,none⟩,s.tables.length,E⟩/\m1 b=some (.cells C 58 (0,0))/\s.tables.length<=E/\E<=maxLen/\C.size=E*1/\C.toList.take (s.tables.length*1)=(replicate s.tables.length [pF]).flatten:=by
  rcases I.row.ex with⟨_,e⟩|⟨b,E,C,W,e2,e3,e4,e5,e6⟩
  .have:=congrArg List.length e;grind
  grind
 have b5:s.tables.length<=E:=by assumption
 have X:cW m h J:=I.fresh J 0 (by rw[S])
 have M:J≠cb:=λe=>by
  obtain⟨cs,e2⟩:=hc.blk;rw[<-e,X.m_]at e2;cases e2
 have Y:∀b,b≠J->m1 b=m b:=λb hb=>I.other b λi e=>by
  grind
 have a8:bB m1 h cb:=hc.keep (Y cb (Ne.symm M)) (.refl _)
 have a9:TSt h s m1 J (replicate s.tables.length ⟨none,0,0⟩) (replicate s.tables.length []):=by
  refine⟨⟨C,L,bg,?_⟩,ay,ay,λj u l R F=>?_,λj t l ht F=>?_,λl F=>?_,λl F=>?_⟩
  .rw[length_replicate, <-Nat.mul_one s.tables.length,a1,Nat.mul_one,map_replicate];generalize s.tables.length=k
   induction k with
   |zero=>rfl
   |succ k ih=>rw[replicate_succ,flatten_cons,ih,replicate_succ];rfl
  .have R:=bo R;have F:=bo F;rw[eq_of_mem_replicate R,eq_of_mem_replicate F];exact bM.nil _ _ _ _
  .rw[eq_of_mem_replicate (bo F)];exact⟨λr hr=>by simp at hr,λi r r' e=>by simp at e⟩
  .grind
  grind
 clear a1 a7 L C;refine⟨λz=>z.1<=s.tables.length/\z.2.1=V/\PH.le h z.2.2.2/\bB z.2.2.1 z.2.2.2 cb/\(∀b,b≠J->b≠cb->z.2.2.1 b=m b)/\∃G H,TSt z.2.2.2 s z.2.2.1 J G H/\∀j l,z.1<=j->H[j]? =some l->l=[],λz=>s.tables.length-z.1,⟨(0,V,m1,h),⟨ay,rfl,.refl _,a8,λb h1 _=>Y b h1,_,_,a9,λj l _ e=>eq_of_mem_replicate (bo e)⟩,MT⟩,?_⟩;clear a9 a8;rintro⟨i,a2,m2,h2⟩ ⟨hi,W,T,c2,o2,G,H,g,B⟩;dsimp only at hi W T c2 o2 g B⊢
 rw[W];clear W a2;refine aF (λb6=>?_) (λd0=>?_)
 .obtain⟨D,f⟩:=fK b2 b6;have a3:=bo f;obtain⟨tk,tc,d1,b7⟩:=aXQ hp a3;have b':=(bm f)
  have O:H[i]? =some []:=by
   have:=getElem?_eq_getElem (l:=H) (i:=i) (by rw[g.slen];exact b')
   grind
  refine⟨cb,5,rfl,c2,λk m3 k0 k1 o3 c3=>?_⟩;refine⟨λz=>z.1=i/\z.2.2.1=V/\z.2.1<=4/\PH.le h z.2.2.2.2/\bB z.2.2.2.1 z.2.2.2.2 cb/\(∀b,b≠J->b≠cb->z.2.2.2.1 b=m b)/\∃G H l,TSt z.2.2.2.2 s z.2.2.2.1 J G H/\H[i]? =some l/\((l.length:Int)<=4-z.2.1)/\0<=z.2.1/\∀j l,i+1<=j->H[j]? =some l->l=[],λz=>z.2.1.toNat,⟨(i,k,V,m3,h2),⟨rfl,rfl,bg,T,c3,λb h1 h2=>by show m3 b=m b;rw[o3.other b h2];grind,G,H,[],g.mono (.refl _) (o3.other J M),O,bf,k0,λj l hj=>B j l aC⟩,MT⟩,?_⟩;clear o3 c3 m3 k0 k1 g B O G H k o2 c2 m2;rintro⟨i',n,a2,m3,h3⟩ ⟨W,e2,b8,A,c3,o3,G,H,l,g,F,b9,b0,B⟩;dsimp only at W e2 b8 A c3 o3 g F b9 b0 B⊢
  rw[W,e2];clear W e2 i' a2;refine aF (λhn=>?_) (λhn=>?_)
  .obtain⟨b,o,y,ea,rd,hy⟩:=bM.at (hs.mono A).tables f;have c':kH s (i:Int)=D.columns.map qE.kind:=by rw[kH,if_neg aC,Int.toNat_natCast,f]
   refine⟨b,o,ea,aC,aC,D.key,.imm (by rw[<-hy.key];exact cO.part rd 2 1),by rw[<-hy.key];exact cO.part rd 2 1,v,s,i,rfl,hs.mono A,b4,λks h4 P b1=>?_⟩;rw[c']at b1;refine⟨cb,ks,D.key,_,rfl,c3.mono P,b1,bg,λk hk=>?_,λsr row m5 h5 U Z a' o5 c5=>?_⟩
   .obtain⟨c,hc,rfl⟩:=mem_map.1 hk;exact b7 c hc
   have d2:row.length=D.columns.length:=by rw[a'.1,length_map]
   refine⟨v,s,i,sr,row,rfl,hs.mono ((A.trans P).trans U),Z,aC,λsk h6 Q a0=>?_⟩;rw[II f]at a0;have a4:=g.mono ((P.trans U).trans Q) (o5.other J M);obtain⟨u,R⟩:∃u,G[i]? =some u:=⟨_,bn (by rw[g.ulen];exact b')⟩
   have d3:=bo F;refine⟨v,s,J,s.tables.length,E,G,u,i,D,l,sk,pM D row,sr,row,by rw[S],hs.mono (((A.trans P).trans U).trans Q),f,a4.tbl,g.ulen.symm,R,a4.rows i u l R F,aC,λr hr=>?_,a0,bQ.mono Z Q,aC,aC,λu' m7 h7 a5 c0 c1 o7=>?_⟩
   .have:=(VF ((g.ok i D l f F).1 r hr)).1;omega
   have hw:IntKind.i64.wrap (n-1)=n-1:=fL aC aC;have c4:=O2 (t:=D) (key:=pM D row) (row:=row) (l:=l) (d:=false);simp at c4;refine⟨(i,n-1,V,m7,h7),⟨rfl,rfl,bg,(((A.trans P).trans U).trans Q).trans a5,(c5.mono (Q.trans a5)).keep (o7.other cb (Ne.symm M)) (.refl _),λb h1 h2=>by show m7 b=m b;rw[o7.other b h1,o5.other b h2];grind,G.set i u',H.set i _,_,a4.put a5 f F c1 c0 a' aC,getElem?_set_self (bm F),bg,bg,λj l' hj e=>?_⟩,bg,?_⟩
   .grind
   .grind
  .refine⟨(i+1,V,m3,h3),⟨aC,rfl,A,c3,o3,G,H,g,B⟩,aC,?_⟩;rw[jK aC];exact MT
 .obtain⟨C,L,a7,a1⟩:=g.tbl;refine cR.iceB L T λh3 A c8=>hK H V _ h3 (T.trans A) ⟨⟨⟨G,⟨by rw[S,length_map];exact g.ulen.symm,.inr ⟨J,0,by rw[S],λj e hj=>⟨λn x hx=>?_⟩⟩,bg⟩,by rw[g.slen,g.ulen],λj l F=>?_⟩,by rw[g.slen];omega⟩,by rw[g.slen];omega,g.val⟩ ⟨g.slen,g.few,g.ok,g.val⟩ ⟨λb hb=>?_⟩ ?_
  .rw[getElem?_map,Option.map_eq_some_iff]at hj;obtain⟨u,R,rfl⟩:=hj;have hn:n=0:=by have:=(bm hx);simp[eS]at this;omega
   subst hn
   have hx:u.val=x:=by
    simp[eS]at hx;exact hx
   subst hx;have e:(C.toList.take G.length)[j]? =some u.val:=bg
   grind
  .have c6:=(bm F);have c7:j<G.length:=by rw[g.ulen, <-g.slen];exact c6
   have R:G[j]? =some G[j]:=bn c7;exact⟨_,R,bM.mono (g.rows j _ l R F) A λr t hv=>bQ.mono hv A⟩
  .by_cases e:b=J
   .subst e;simp[X.m_]
   grind
  .refine bB.keep c2 ?_ A
   grind
abbrev Rel:=ct
abbrev dr:=List Rel
def cSJ a b:=Fp (a++b)
def cUQ(a b:Rel):=a.filter λx=>Gy b x==false
def cUJ(a b:Rel):=a.filter λx=>Gy b x==true
theorem aFX{l x}:Gy l x=false↔x∉l:=by
 rw[<-BG];grind
theorem cdJ{a b x}:x∈cSJ a b↔x∈a\/x∈b:=by simp[cSJ,Da]
theorem ceQ{a b x}:x∈cUQ a b↔x∈a/\x∉b:=by simp only[cUQ,mem_filter,beq_iff_eq,aFX]
theorem ceX{a b x}:x∈cUJ a b↔x∈a/\x∈b:=by simp only[cUJ,mem_filter,beq_iff_eq,BG]
theorem atJ{w od a b c}(d:a.length=w)(e:b.length=w)(f:c.length=w)(g:j5 od a b<=0)(j:j5 od b c<=0):j5 od a c<=0:=by
 rw[Aq d e]at g;rw[Aq e f]at j;rw[Aq d f];exact(HJ w od).trans _ _ _ g j
def cSX:Vc.Spec:=λc m h K=>∃s t l r,c=[cS s,cS t]/\Rows h s l/\bQ h t r/\lJ l/\K (cB (Gy l r)) m h
def b7J:Vc.Spec:=λc m h K=>∃s t i l k,c=[cS s,cS t,cB i]/\Rows h s l/\Rows h t k/\lJ k/\l.length<=8000000/\∀d h',PH.le h h'->Rows h' d (l.filter λx=>Gy k x==i)->K (cS d) m h'
def cXJ:Vc.Spec:=λc m h K=>∃n,c=[cI n]/\K (aV ⟨4,n,⟨#[]⟩⟩) m h
def c0J:Query->Int
 |.mk op _ _ _ _ _ _ _ _=>op
def opE q:=c0J (eC q)
structure QsU(h:PH)(us:du)(qs:db):Prop where
 len:us.length=qs.length
 at_:∀(i:Nat) q,qs[i]? =some q->∃v,us[i]? =some v/\dO h q v
theorem QsU.mono{us c}(x:QsU h us c)(le:PH.le h h'):QsU h' us c:=⟨x.len,λi q e=>let⟨v,e1,e2⟩:=x.at_ i q e;⟨v,e1,e2.mono le⟩⟩
theorem QsU.snoc{us c q}(x:QsU h us c)(g:dO h q v):QsU h (us++[v]) (c++[q]):=by
 have d:=x.len;refine⟨by simp[d],λi p e=>?_⟩;by_cases f:i<c.length
 .rw[getElem?_append_left f]at e;obtain⟨u,j,n⟩:=x.at_ i p e
  grind
 grind
def cZQ(N:Nat):Vc.Spec:=λc m h K=>∃v q s,c=[aQ v]/\dO h q v/\SizeOf.sizeOf q<N/\(aJ s [] q).2=0/\∀d h',PH.le h h'->dO h' (eC q) d->d.op=opE q->K (aQ d) m h'
def aSZ:Vc.Spec:=λc m h K=>∃sc v s q,c=[aS sc,aQ v]/\iU h s sc/\dO h q v/\(eH s [] q).2=0/\∀d h',PH.le h h'->dO h' (eC q) d->d.op=opE q->K (.tup [aQ d,cI 0]) m h'
def cZX:Vc.Spec:=λc m h K=>∃v q s,c=[aQ v]/\dO h q v/\(aJ s [] q).2=0/\∀d h',PH.le h h'->dO h' (eC q) d->d.op=opE q->K (aQ d) m h'
noncomputable def crJ s t m h:=
 dK [(55,Jv)] [(2,{A:=Nat×Nat,st:=λ⟨c,d⟩=>bY 42 44 [(0,sv s),(1,sv t),(5,iv c),(6,iv d)] [] m h})] [] [] false
noncomputable def crX s t i m h:=
 dK [(21,cSX)] [(3,{A:=Nat×cw,st:=λ⟨j,c⟩=>bY 27 30 [(1,sv t),(2,bv i),(7,.at (.lst 24)),(10,sv s),(11,iv s.len),(12,iv j)] [(24,.lst 65 1 (c.map eS))] m h})] [] [] false
noncomputable def clX(N:Nat)(v:QV)(m:MH):=
 dK [(42,b0Q),(68,cZQ N),(77,azQ),(78,PQ),(79,We)] [(5,{A:=Nat×du×PV×Sl×Sl×PH,st:=λ⟨i,c,w,s,t,h⟩=>bY 44 45 [(2,.at (.ptr 2 0)),(3,.at (.ptr 3 0)),(29,sv v.args),(30,iv v.args.len),(31,iv i)] [(2,.cells 41 zQ),(3,.cells 41 ((QV.enc ⟨v.op,v.table,w,s,t,cH,cH,0,cH⟩).take 20 |>.map .val |>.append [.lst 40])),(40,.lst 41 21 (c.map QV.enc))] m h})] [(4,{A:=PV×Sl×Sl×PH,st:=λ⟨w,s,t,h⟩=>bY 44 45 [(1,.at (.ptr 1 0)),(2,.at (.ptr 2 0)),(3,.at (.ptr 3 0))] [(1,.cells 41 (v.enc.map .val)),(2,.cells 41 zQ),(3,.cells 41 ((QV.enc ⟨v.op,v.table,w,s,t,cH,cH,0,cH⟩).map .val))] m h})] [] false
abbrev H7(a:Nat×Nat):=bE a.1 (iF (Int.tdiv (iF ((↑a.2:Int)-(↑a.1:Int))) 2))
attribute [push_cast] H7
def Yc(s t:Sl)(m:MH)(h:PH)(K:cq):=
  Iy (λI x=>aA (I x) (aI s) (aA (aI t) (bA x.1) (dJ (bP s.len=bP x.2) m m h h))) (λI g x=>I x->aY (↑x.1:Int) (↑x.2:Int) (mW ((2:Int)=0)/\bK (λb o=>aA (aR s.a b o) (0<=H7 x) (H7 x<aG s/\∃(y:Sl),aK m h b (gH o (H7 x) 1) (aL y)/\∃(d:Sl),pX (λe a=>∃(f:cz),aA (cD y t=cD d e) (bQ h d a) (bQ h e f/\aY (fG a f) 0 (∃(c:Nat×Nat),aA (I c) (g c<g x) (aA (aI s) (aI t) (aA (SV.at (At.val (gZ (iF (H7 x+1))))=bP c.1) (cJ x.2 c.2) (aA (m=m) (h=h) True)))) (∃(c:Nat×Nat),aA (I c) (g c<g x) (aA (aI s) (aI t) (aA (cJ x.1 c.1) (SV.at (At.val (gZ (H7 x)))=bP c.2) (aA (m=m) (h=h) True))))))))) (aY (↑x.1:Int) (aG s) (bK (λb o=>aA (aR s.a
 b o) (0<=(↑x.1:Int)) ((↑x.1:Int)<aG s/\∃(y:Sl),aK m h b (bL o x.1 1) (aL y)/\∃(d:Sl),pX (λe a=>∃(f:cz),aA (cD y t=cD d e) (bQ h d a) (bQ h e f/\K (Aw (fG a f==0)) m h))))) (K bD m h)))
def Ya s t i m h K:=
  Pu (λI x=>aA (I x) (aI t) (aA (eQ (sQb i)) (eL 24) (aA (aI s) (bI s) (aA (bA x.1) (A4 x.2) (eM m m h h))))) (λI x=>I x) (λx=>x) s (λI d x b o y=>aK m h b (bL o x.1 1) (aL y)/\∃(e:Sl),Hj (λf l r=>aA (cD t y=cD e f) (Rows h e l) (aA (bQ h f r) (lJ l) (branch (Gy l r==i) (aA (lL (fJ x.2)) (eA (fJ x.2)) (∃(c:Nat×cw),aA (I c) (d c<d x) (aA (aI t) (eQ (sQb i)) (aA (eL 24) (aI s) (aA (bI s) (iH (bE x.1 1)=bP c.1) (dJ (xO (fJ x.2) y c.2) m m h h)))))) (∃(c:Nat×cw),aA (I c) (d c<d x) (aA (aI t) (eQ (sQb i)) (aA (eL 24) (aI s) (aA (bI s) (iH (bE x.1 1)=bP c.1) (dJ (tC x.2 c.2) m m h h))))))))) h K m
abbrev A3 a:=bG (gZ 4) (gZ a) FC
attribute [push_cast] A3
def av(n:Int)(m:MH)(h:PH)(K:cq):=
  K (jO (A3 n)) m h
abbrev KZ(a:QV)(b:PH)(c:Sl->PH->(PV×Sl×Sl×PH)->Prop):=Dl (λx e=>aA (eY (nW a.on) (nW x)) (jD b x e) (∀(f:Sl)(d:PH),bS b d (jD d f e) (∃(g:PV×Sl×Sl×PH),c f d g)))
abbrev wC a b c d e:=gU (kL a.op) (zJ a) (pQ b (gU (yY c) (yY d) (gU J1 J1 e)))
abbrev Br(a:PV×Sl×Sl×PH):=a.2.2.1
abbrev xY(a:PV×Sl×Sl×PH):=a.2.2.2
abbrev K3:=pA iN (At.lst 40)
abbrev wU(a:Nat×du×PV×Sl×Sl×PH):=a.2.2
abbrev Ag a:=(wU a).1
abbrev Gl(a:Nat×du×PV×Sl×Sl×PH):=List.map QV.enc a.2.1
attribute [push_cast] KZ wC Br xY K3 wU Ag Gl
def XH(N:Nat)(v:QV)(m:MH)(h:PH)(K:cq):=
  ∃(o:Int),gX (mG v.op o) (GQ o) (bK (λb z=>aA (aR v.args.a b z) ((0:Int)<=0) (0<aG v.args/\∃(y:QV),aK m h b (z+0) y.enc/\rB (λg q=>∃(s:jZ),aA (Gs (cM y)=Gs (cM g)) (dO h q g) (aA (yI q N) ((aJ s [] q).2=0) (∀(e:QV)(d:PH),bS h d (dO d (eC q) e) (e.op=opE q->K (cM e) m d))))))) (∃(I:PV×Sl×Sl×PH->Prop),(sT (λg p=>aA (eY (gR v.where_) (gR g)) (fP h p g) (∀(e:PV)(d:PH),bS h d (fP d p e) (xQ v.columns d (λl=>∀(s:Sl)(f:PH),bS d f (Ints f s l) (KZ v f (λn u x=>aA (I x) fB (aA (eP 2) j8 (aA (fU v) kE (aA (oQ 41 (wC v e s n Er)=oQ 41 (wC v x.1 x.2.1 (Br x) Er)) (m=m) (bU u (xY x))))))/\KZ v f (λn u x=>
 aA (I x) fB (aA (eP 2) j8 (aA (fU v) kE (aA (oQ 41 (wC v e s n Er)=oQ 41 (wC v x.1 x.2.1 (Br x) Er)) (m=m) (bU u (xY x))))))))/\xQ v.columns d (λl=>∀(s:Sl)(f:PH),bS d f (Ints f s l) (KZ v f (λn u x=>aA (I x) fB (aA (eP 2) j8 (aA (fU v) kE (aA (oQ 41 (wC v e s n Er)=oQ 41 (wC v x.1 x.2.1 (Br x) Er)) (m=m) (bU u (xY x)))))))))))/\sT (λg p=>aA (eY (gR v.where_) (gR g)) (fP h p g) (∀(e:PV)(d:PH),bS h d (fP d p e) (xQ v.columns d (λl=>∀(s:Sl)(f:PH),bS d f (Ints f s l) (KZ v f (λn u x=>aA (I x) fB (aA (eP 2) j8 (aA (fU v) kE (aA (oQ 41 (wC v e s n Er)=oQ 41 (wC v x.1 x.2.1 (Br x) Er)) (m=m)
 (bU u (xY x))))))))))))/\∀(x:PV×Sl×Sl×PH),I x->∃(I1:Nat×du×PV×Sl×Sl×PH->Prop)(A:Nat×du×PV×Sl×Sl×PH->Nat),(∃(c:Nat×du×PV×Sl×Sl×PH),aA (I1 c) iS (aA (eP 3) (aI v.args) (aA (wG v) (bA c.1) (aA kE (oQ 41 (wC v x.1 x.2.1 (Br x) K3)=oQ 41 (wC v (Ag c) (wU c).2.1 (Br (wU c)) K3)) (dJ (vB 41 21 (Gl c)) m m (xY x) (xY (wU c)))))))/\∀(c:Nat×du×PV×Sl×Sl×PH),I1 c->aY (↑c.1:Int) (aG v.args) (bK (λb z=>aA (aR v.args.a b z) (0<=(↑c.1:Int)) ((↑c.1:Int)<aG v.args/\∃(y:QV),aK m (xY (wU c)) b (bL z c.1 21) y.enc/\rB (λg q=>∃(s:jZ),aA (Gs (cM y)=Gs (cM g)) (dO (xY (wU c)) q g) (aA (yI
 q N) ((aJ s [] q).2=0) (∀(e:QV)(d:PH),bS (xY (wU c)) d (dO d (eC q) e) (e.op=opE q->aA (jN (kB (Gl c) 1) 280) (eA (Gl c)) (∃(j:Nat×du×PV×Sl×Sl×PH),aA (I1 j) (A j<A c) (aA iS j8 (aA (aI v.args) (bI v.args) (aA (iH (bE c.1 1)=bP j.1) kE (aA (oQ 41 (wC v (Ag c) (wU c).2.1 (Br (wU c)) K3)=oQ 41 (wC v (Ag j) (wU j).2.1 (Br (wU j)) K3)) (bW 41 21 (dP (Gl c) e.enc)=bW 41 21 (Gl j)) (aA (m=m) (d=xY (wU j)) True))))))))))))) (cK (xY (wU c)) 21 (Gl c) (λs d=>K (jO (bG (gZ v.op) (gZ v.table) (bG (gZ (Ag c).op) (gZ (Ag c).cmp) (bG (zG (Ag c).left) (zI (Ag c).left) (bG (gZ (qL (Ag c).left))
 (uC (Ag c).left) (Gm (Ag c) (dW (wU c).2.1) (tX (dW (Br (wU c))) (aL s)))))))) m d)))
def X0(sc:bT)(v:QV)(m:MH)(h:PH)(K:cq):=
  FY (cE (cC sc) (tN EH (cM v))) h (λs p q=>CL q/\∀(j:Sl)(c:PH),bS h c (Ints c j (eH s p q).1) (dR (eH s p q).2 0 (K (CV.tup (eU zV (CV.val (gZ (eH s p q).2)))) m c) (rB (λg d=>∃(n:jZ),aA (eY (cM v) (cM g)) (dO c d g) ((aJ n [] d).2=0/\∀(e:QV)(f:PH),bS c f (dO f (eC d) e) (e.op=opE d->K (CV.tup (cT (cM e) 0)) m f))))))
theorem TC:cm 21 cSX:=by
 refine jC func21 ?_;rintro T m h K ⟨s,t,l,r,rfl,C,O,U,E⟩;refine⟨crJ s t m h,rfl,aE aa aH,Yc s t m h K,ax,?_⟩;dsimp only[Yc,push_cast];have V:=bM.slen C;have W:=C.len;refine⟨λx=>x.1<=x.2/\x.2<=l.length/\(∀(j:Nat) y,j<x.1->l[j]? =some y->fG y r<0)/\(∀(j:Nat) y,x.2<=j->l[j]? =some y->0<=fG y r),λx=>x.2-x.1,⟨(0,l.length),⟨ay,ay,λj y g=>by simp at g,λj y g n=>bg⟩,bg⟩,?_⟩;rintro⟨c,d⟩ ⟨X,P,Q,R⟩;dsimp only at X P Q R⊢
 have S:∀{i j:Nat}{x y},l[i]? =some x->l[j]? =some y->i<j->fG x y<0:=fun{i j x y} Y n F=>by
  obtain⟨G,rfl⟩:=List.getElem?_eq_some_iff.1 Y;obtain⟨H,rfl⟩:=List.getElem?_eq_some_iff.1 n;exact pairwise_iff_getElem.1 U i j G H F
 refine aF (λZ=>?_) (λa'=>?_)
 .have e1:IntKind.i64.wrap ((d:Int)-(c:Int))=((d-c:Nat):Int):=by
   rw[show(d:Int)-(c:Int)=((d-c:Nat):Int)by omega];exact fL aC aC
  have A:(((d-c:Nat):Int)).tdiv 2=(((d-c)/2:Nat):Int):=by
   grind
  have e3:IntKind.i64.wrap ((((d-c)/2:Nat):Int))=(((d-c)/2:Nat):Int):=fL aC aC
  have e4:IntKind.i64.wrap ((c:Int)+(((d-c)/2:Nat):Int))=((c+(d-c)/2:Nat):Int):=by
   rw[show(c:Int)+(((d-c)/2:Nat):Int)=((c+(d-c)/2:Nat):Int)by omega];exact fL aC aC
  rw[e1,A,e3,e4];generalize D:c+(d-c)/2=k;have I:c<=k:=by omega
  have a0:k<d:=by omega
  rw[jK aC];have f:k<l.length:=by omega
  obtain⟨b,o,u,J,rd,L⟩:=bM.at C (bn f);refine⟨az,b,o,J,aC,aC,u,.imm rd,u,t,l[k],r,rfl,L,O,aF (λz=>?_) (λz=>?_)⟩
  .refine⟨(k+1,d),⟨aC,P,λj y g n=>?_,R⟩,aC,MT⟩;by_cases M:j=k
   .grind
   .exact GH (S n (bn f) aC) z
  .refine⟨(c,k),⟨I,aC,Q,λj y g n=>?_⟩,aC,MT⟩;by_cases M:j=k
   .grind
   .have h6:=S (bn f) n aC;refine Int.not_lt.1 λh7=>?_;exact z (GH h6 h7)
 .have e:c=d:=by omega
  subst e;refine aF (λz=>?_) (λz=>?_)
  .have B:c<l.length:=by omega
   obtain⟨b,o,u,J,rd,L⟩:=bM.at C (bn B);refine⟨b,o,J,aC,z,u,.imm rd,u,t,l[c],r,rfl,L,O,?_⟩
   have A:(fG l[c] r==0)=Gy l r:=by
    rw[Bool.eq_iff_iff,beq_iff_eq,BG,lG];refine⟨λe=>e▸getElem_mem B,λD=>?_⟩;obtain⟨j,g⟩:=getElem?_of_mem D;have hz:fG r r=0:=lG.2 rfl
    grind
   rw[A];exact E
  .have A:Gy l r=false:=by
    rw[aFX];intro D;obtain⟨j,g⟩:=getElem?_of_mem D;have hz:fG r r=0:=lG.2 rfl
    grind
   rw[A]at E;exact E
theorem bdJ:cm 22 b7J:=by
 refine jC func22 ?_;rintro E m h K ⟨s,t,i,l,k,rfl,A,F,G,M,H⟩;refine⟨crX s t i m h,rfl,aE TC aH,Ya s t i m h K,ax,?_⟩;dsimp only[Ya,push_cast];have f:=bM.slen A;refine⟨λx=>x.1<=l.length/\x.2.length<=x.1/\fE h x.2 ((l.take x.1).filter λx=>Gy k x==i),λx=>l.length-x.1,⟨(0,[]),⟨ay,ay,bk (fE.nil h)⟩,MT⟩,?_⟩;rintro⟨j,B⟩ ⟨I,g,d⟩;dsimp only at I g d⊢
 refine aF (λc=>?_) (λJ=>?_)
 .obtain⟨r,C⟩:=fK f c;obtain⟨b,o,u,e,rd,D⟩:=bM.at A C;have n:=jS (λx=>Gy k x==i) C;rw[jK aC];refine⟨b,o,e,aC,c,u,.imm rd,t,u,k,r,rfl,F,D,G,aD (λy=>?_) (λy=>?_)⟩
  .rw[if_pos y]at n;exact⟨bg,bg,(j+1,B++[u]),⟨aC,bf,by rw[n];exact d.snoc D⟩,aC,by rw[bu];exact MT⟩
  .rw[if_neg (by rw[y];simp),append_nil]at n;exact⟨(j+1,B),⟨aC,bg,bg⟩,aC,MT⟩
 .rw[bt aC]at d
  exactλL h' le z=>H L h' le ((d.mono le).rows z bg)
theorem aw:cm 56 cXJ:=by
 refine jC func56 ?_;rintro c m h K ⟨n,rfl,d⟩;refine⟨dK [] [] [] [] false,rfl,aH,av n m h K,ax,?_⟩;exact d
theorem aIQ:∀N,cm 68 (cZQ N)
 |0=>by
  refine fW (fn:=Tryz.f68) (c:=eD Tryz.f68) func68 rfl az ?_;rintro V m h K ⟨v,q,s,rfl,_,hN,_⟩;omega
 |N+1=>by
  refine jC func68 ?_;rintro V m h K ⟨v,q,s,rfl,hq,hN,hk,hK⟩;refine⟨clX N v m,rfl,aE Tn (aE (aIQ N) (aE Ti (aE MS (aE Th aH)))),XH N v m h K,ax,?_⟩;dsimp only[XH,push_cast];have d:=@Dg q;obtain⟨op,ta,w,co,on,gr,od,li,args⟩:=q;simp only[Query.args]at d;have x:=hq.parts;have W:=x.args_.slen;have a1:=x.args_.len;obtain⟨G,a2,_⟩:=lX hk;have C:=x.op_;refine⟨v.op,rfl,aD (λS=>?_) (λS=>⟨λz=>PH.le h z.2.2.2/\fP z.2.2.2 w z.1/\Ints z.2.2.2 z.2.1 co/\jD z.2.2.2 z.2.2.1 on,?_,?_⟩)⟩
  .rw[C]at S;have X:=Vf S
   obtain⟨a,f,rfl⟩:∃a f,args=a::f:=by
    cases args with
    |nil=>
     exfalso;have:(1:Int)<=arity op:=by rcases X with rfl|rfl|rfl<;>decide
     grind
    |cons a f=>grind
   obtain⟨b,o,u,e,r,Y⟩:=x.args_.at (i:=0) (x:=a) rfl;have Z:=d (q:=a) ay
   exact⟨b,o,e,aC,bg,u,.imm (bk r),u,a,s,rfl,Y,aC,G a ay,λv' h' le H X=>by
    have e:eC (.mk op ta w co on gr od li (a::f))=eC a:=by rw[eC,if_pos S,GW];rfl
    exact hK v' h' le bg (by rw[opE,e];exact X)⟩
  .repeat' (first
    |(refine⟨v.where_,w,rfl,x.where_,λv1 h1 D r1=>?_⟩)
    |(refine⟨v.columns,co,rfl,x.columns_.mono D,λT h2 E r2=>?_⟩)
    |(refine⟨v.on,on,rfl,x.on_.mono (D.trans E),λU I F r3=>?_⟩)
    |(exact⟨(v1,T,U,I),⟨(D.trans E).trans F,r1.mono (E.trans F),r2.mono F,r3⟩,MT⟩)
    |apply And.intro)
  .rintro⟨w',T,U,hx⟩ ⟨J,L,M,O⟩;dsimp only at J L M O⊢
   refine⟨λz=>z.1<=args.length/\z.2.1.length=z.1/\z.2.2.1=w'/\z.2.2.2.1=T/\z.2.2.2.2.1=U/\PH.le hx z.2.2.2.2.2/\QsU z.2.2.2.2.2 z.2.1 ((args.take z.1).map eC),λz=>args.length-z.1,⟨(0,[],w',T,U,hx),⟨aC,rfl,rfl,rfl,rfl,.refl _,⟨rfl,λi q e=>by simp at e⟩⟩,MT⟩,?_⟩;rintro⟨i,us,w2,t2,t3,hy⟩ ⟨hi,P,e1,e2,e3,g,j⟩;dsimp only at hi P e1 e2 e3 g j⊢
   subst e1 e2 e3;have A:=J.trans g;have n:GQ op=false:=bg
   have B:eC (.mk op ta w co on gr od li args)= .mk op ta w co on gr od li (args.map eC):=by rw[eC,if_neg (by simp[n]),E7]
   refine aF (λQ=>?_) (λa3 s4 h' le a'=>hK ⟨v.op,v.table,w2,t2,t3,cH,cH,0,s4⟩ h' (A.trans le) ?_ (by rw[opE,B];exact C))
   rotate_left
   .rw[B];rw[bt aC]at j
    have a0:gr=[]/\od=[]/\li=0:=by
     obtain⟨_,_,a,b,_,_,I⟩:=lX hk;unfold eZ at I;by_cases c0:arity op<0\/¬cY (.mk op ta w co on gr od li args)
     .rw[if_pos c0]at I;simp[eJ]at I
     .rw[not_or]at c0;obtain⟨_,_,_,_,u5⟩:cY (.mk op ta w co on gr od li args):=Classical.not_not.1 c0.2;rcases u5 with e|e|e
      .rw[e]at n;cases n
      .rw[e]at n;cases n
      .exact e
    obtain⟨rfl,rfl,rfl⟩:=a0;have lx:=g.trans le;exact uE.rep ⟨C,x.table_,L.mono lx,M.mono lx,O.mono lx,oL h',vK h',rfl,⟨⟨us,a',j.len.symm,(j.mono le).at_⟩,bg⟩⟩
   obtain⟨q,y⟩:=fK W Q;have R:=bo y;obtain⟨b,o,u,e,r,Y⟩:=(x.args_.mono A).at y;have Z:=d R;have a4:=(bm y);exact⟨b,o,e,aC,Q,u,.imm r,u,q,s,rfl,Y,aC,G q R,λv' h' le H _=>⟨bg,bg,(i+1,us++[v'],w2,t2,t3,h'),⟨aC,by simp[P],rfl,rfl,rfl,g.trans le,by dsimp only;rw[cd,y,Option.toList_some,bu];exact(j.mono le).snoc H⟩,aC,by rw[bu];exact MT⟩⟩
theorem a8J:cm 68 cZX:=mZ aIQ λ_ _ _ _⟨v,q,s,e,c,d,f⟩=>⟨SizeOf.sizeOf q+1,v,q,s,e,c,aC,d,f⟩
theorem cQX{q}(j:iU h s sc)(f:dO h q v)(g:(eH s [] q).2=0)(n:∀c h',PH.le h h'->dO h' (eC q) c->c.op=opE q->K (.tup [aQ c,cI 0]) m h'):X0 sc v m h K:=
 ⟨sc,cH,v,s,[],q,rfl,j,Xh h,f,(DN g).2.2.1,λ_ y d _=>aD (λe=>bg) (λ_=>⟨v,q,s,rfl,f.mono d,(N4 g).1,λc h' le o u=>n c h' (d.trans le) o u⟩)⟩
theorem bcQ:cm 29 aSZ:=by
 refine jC func29 ?_;rintro c m h K ⟨sc,v,s,q,rfl,d,e,f,g⟩;refine⟨dK [(37,Eg),(68,cZX)] [] [] [] false,rfl,aE JR (aE a8J aH),X0 sc v m h K,ax,?_⟩;exact cQX d e f g
theorem WU{q B}(c:eX s=0)(g:fS s q)(E:oZ q<=24)(F:iD 4 q<=B)(n:B*60<=8000000):
 AG s [] [] (mA s q) (mK (pZ s) q (eC q))/\(mA s q).1.length<=200/\(mA s q).2.length<=24/\Jg (gI s q []).1/\lE (gI s q []).1=oZ q:=by
 have o:=WD c;obtain⟨u,_,d,e⟩:=Wo o q [] g (EG.nil s) bf;obtain⟨y,f⟩:=bsZ _ d;rw[e]at f;have j:=d.get;rw[e]at j;obtain⟨_,z,_,A,_,_,_⟩:=j;have ev:=Ao q g;have C:=DJ s q [];simp only[length_nil,Nat.zero_add]at C;have G:2*B*lE (gI s q []).1<=2*B*24:=Nat.mul_le_mul_left _ aC;have H:=i7 (gI s q []).1 ((gI s q []).1.env:Int) (gI s q []).2 [];have D:=w8 c (gI s q []).1 B (2*B) B (gI s q []).1.env (gI s q []).2 [] d u z bg bg (Nat.le_refl _) bg aC aC;rw[e,A]at D;refine⟨D.shift (nil_prefix),?_,?_,y,f⟩
 .show(gV _ _ _ _).1.length<=200;omega
 .show(gV _ _ _ _).2.length<=24
  grind
structure OF(s:jZ)(q:Query):Prop where
 ok:V7 s q
 valid:jQ s (mA s q).1 (mA s q).2=0
 run:∀st,jL s st=0->StV st->(∀l∈st,l.length<=4)->Jf s st (mA s q).1/\(∀l∈pG st (mA s q).1,l.length<=8000000/\∀r∈l,r.length<=1000)/\Mt st (mA s q)=(mK (pZ s) q (eC q)).map (dY st)
theorem SR{s q B}(e:eX s=0)(g:fS s q)(E:oZ q<=24)(F:iD 4 q<=B)(j:B*60<=8000000):OF s q:=by
 obtain⟨D,L,M,G,O⟩:=WU e g E F j;obtain⟨P,o,H,I⟩:=D.ex;rw[nil_append]at o;refine⟨λh=>⟨aWZ h,G,aC,aC⟩,WT D.inv e aC aC λr u=>?_,λy n J z=>?_⟩
 .grind
 .have f:∀i,i<(mA s q).1.length->iV (aJ s [] (aU (mA s q).1 i)).1.length (dY y (aU (mA s q).1 i))/\(dY y (aU (mA s q).1 i)).length<=8000000:=λi c=>by
   have x:=Db n J z aC (D.inv.good i c).k (D.inv.good i c).bnd
   grind
  refine⟨⟨D.inv.ar,D.inv.fit,λi c=>(D.inv.good i c).kinds,4,aC,z,λi c=>(D.inv.good i c).bnd⟩,λl A=>?_,?_⟩
  .unfold pG at A;obtain⟨i,c,rfl⟩:=mem_map.1 A;have c:i<(mA s q).1.length:=bg
   refine⟨(f i c).2,λr u=>?_⟩;have Q:=(f i c).1.wid r u;have R:=lY s [] (aU (mA s q).1 i);omega
  .unfold Mt;rw[o, <-I,map_map,map_map];refine map_congr_left λd C=>?_;have C:=H d C;simp only[Function.comp,Int.toNat_natCast,pG]
   grind
theorem mO{st a b on x}:x∈dY st (mN a b on)↔x∈dY st a/\((dY st b).any λy=>agree on x y)=true:=by
 simp only[mN,dY,Ax,ET,show((5:Int)=1)=False by simp,show((5:Int)=2)=False by simp,show((5:Int)=3)=False by simp,show((5:Int)=4)=False by simp,if_false,if_true,SF]
 grind
theorem jX{st a b x}:x∈dY st (kI a b)↔x∈dY st a/\x∈dY st b:=by
 simp only[kI,dY,Ax,ET,show((8:Int)=1)=False by simp,show((8:Int)=2)=False by simp,show((8:Int)=3)=False by simp,show((8:Int)=4)=False by simp,show((8:Int)=5)=False by simp,show((8:Int)=6)=False by simp,show((8:Int)=7)=False by simp,if_false,if_true,QY];rw[mem_filter];show x∈dY st a/\(Gy (dY st b) x==true)=true↔_;rw[beq_iff_eq,BG]
theorem CU{st a x}:x∈dY st (GR a co)↔∃r∈dY st a,pick r co=x:=by
 simp only[GR,dY,Ax,ET,show((3:Int)=1)=False by simp,show((3:Int)=2)=False by simp,if_false,if_true,SL];rw[Da,mem_map];rfl
theorem CW{st a b x}:x∈dY st (DO a b gr od li)↔x∈dY st a/\decide ((((dY st b).countP λy=>uF gr x y&&decide (j5 od y x<0):Nat):Int)<li)=true:=by
 simp only[DO,dY,Ax,ET,show((10:Int)=1)=False by simp,show((10:Int)=2)=False by simp,show((10:Int)=3)=False by simp,show((10:Int)=4)=False by simp,show((10:Int)=5)=False by simp,show((10:Int)=6)=False by simp,show((10:Int)=7)=False by simp,show((10:Int)=8)=False by simp,show((10:Int)=9)=False by simp,if_false,HW,yS]
 grind
def OR st a b:=∀x∈dY st a,x∈dY st b
theorem OR.refl{st} a:OR st a a:=λ_ h=>h
end Go.Ps
