/- Own work. -/
import Derived.Test.YtjpjambjoceofaaGreatDoorVf
set_option linter.unusedVariables false
set_option linter.unusedSimpArgs false
namespace Go.Ps
open Go Go.Vc Go.Proofs List Tryz
variable{K:dk}{m:MH}{h:PH}{s:oL}{ps:dm}{ts:List Step}{cb:Nat}{sc:bW}{v:QV}{q:Query}{t:Step}{p:Pred}{l:dm}{i:Nat}{N:Nat}{m':MH}{h':PH}{co:dm}{gr:dm}{od:dr}{w:Pred}{ta:Int}{li:Int}{xs:List dj}{sz:Nat}{ks:List dm}{rs:dm}{r:Sl}{a:dm}{b:Nat}
theorem dT.app{us vs:dq}{a b:dl}(x:dT h us a)(y:dT h vs b):dT h (us++vs) (a++b):=by
 refine⟨by simp[x.len,y.len],λj r c=>?_⟩;have g:=x.len;by_cases d:j<a.length
 .rw[getElem?_append_left d]at c;obtain⟨u,e,f⟩:=x.at_ j r c
  grind
 .rw[getElem?_append_right aC]at c;obtain⟨u,e,f⟩:=y.at_ _ r c
  grind
def R7(_:Query)(ls:List dl):dl:=uR (ls.getD 0 []++ls.getD 1 [])
theorem Xj:di 238 (Tx (Ex 2) R7):=by
 refine Ht func238 ?_;rintro R m h K ⟨v,t,q,bs,ls,rfl,_,M,_,c,S⟩;refine⟨dG [(273,V4),(272,Tt),(115,bAZ)] [] [] [] false,rfl,aD WX (aD Ol (aD Hz aF)),KD v t m h (lQ h K),bu,?_⟩;show KD v t m h (lQ h K);dsimp only[KD,push_cast];have h2:=c.1;obtain⟨b,off,x,T,U,rd,V⟩:=M.get (Al (i:=0) aC);obtain⟨W,j,O,D,P,d,E⟩:=M.get (Al (i:=1) aC);obtain⟨F,n,u⟩:=V.ex;obtain⟨z,f,A⟩:=E.ex;obtain⟨_,B⟩:=c.2 _ (cr (Al (i:=0) aC));obtain⟨_,g⟩:=c.2 _ (cr (Al (i:=1) aC));have l1:=B.len;have l2:=g.len;have l3:=u.len;refine⟨b,off,T,aC,aC,x,.imm rd,W,j,D,aC,aC,O,.imm d,d,x,F,rfl,n,λX m1 G H Y=>⟨rd,X,O,F,z,rfl,G,f,aC,λZ m2 I J a'=>⟨rd,d,Z,F++z,_,rfl,I.src,u.app A,cg,λs3 Q C L=>?_⟩⟩⟩;refine⟨m,Q,λy o hy=>J y o (H y o hy) (λi e=>?_),C,.refl _,S s3 Q C L⟩
 grind
def T3(q:Query)(ls:List dl):dl:=match q with|.mk _ _ _ co _ _ _ _ _=>uR ((ls.getD 0 []).map λr=>pick r co)
def J2(q:Query)(ls:List dl):Prop:=match q with|.mk _ _ _ co _ _ _ _ _=>1<=ls.length/\co.length<=12/\∃w,jG w (ls.getD 0 [])/\gP w co
theorem aAX{r:dn}{y:VV}(d:(pick r co)[i]? =some y)(e:i<co.length):((pick r co).take i++replicate (co.length-i) zeroV).set i y=(pick r co).take (i+1)++replicate (co.length-(i+1)) zeroV:=by
 have c:(pick r co).length=co.length:=by simp[pick]
 rw[set_append,if_neg ce];rw[db,d,Option.toList_some,append_assoc];congr 1;rw[show co.length-i=(co.length-(i+1))+1 by omega,replicate_succ];simp[c,Nat.min_eq_left (Nat.le_of_lt e)]
theorem acZ{r:dn}(d:i<co.length):(((pick r co).take i++replicate (co.length-i) zeroV).map VV.enc)[i]? =some (VV.enc zeroV):=by
 have c:(pick r co).length=co.length:=by simp[pick]
 grind
theorem Xm:di 235 (Tx J2 T3):=by
 refine Jm func235 ?_;rintro b6 m h K ⟨v,t,q,bs,ls,rfl,hq,ha,_,a',hK⟩;refine⟨aMJ,rfl,aD Hz aF,KG v t m h (eX h K),bu,?_⟩;show KG v t m h (eX h K);dsimp only[KG,push_cast];obtain⟨op,ta,w,co,on,gr,od,li,args⟩:=q;obtain⟨b7,b8,wd,f,a0⟩:=a';intro b m1 a1 G C m2 M A;have g:Sub m m1:=(Sub.refl m).upd a1.m_ G.other
 have O:m C=none:=by
  cases e:m C with
  |none=>rfl
  |some o=>have P:=g C o e;rw[M.m_]at P;cases P
 have H:Sub m m2:=g.upd O A.other;have Q:b≠C:=λe=>by have:=M.m_;rw[<-e,G.at_]at this;cases this
 obtain⟨b3,off,x,ea,b9,rd,sq⟩:=ha.get (Al (i:=0) aC);obtain⟨us,D,I⟩:=sq.ex;have xq:=hq.parts;have a2:=xq.columns_.slen;simp only[T3]at hK;generalize ls.getD 0 []=l at D I hK f sq;have a3:=I.len;have c':=f.len;refine⟨b3,off,ea,aC,aC,x,.imm rd,xW,us,λk J E=>PH.le h E/\En m2 J C/\∃d,pE m2 J C d/\d.length<=k/\dT E d ((l.take k).map λr=>pick r co),wZ,⟨x,us,rfl,D,rfl⟩,⟨.refl _,λx o e _=>e,[],pE.new A.at_,bx,cm (dT.nil h)⟩,?_,?_⟩
 .rintro k e J E hk-⟨le,X,d,j,a4,B⟩
  obtain⟨r,hr,hv⟩:=I.at' hk;have c0:=(cn hk);have R:J b=some (.cells ⟨v.enc⟩ 38 (0,0)):=X b _ (by rw[A.other b Q];exact G.at_) Q;have c1:=f.wid r (cr hr);have S:=bI.mono hv le;have c2:=aZ.slen S;have c3:(pick r co).length=co.length:=by simp[pick]
  refine⟨v.columns,.of_m R rfl,aC,aC,aC,aC,v.columns,.of_m R rfl,λz=>z.1<=co.length/\z.2.1=C/\z.2.2.1=e/\z.2.2.2.1=v.columns/\z.2.2.2.2.1=(pick r co).take z.1++replicate (co.length-z.1) zeroV/\z.2.2.2.2.2.1=J/\z.2.2.2.2.2.2=E,λz=>co.length-z.1,⟨(0,C,e,v.columns,replicate co.length zeroV,J,E),⟨bx,rfl,rfl,rfl,bx,rfl,rfl⟩,?_⟩,?_⟩
  .dsimp only;rw[map_replicate,show((v.columns.len:Int)).toNat=co.length by omega];exact MT
  .rintro⟨i,bb,ee,cc,cells,my,hy⟩ ⟨hi,P,e2,e3,Y,Z,e6⟩;dsimp only at hi P e2 e3 Y Z e6;subst P e2 e3 Y Z e6;refine aE (λF=>?_) (λa5=>?_)
   .dsimp only at F⊢
    obtain⟨c,T⟩:=eN a2 F;obtain⟨b4,o4,Y,c4⟩:=(xq.columns_.mono le).at T;obtain⟨y,a6,a9,h0,h1⟩:=Sp (r:=r) cg T;obtain⟨b5,o5,y',Z,b',rfl⟩:=aZ.at S a6;have U:i<co.length:=by omega
    have V:=aAX a9 U;refine⟨b4,o4,Y,aC,aC,c,.imm cg,b5,o5,Z,h0,aC,y,.imm b',aC,ce,_,acZ U,by simp[VV.enc],(i+1,bb,ee,v.columns,(pick r co).take (i+1)++replicate (co.length-(i+1)) zeroV,my,hy),⟨aC,rfl,rfl,rfl,rfl,rfl,rfl⟩,aC,?_⟩;dsimp only;refine⟨rfl,rfl,rfl,rfl,rfl,by rw[fP aC],?_,rfl,rfl,trivial⟩;rw[<-V,map_set];rfl
   .dsimp only at a5⊢
    have:i=co.length:=by omega
    subst this;rw[cu aC,Nat.sub_self,replicate_zero,append_nil];obtain⟨s,hb,n,W⟩:=j.ex;refine⟨s,.of_m hb rfl,λs3 h3 u L=>Ii ⟨_,A.at_⟩ X hb n W aC (λm' b0 b1=>⟨le.trans u,b0,d++[s3],b1,ce,?_⟩)⟩
    have e6:(l.take (k+1)).map (λr=>pick r co)=(l.take k).map (λr=>pick r co)++[pick r co]:=by
     rw[db,hr];simp
    rw[e6];exact(B.mono u).snoc ⟨⟨_,L,rfl,λi x E=>⟨x,E,rfl⟩⟩,aC⟩
 .rintro J E-⟨le,X,d,j,a4,B⟩
  rw[a3,take_length]at B;obtain⟨s,hb,n,W⟩:=j.ex;refine⟨s,.of_m hb rfl,s,d,_,rfl,n.src,B,ce,λs3 h3 u L=>eX.sub (H.x O X) (le.trans u) (hK s3 h3 (le.trans u) L)⟩
theorem kU{m0:MH}{o:Obj}(c:Sub m0 m)(g:dZ m h b)(j:gI m m' b o):Sub m0 m'/\m0 b=none:=by
 have d:m0 b=none:=by
  cases e:m0 b with
  |none=>rfl
  |some x=>have f:=c b x e;rw[g.m_]at f;cases f
 exact⟨c.upd d j.other,d⟩
theorem mem_keys{l:dl}{w k:Nat}{x:dn}(f:jG w l)(hx:Pq x)(g:x.length=w):eF x∈(l.take k).map eF↔x∈l.take k:=by
 constructor
 .intro h;obtain⟨y,d,e⟩:=mem_map.1 h;have c:=mem_of_mem_take d;rw[(NZ (by rw[f.wid y c,g]) (f.row y c).val hx.val).1 e]at d;exact d
 grind
theorem Oj:di 274 Tr:=by
 refine Jm func274 ?_;rintro d1 m h K ⟨t,i,bs,ls,w,rfl,ha,hT,h2,a0,hK⟩;refine⟨SS [(292,ZV)] [] [] [200003,200005,200007,1053,400000,0],rfl,aD WT aF,Ky t i m h (eX h K),bu,?_⟩;show Ky t i m h (eX h K);dsimp only[Ky,push_cast];intro u m1 b8 M d m2 a1 G C m3 U O;obtain⟨s1,n3⟩:=kU (Sub.refl m) b8 M;obtain⟨s2,ny⟩:=kU s1 a1 G;obtain⟨s3,n5⟩:=kU s2 U O;refine⟨_,_,⟨O.at_⟩,bx,λm4 P=>?_⟩;have s4:Sub m m4:=s3.upd n5 P.other;have f:d≠C:=λe=>by have:=U.m_;rw[<-e,G.at_]at this;cases this
 have R:u≠C:=λe=>by have:=U.m_;rw[<-e,G.other u (λD=>by omega),M.at_]at this;cases this
 have V:u≠d:=λD=>by have:=a1.m_;rw[<-D,M.at_]at this;cases this
 have b9:m4 d=some (.map #[] 0):=by rw[P.other d f,O.other d f];exact G.at_
 have a2:m4 u=some (.cells #[.bool i] 4 (0,0)):=by rw[P.other u R,O.other u R,G.other u V];exact M.at_
 have W:m4 C=some (.cells #[.map (some d)] 169 (0,0)):=P.at_;obtain⟨b,off,x,ea,d2,rd,sq⟩:=ha.get (Al (i:=1) aC);obtain⟨a3,X,H⟩:=sq.ex;have A:=a0 _ (cr (Al (i:=1) aC));have g:=a0 _ (cr (Al (i:=0) aC));obtain⟨b6,a4,x6,c',d0,c0,a5⟩:=ha.get (Al (i:=0) aC);obtain⟨us,a6,Y⟩:=a5.ex;generalize ls.getD 1 []=S at H A hK sq;generalize ls.getD 0 []=l at Y g hK a5;have c1:=Y.len;have d3:=g.len;have a9:=H.len;refine⟨b,off,ea,aC,aC,x,.imm rd,xW,a3,λk Z hx=>hx=h/\(∀z o,m4 z=some o->z≠d->Z z=some o)/\sH Z d ((S.take k).map eF),wZ,⟨x,a3,rfl,X,rfl⟩,⟨rfl,λz o e _=>e,cm (sH.new b9)⟩,?_,?_⟩
 .rintro k e Z hx hk-⟨rfl,T,I⟩
  obtain⟨r,hr,hv⟩:=H.at' hk;have J:=cr hr;have r5:aK Z hx C 0 [Value.map (some d)]:=.of_m (T C _ W (Ne.symm f)) rfl;refine⟨d,r5,r5,e,r,rfl,hv,A.row r J,hT.sub (λz o D=>T z o (s4 z o D) (λe3=>cg)),r5,I.put (λm' a' b'=>⟨rfl,λz o D c2=>by rw[a'.other z c2];grind,?_⟩)⟩;obtain⟨kk,h5,h6⟩:=b'.ex;exact⟨kk,h5,λq=>by rw[h6,db,hr];grind⟩
 .rintro Z hx-⟨rfl,T,I⟩ b7 m5 b0 F;rw[a9,take_length]at I;have s5:Sub m Z:=λz o D=>T z o (s4 z o D) (λe3=>cg);obtain⟨s6,n7⟩:=kU s5 b0 F;have Q:∀z o,Z z=some o->z≠b7:=λz o D e3=>by rw[e3,b0.m_]at D;cases D
  have y7:d≠b7:=by
   obtain⟨kk,⟨es,c,h1,_⟩,_⟩:=I.ex
   grind
  have c3:m5 C=some (.cells #[.map (some d)] 169 (0,0)):=by rw[F.other C (Q C _ (T C _ W (Ne.symm f)))];grind
  have c4:m5 u=some (.cells #[.bool i] 4 (0,0)):=by rw[F.other u (Q u _ (T u _ a2 V))];grind
  have b1:sH m5 d (S.map eF):=I.keep (F.other d y7);have c5:C≠b7:=Q C _ (T C _ W (Ne.symm f));have c6:u≠b7:=Q u _ (T u _ a2 V);refine⟨b6,a4,c',aC,aC,x6,.imm c0,xW,us,λk my hy=>hy=hx/\En m5 my b7/\∃B,pE m5 my b7 B/\B.length<=k/\dT hx B ((l.take k).filter λz=>P6 S z==i),wZ,⟨x6,us,rfl,a6,rfl⟩,⟨rfl,λz o e _=>e,[],pE.new F.at_,bx,cm (dT.nil hx)⟩,?_,?_⟩
  .rintro k e my hy hk-⟨rfl,n,B,E,c7,L⟩
   obtain⟨r,hr,hv⟩:=Y.at' hk;have d4:=(cn hk);have J:=cr hr;have r5:aK my hy C 0 [Value.map (some d)]:=.of_m (n C _ c3 c5) rfl;have r3:aK my hy u 0 [Value.bool i]:=.of_m (n u _ c4 c6) rfl
   have b2:sH my d (S.map eF):=by
    obtain⟨kk,⟨es,c,h1,h2,h3,h4⟩,h5⟩:=b1.ex;exact⟨kk,⟨es,c,n d _ h1 y7,h2,h3,h4⟩,h5⟩
   have key:∀t:Bool,(t=true↔eF r∈S.map eF)->t=P6 S r:=λt ht=>by
    have h1:=mem_keys (k:=S.length) A (g.row r J) (g.wid r J);rw[take_length]at h1;rw[h1]at ht;cases t
    .cases D:P6 S r with
     |false=>rfl
     |true=>exact ht.2 (MX.1 D)
    .exact(MX.2 (ht.1 rfl)).symm
   refine⟨d,r5,i,r3,r5,r3,e,r,rfl,hv,g.row r J,hT.sub (s6.x n7 n),r5,r3,r3,b2.get (K:=λt=>branch (t==i) _ _) (λt ht=>?_)⟩;have e3:=key t ht;refine aB (λh1=>?_) (λh1=>?_)
   .refine pE.app ⟨_,F.at_⟩ n E aC (λm' a' c8=>⟨rfl,a',B++[e],c8,ce,?_⟩);rw[kA _ hr,if_pos cg];exact L.snoc hv
   .refine⟨rfl,n,B,E,aC,?_⟩;rw[kA _ hr,if_neg cg,append_nil];exact L
  .rintro my hy-⟨rfl,n,B,E,c7,L⟩
   rw[c1,take_length]at L;obtain⟨s,hb,b4,c9⟩:=E.ex;refine⟨s,.of_m hb rfl,eX.row (s6.x n7 n) (.refl _) b4 (λj y e=>?_) (λh' le d'=>hK s h' le ((L.mono le).rows d' cg))⟩;cases D:m y with
   |none=>rfl
   |some o=>have e1:=c9 j y e;rw[s6 y o D]at e1;cases e1
def zY(_:Query)(ls:List dl):Prop:=2<=ls.length/\∃w,∀l∈ls,jG w l
def Sw(_:Query)(ls:List dl):dl:=(ls.getD 0 []).filter λx=>P6 (ls.getD 1 []) x==false
def SD(_:Query)(ls:List dl):dl:=(ls.getD 0 []).filter λx=>P6 (ls.getD 1 []) x==true
theorem Xi:di 239 (Tx zY Sw):=by
 refine gO func239 ?_;rintro d m h K ⟨v,t,q,e,f,rfl,_,g,j,⟨n,w,c⟩,o⟩;refine⟨dG [(274,Tr)] [] [] [] false,rfl,aD Oj aF,aoQ v t m h K,bu,?_⟩;exact⟨t,false,e,f,w,rfl,g,j,n,c,o⟩
theorem Xh:di 240 (Tx zY SD):=by
 refine gO func240 ?_;rintro d m h K ⟨v,t,q,e,f,rfl,_,g,j,⟨n,w,c⟩,o⟩;refine⟨dG [(274,Tr)] [] [] [] false,rfl,aD Oj aF,anJ v t m h K,bu,?_⟩;exact⟨t,true,e,f,w,rfl,g,j,n,c,o⟩
def iZ:dr->dn->dn->Int
 |[],a,b=>eJ a b
 |(c,d)::r,a,b=>if 0<=c/\c<a.length/\c<b.length then(if jL (a.getD c.toNat zeroV) (b.getD c.toNat zeroV)≠0 then(if d then-jL (a.getD c.toNat zeroV) (b.getD c.toNat zeroV)else jL (a.getD c.toNat zeroV) (b.getD c.toNat zeroV))else iZ r a b)else iZ r a b
def C3:Vc.Spec:=λc m h K=>∃o s t od a b,c=[cS o,cS s,cS t]/\jU h o od/\bI h s a/\bI h t b/\K (cI (iZ od a b)) m h
def RY:Vc.Spec:=λc m h K=>∃s t d v od a b,c=[cS s,cS t,cP d]/\m d=some (.cells ⟨QV.enc v⟩ 38 (0,0))/\jU h v.order od/\bI h s a/\bI h t b/\K (cI (iZ od a b)) m h
def bCQ:Vc.Spec:=λc m h K=>∃i:Nat,∃d e f v od g s rs r x,c=[cI i,cP d,cP e,cP f]/\m d=some (.cells ⟨QV.enc v⟩ 38 (0,0))/\m e=some (.cells #[Sl.val g] 53 (0,0))/\m f=some (.cells #[Sl.val s] 94 (0,0))/\jU h v.order od/\Rows h g rs/\bI h s r/\rs[i]? =some x/\
 K (cB (decide (iZ od x r>=0))) m h
def a4J:Vc.Spec:=λd m h K=>∃(s:Sl)(e:Nat)(v:QV)(od:dr)(w:Nat)(ps:en),d=[cS s,.val (.func (.func 293) #[] #[.pointer (some ⟨e,0,none⟩)])]/\m e=some (.cells ⟨QV.enc v⟩ 38 (0,0))/\(∀i,s.a≠some ⟨e,i,none⟩)/\jU h v.order od/\cM m s 94 1 (ps.map λp=>eS p.1)/\(∀p∈ps,bI h p.1 p.2)/\(∀p∈ps,p.2.length=w)/\ps.length<=140737488355328/\
 ∀(c:en)(m':MH),c.Perm ps->c.Pairwise (λp q=>¬iZ od q.2 p.2<0)->cM m' s 94 1 (c.map λp=>eS p.1)->(∀b,(∀i,s.a≠some ⟨b,i,none⟩)->m' b=m b)->K (.tup []) m' h
noncomputable def boZ(o s t:Sl)(m:MH)(h:PH):Ctx:=
 dG [(108,LZ),(102,C4)] [(2,{A:=Nat,st:=λi=>bK 55 58 [(1,sv s),(2,sv t),(10,sv o),(11,iv o.len),(12,iv i)] [] m h})] [] [] false
def UQ(o s t:Sl)(m:MH)(h:PH)(K:dk):Prop:=
  kX (λI x=>aA (I x) (aG s) (aA (aG t) (aG o) (aA (a7 o) (aY x) (aA (m=m) (h=h) True)))) (λI d x=>I x->aR (↑x:Int) (aH o) (bT (λb f=>aA (bX o.a b f) (0<=(↑x:Int)) ((↑x:Int)<aH o/\∃(y:Int×Bool),aK m h b (bC f x 2) (AS y)/\aR y.1 0 (∃(c:Nat),aA (I c) (d c<d x) (aA (aG s) (aG t) (aA (aG o) (a7 o) (aA (aU (aW x 1) c) (m=m) (bH h h))))) (cH (decide (y.1>=aH s)) (∃(c:Nat),aA (I c) (d c<d x) (aA (aG s) (aG t) (aA (aG o) (a7 o) (aA (aU (aW x 1) c) (m=m) (bH h h))))) (decide (y.1>=aH t)) (∃(c:Nat),aA (I c) (d c<d x) (aA (aG s) (aG t) (aA (aG o) (a7 o) (aA (aU (aW x 1) c) (m=m) (bH h h))))) (bT (λg j=>aA (bX s.a g j) (0<=y.1) (y.1<aH
 s/\∃(n:VV),aK m h g (cF j y.1 3) n.enc/\bT (λu z=>aA (bX t.a u z) (0<=y.1) (y.1<aH t/\∃(A:VV),aK m h u (cF z y.1 3) A.enc/\E7 (λa e=>bJ (fT n) (fT A)=bJ (fT a) (fT e)/\cH (jL a e==0) (∃(c:Nat),aA (I c) (d c<d x) (aA (aG s) (aG t) (aA (aG o) (a7 o) (aA (aU (aW x 1) c) (m=m) (bH h h))))) y.2 (K (fQ (iJ (0-jL a e))) m h) (K (fQ (jL a e)) m h))))))))))) (AD s t h (λa b=>K (fQ (eJ a b)) m h)))
abbrev NK(a:dn->dn->Prop):Prop:=∃(x c:dn),a x c
abbrev IE(a b c:Sl)(d:PH)(e:dr->dn->dn->Prop):Prop:=kQ (λx f=>∃(g:Sl)(j:dr),NK (λn o=>aA (fD a::dW b (fD c)=fD x::dW f (fD g)) (jU d x j) (aA (bI d f n) (bI d g o) (e j n o))))
attribute [push_cast] NK IE
def alQ(s t:Sl)(c:Nat)(m:MH)(h:PH)(K:dk):Prop:=
  kW m h c 18 (λy=>IE y s t h (λo a b=>K (fQ (iZ o a b)) m h))
def Qq(i:Nat)(g d j:Nat)(m:MH)(h:PH)(K:dk):Prop:=
  kW m h g 18 (λy=>kW m h d 0 (λc=>cK c.a (↑i:Int) c (λb o e=>aK m h b (bC o i 1) (aM e)/\∃(f:Sl),aA (aK m h j 0 (aM f)) (aK m h d 0 (aM c)) (IE y e f h (λn a u=>aK m h d 0 (aM c)/\K (zU (decide (iZ n a u>=0))) m h)))))
theorem OL(a b:VV): -1<=jL a b/\jL a b<=1:=by
 have c:∀x y:Int, -1<=BE x y/\BE x y<=1:=λx y=>by unfold BE;omega
 have d:=(NS a.text.data.toList b.text.data.toList).2;have e: -1<=Po a.text b.text/\Po a.text b.text<=1:=by unfold Po;omega
 have f:=c a.kind b.kind;have g:=c a.int b.int;unfold jL;omega
theorem RL{c:Int}{d:Bool}{r:dr}{a b:dn}(h:¬(0<=c/\c<a.length/\c<b.length)):iZ ((c,d)::r) a b=iZ r a b:=by
 rw[iZ,if_neg h]
theorem Zv{c:Int}{d:Bool}{r:dr}{a b:dn}{x y:VV}(e:0<=c)(hx:a[c.toNat]? =some x)(f:b[c.toNat]? =some y):iZ ((c,d)::r) a b=if jL x y≠0 then(if d then-jL x y else jL x y)else iZ r a b:=by
 have g:=(cn hx);have j:=(cn f);rw[iZ,if_pos ⟨e,aC,aC⟩]
 grind
theorem Ko:di 64 C3:=by
 refine gO func64 ?_;rintro L m h K ⟨o,s,t,od,a,b,rfl,C,D,E,g⟩;refine⟨boZ o s t m h,rfl,aD HB (aD Ef aF),UQ o s t m h K,bu,?_⟩;dsimp only[UQ,push_cast];have F:=C.slen;have M:=C.len;have O:=aZ.slen D;have P:=aZ.slen E;refine⟨λi=>i<=od.length/\iZ od a b=iZ (od.drop i) a b,λi=>od.length-i,⟨0,⟨aC,bx⟩,MT⟩,λi⟨hi,j⟩=>aE (λn=>?_) (λQ=>?_)⟩
 .obtain⟨⟨c,B⟩,G⟩:=eN F n;obtain⟨R,S,T,U⟩:=C.row.get (i:=i) (e:=pO (c,B)) (by simp[G]);rw[drop_cons G]at j
  have skip:¬(0<=c/\c<a.length/\c<b.length)->∃d:Nat,(λi=>i<=od.length/\iZ od a b=iZ (od.drop i) a b) d/\(λi=>od.length-i) d<(λi=>od.length-i) i/\eQ (YW s)/\eQ (YW t)/\eQ (YW o)/\eQ (sQi ↑o.len)/\sQi (IntKind.i64.wrap ((i:Int)+1))=sQi ↑d/\m=m/\h=h/\True:=λV=>
   ⟨i+1,⟨aC,by rw[j,RL V]⟩,(show od.length-(i+1)<od.length-i by omega),MT⟩
  refine⟨R,S,T,aC,n,(c,B),.imm U,aE (λH=>skip (λe=>by omega)) (λH=>aE (λI=>skip (λe=>by omega)) (λI=>aE (λJ=>skip (λe=>by omega)) (λJ=>?_)))⟩;dsimp only at H I J⊢
  obtain⟨x,z⟩:∃x,a[c.toNat]? =some x:=⟨_,cq aC⟩
  obtain⟨y,A⟩:∃y,b[c.toNat]? =some y:=⟨_,cq aC⟩
  obtain⟨W,X,u,Y,Z,rfl⟩:=aZ.at D z;obtain⟨b3,o3,u,e3,r3,rfl⟩:=aZ.at E A;rw[Zv aC z A]at j;have a':=OL x y;refine⟨W,X,Y,aC,aC,x,.imm Z,b3,o3,e3,aC,aC,y,.imm r3,x,y,rfl,aB (λh4=>⟨i+1,⟨aC,?_⟩,(show od.length-(i+1)<od.length-i by omega),MT⟩) (λh4=>aB (λf=>?_) (λf=>?_))⟩
  .grind
  .have f:B=true:=f;rw[j,if_pos cg,if_pos f]at g;rw[dR aC aC,Int.zero_sub];exact g
  .have f:B=false:=f;rw[j,if_pos cg,if_neg (by simp[f])]at g;exact g
 .rw[j,drop_eq_nil_of_le aC,iZ]at g;exact⟨s,t,a,b,rfl,D,E,g⟩
theorem WS:di 293 RY:=by
 refine gO func293 ?_;rintro c m h K ⟨s,t,d,v,od,a,b,rfl,e,f,g,j,n⟩;refine⟨vM [(64,C3)] [] [] [] [0] [] false,rfl,aD Ko aF,alQ s t d m h K,bu,?_⟩;exact⟨v.order,.of_m e rfl,v.order,s,t,od,a,b,rfl,f,g,j,n⟩
theorem WW:di 276 bCQ:=by
 refine gO func276 ?_;rintro j m h K ⟨i,n,e,o,v,od,g,s,rs,r,x,rfl,y,z,A,B,c,C,f,D⟩;refine⟨vM [(64,C3)] [] [] [] [0] [] false,rfl,aD Ko aF,Qq i n e o m h K,bu,?_⟩;dsimp only[Qq,push_cast];have J:=aZ.slen c;have L:=(cn f);obtain⟨E,F,u,G,H,I⟩:=aZ.at c f;have d:aK m h e 0 [fF g]:=.of_m z rfl;exact⟨v.order,.of_m y rfl,g,d,E,F,G,aC,aC,u,.imm H,s,.of_m A rfl,d,v.order,u,s,od,x,r,rfl,B,I,C,d,D⟩
def JD(w:Nat):dr->dn->dn->Int
 |[],a,b=>eJ a b
 |(c,d)::r,a,b=>if 0<=c/\c<w then(if(if d then-jL (a.getD c.toNat zeroV) (b.getD c.toNat zeroV)else jL (a.getD c.toNat zeroV) (b.getD c.toNat zeroV))≠0 then(if d then-jL (a.getD c.toNat zeroV) (b.getD c.toNat zeroV)else jL (a.getD c.toNat zeroV) (b.getD c.toNat zeroV))else JD w r a b)else JD w r a b
theorem Ch{w:Nat}:∀{od:dr}{a b:dn},a.length=w->b.length=w->iZ od a b=JD w od a b
 |[],_,_,_,_=>rfl
 |(c,f)::r,a,b,d,e=>by
  rw[iZ,JD,d,e,Ch (od:=r) d e];omega
theorem RZ.neg{α:Type}{c:α->α->Int}(h:RZ c):RZ (λx y=> -c x y):=by
 refine⟨λx y=>by have:=h.anti x y;omega,λx y z d e=>?_⟩;have f:=h.anti x y;have g:=h.anti y z;have j:=h.anti x z;have:=h.trans z y x aC aC;omega
theorem JC(w:Nat):∀od,RZ (JD w od)
 |[]=>FA
 |(c,d)::r=>by
  have f:=JC w r;have g:RZ (λa b:dn=>jL (a.getD c.toNat zeroV) (b.getD c.toNat zeroV)):=JE.of λa:dn=>a.getD c.toNat zeroV;by_cases h:0<=c/\c<w
  .have e:JD w ((c,d)::r)=λa b=>if(if d then-jL (a.getD c.toNat zeroV) (b.getD c.toNat zeroV)else jL (a.getD c.toNat zeroV) (b.getD c.toNat zeroV))≠0 then(if d then-jL (a.getD c.toNat zeroV) (b.getD c.toNat zeroV)else jL (a.getD c.toNat zeroV) (b.getD c.toNat zeroV))else JD w r a b:=by
    funext a b;rw[JD,if_pos h]
   rw[e];cases d
   .exact g.lex f
   .exact g.neg.lex f
  .have e:JD w ((c,d)::r)=JD w r:=by funext a b;rw[JD,if_neg h]
   grind
theorem a1Z{w:Nat}(od:dr):Sort.SWO (Go.Proofs.ltOf (fun(x y:FH h (λl=>l.length=w))=>iZ od x.l y.l)):=by
 have e:(fun(x y:FH h (λl=>l.length=w))=>iZ od x.l y.l)=λx y=>JD w od x.l y.l:=by
  funext x y;exact Ch x.pr_ y.pr_
 rw[e];exact(JC w od).swo
theorem Vg:di 189 a4J:=by
 refine⟨⟨Tryz.f189,func189,rfl,bz⟩,?_⟩;rintro j f m h w K ⟨s,c,v,od,n,ps,rfl,I,u,z,A,B,C,D,E⟩ d
 obtain⟨F,e,rfl⟩:∃v e,f=[v,e]:=by
  have:=(qC d.args).1
  match f,this with
  |[v,e],_=>grind
 have G:F=s.val:=d.args.1;have H:e= .func (.func 293) #[] #[.pointer (some ⟨c,0,none⟩)]:=d.args.2.1;subst G H;refine PD (R:=λl=>l.length=n) (g:=293) (cb:=[.pointer (some ⟨c,0,none⟩)]) (m2:=λb=>if b=c then m c else none) (cf:=iZ od) rfl d ⟨Tryz.f293,func293,rfl,bz⟩ A B C D (a1Z od) ⟨RY,WS,λx y=>⟨x.s,y.s,c,v,od,x.l,y.l,rfl,cg,z,x.ok,y.ok,rfl,rfl,rfl⟩⟩ (λb o J=>?_) E
 grind
noncomputable def aMZ:Ctx:=SS [(269,YE),(271,a9J),(270,V6),(191,V3)] [(13,{A:=Nat×Nat×Sl×Sl×MH×PH,st:=λ⟨i,b,e,g,m,h⟩=>bK 66 68 [(10,vv (.pointer (some ⟨b,0,none⟩))),(11,sv e),(51,sv g),(52,iv g.len),(53,iv i)] [] m h})] [] [200005,200006,200007,200010,1053,400000,0]
abbrev Az(a:MH)(b:Nat)(c:dn)(d:dm)(e:Prop)(g:Sl->Prop):Prop:=∃(x:List (Value×Sl))(j:Value->Prop),aA (Cp a b (List.map (fun(f:Value×Sl)=>(f.1,fF f.2)) x)) (Gw j) (aA (j (dU c d)) (∀(f:Value×Sl),List.Mem f x->j f.1) (((∀(f:Value×Sl),rX (List.Mem f x) (f.1=dU c d))->e)/\∀(f:Sl),List.Mem (dU c d,f) x->g f))
abbrev J9(a b c d:Prop)(e:(List dj)->Prop):Prop:=aA a b (aA c d (∃(x:List dj),e x))
noncomputable abbrev lH:Sl:=Sl.mk Option.none 0 0
noncomputable abbrev tB(a:Nat×Nat×Sl×Sl×MH×PH):Nat:=a.2.1
noncomputable abbrev kG(a:Nat×Sl×Sl×MH×PH):Sl:=a.2.1
noncomputable abbrev qX(a:Nat×Sl×Sl×MH×PH):Sl×MH×PH:=a.2.2
noncomputable abbrev pR(a:Nat×Nat×Sl×Sl×MH×PH):Sl:=(qX a.2).1
noncomputable abbrev fJ(a:Nat×Sl×Sl×MH×PH):Nat->Nat->Option Value:=gJ (qX a)
noncomputable abbrev vV(a:Nat×Nat×Sl×Sl×MH×PH):Nat->Option Obj:=iO (qX a.2)
abbrev Dt(a:Nat×Nat×Sl×Sl×MH×PH)(b:Sl):Prop:=aK (vV a) (fJ a.2) (tB a) 0 (aM b)
abbrev Fe(a:Sl->dl->Prop):Prop:=∃(x:Sl)(c:dl),a x c
attribute [push_cast] Az J9 lH tB kG qX pR fJ vV Dt Fe
def KF(v:QV)(t:Sl)(m:MH)(h:PH)(K:dk):Prop:=
  E9 (λs o=>aA (p9 v.on s) (lE h s o) (∀(a:Sl),jT (λb Q=>dD h Q (Ints Q a (fZ o)) (Ints Q b (fU o)->∀(U:Nat)(m1:MH),aT (dZ m Q U) (bL m m1 U iA 33) (∀(b2:Nat)(m2:MH),aT (dZ m1 Q b2) (bL m1 m2 b2 iA 33) (gE (λc E=>aA (sK m2 U (fC c E 0)) (fE 0 c) (∀(m3:MH),bL m2 m3 U (jC (fF a) 1 c) E->gE (λc1 E1=>aA (sK m3 b2 (fC c1 E1 0)) (fE 0 c1) (∀(m4:MH),bL m3 m4 b2 (jC (fF b) 1 c1) E1->DF m4 Q 0 (λb3 m5=>DS m5 Q 173 (λz m6=>gE (λc2 E2=>aA (sK m6 z (fC c2 E2 0)) (fE 0 c2) (∀(m7:MH),bL m6 m7 z (jC (Value.map (Option.some b3)) 1 c2) E2->Jb t.a 0 1 t m7 Q (λo1=>cE o1) (λy S=>tZ S Q y m7 (λI k e j f=>I k j f->kW j f b2 0 (λy1=>∃(s1:Sl),
 Br (λt1 r V=>aA (fN e y1=fN s1 t1) (bI f s1 r) (aA (Ints f t1 V) (lW r V) (branch (List.all (pick r V) jF) (kW j f b2 0 (λy2=>∃(s2:Sl),Br (λt2 n u=>aA (fN e y2=fN s2 t2) (bI f s2 n) (aA (Ints f t2 u) (Pq n) (aA (lW n u) (jV j) (∃(g:Nat),aK j f z 0 (qW g)/\∃(G:Nat),aA (dP j f z G) (aK j f z 0 (qW g)/\Az j G n u (J9 (dP j f z g) (dP j f z G) (dP j f z g) (dP j f z G) (λx=>aA (cM j lH 94 1 x) (iS x) (dH x/\fX (λC B=>bV j B lH C 94 1 (dY x (aM e))->aA (dP B f z g) (dP B f z G) (wE B g (λO=>O) (λO=>O (dU n u)) (dU n u) (λD=>D) (λA=>A) (λA D=>rX (List.Mem D A) (D.1=dU n u))
 (λA=>∀(d:MH),aT (j8 B d g) (pG d g (A++Ac (dU n u) (fF C))) (I (cE k) d f)) (λA l W J=>A=l++mW (dU n u) W J->∀(d:MH),aT (j8 B d g) (pG d g (l++mW (dU n u) (fF C) J)) (I (cE k) d f))))))) (λL=>J9 (dP j f z g) (dP j f z G) (dP j f z g) (dP j f z G) (λx=>aA (cM j (bD L) 94 1 x) (iS x) (dH x/\fX (λC B=>bV j B (bD L) C 94 1 (dY x (aM e))->aA (dP B f z g) (dP B f z G) (wE B g (λO=>O) (λO=>O (dU n u)) (dU n u) (λD=>D) (λA=>A) (λA D=>rX (List.Mem D A) (D.1=dU n u)) (λA=>∀(d:MH),aT (j8 B d g) (pG d g (A++Ac (dU n u) (fF C))) (I (cE k) d f)) (λA l W J=>A=
 l++mW (dU n u) W J->∀(d:MH),aT (j8 B d g) (pG d g (l++mW (dU n u) (fF C) J)) (I (cE k) d f)))))))) (aA (dP j f z g) (dP j f z G) (aK j f z 0 (qW g)/\Az j G n u (u9 (dP j f z g) (dP j f z G) (λx=>aA (cM j lH 94 1 x) (iS x) (dH x/\fX (λC B=>bV j B lH C 94 1 (dY x (aM e))->aA (dP B f z g) (dP B f z G) (wE B g (λO=>O) (λO=>O (dU n u)) (dU n u) (λD=>D) (λA=>A) (λA D=>rX (List.Mem D A) (D.1=dU n u)) (λA=>∀(d:MH),aT (j8 B d g) (pG d g (A++Ac (dU n u) (fF C))) (I (cE k) d f)) (λA l W J=>A=l++mW (dU n u) W J->∀(d:MH),aT (j8 B d g) (pG d g (l++mW (dU
 n u) (fF C) J)) (I (cE k) d f))))))) (λL=>u9 (dP j f z g) (dP j f z G) (λx=>aA (cM j (bD L) 94 1 x) (iS x) (dH x/\fX (λC B=>bV j B (bD L) C 94 1 (dY x (aM e))->aA (dP B f z g) (dP B f z G) (wE B g (λO=>O) (λO=>O (dU n u)) (dU n u) (λD=>D) (λA=>A) (λA D=>rX (List.Mem D A) (D.1=dU n u)) (λA=>∀(d:MH),aT (j8 B d g) (pG d g (A++Ac (dU n u) (fF C))) (I (cE k) d f)) (λA l W J=>A=l++mW (dU n u) W J->∀(d:MH),aT (j8 B d g) (pG d g (l++mW (dU n u) (fF C) J)) (I (cE k) d f))))))))))))))) (I (cE k) j f)))))) (λj f=>Dv j f t (λb5 B y1 S1=>tZ S1 f y1 B (λI k e d H=>I k d H->
 kW d H U 0 (λy2=>∃(s1:Sl),Br (λt1 r V=>aA (fN e y2=fN s1 t1) (bI H s1 r) (aA (Ints H t1 V) (lW r V) (gR (!(List.all (pick r V) jF)) (I (cE k) d H) (λg=>aK d H z 0 (qW g)/\∃(G:Sl),aA (aK d H U 0 (aM G)) (dP d H z g) (∃(s2:Sl),Br (λt2 n u=>aA (fN e G=fN s2 t2) (bI H s2 n) (aA (Ints H t2 u) (Pq n) (aA (lW n u) (jV d) (aA (dP d H z g) (aK d H U 0 (aM G)) (Az d g n u (∃(I1:Nat×Nat×Sl×Sl×MH×PH->Prop)(a2:Nat×Nat×Sl×Sl×MH×PH->Nat),(∃(x:Nat×Nat×Sl×Sl×MH×PH),aA (I1 x) (fO b5 (tB x)) (aA (bF e (kG x.2)) (sQn=YW (pR x)) (aA (aY (pR x).len) (aY x.1) (aA (gH d (qX x.2)) (H=fJ x.2) True))))/\∀(x:Nat×Nat×Sl×Sl×
 MH×PH),I1 x->aR (↑x.1:Int) (aH (pR x)) (cK (pR x).a (↑x.1:Int) (pR x) (λb6 o1 L=>aK (vV x) (fJ x.2) b6 (bC o1 x.1 1) (aM L)/\∃(P:Sl),aA (Dt x P) (Dt x P) (Dt x P/\bU (fJ x.2) 1 (aM (kG x.2)::iF (aM L)) (λC h4=>Fe (λs4 R=>aA (jZ C=jZ s4) (Rows h4 s4 R) (aA (wA R 10) (∀(r3:dn),List.Mem r3 R->r3.length<=12) (jT (λs5 M=>dD h4 M (bI M s5 R.flatten) (u9 (aK (vV x) M (tB x) 0 (aM P)) (aK (vV x) M (tB x) 0 (aM P)) (λT=>aA (cM (vV x) (bD P) 94 1 T) (iS T) (dH T/\fX (λs6 X=>bV (vV x) X (bD P) s6 94 1 (dY T (aM s5))->gE (λY E3=>aA (sK X (tB x) (fC Y E3 0)) (fE 0 Y) (∀(a4:MH),bL X a4 (tB x)
 (jC (fF s6) 1 Y) E3->∃(F:Nat×Nat×Sl×Sl×MH×PH),aA (I1 F) (a2 F<a2 x) (aA (fO (tB x) (tB F)) (bF (kG x.2) (kG F.2)) (aA (bF (pR x) (pR F)) (dA (pR x) (pR F)) (aA (aU (aW x.1 1) F.1) (gH a4 (qX F.2)) (bH M (fJ F.2))))))))))))))))))) (I (cE k) (vV x) (fJ x.2))) (λL=>∃(I1:Nat×Nat×Sl×Sl×MH×PH->Prop)(a2:Nat×Nat×Sl×Sl×MH×PH->Nat),(∃(x:Nat×Nat×Sl×Sl×MH×PH),aA (I1 x) (fO b5 (tB x)) (aA (bF e (kG x.2)) (bF L (pR x)) (aA (dA L (pR x)) (aY x.1) (aA (gH d (qX x.2)) (H=fJ x.2) True))))/\∀(x:Nat×Nat×Sl×Sl×MH×PH),I1 x->aR (↑x.1:Int) (aH (pR x)) (cK (pR x).a (↑x.1:Int) (pR x) (λb6 o1 P=>aK (vV x) (fJ x.2) b6 (bC o1
 x.1 1) (aM P)/\∃(Z:Sl),aA (Dt x Z) (Dt x Z) (Dt x Z/\bU (fJ x.2) 1 (aM (kG x.2)::iF (aM P)) (λC h4=>Fe (λs4 R=>aA (jZ C=jZ s4) (Rows h4 s4 R) (aA (wA R 10) (∀(r3:dn),List.Mem r3 R->r3.length<=12) (jT (λs5 M=>dD h4 M (bI M s5 R.flatten) (u9 (aK (vV x) M (tB x) 0 (aM Z)) (aK (vV x) M (tB x) 0 (aM Z)) (λT=>aA (cM (vV x) (bD Z) 94 1 T) (iS T) (dH T/\fX (λs6 X=>bV (vV x) X (bD Z) s6 94 1 (dY T (aM s5))->gE (λY E3=>aA (sK X (tB x) (fC Y E3 0)) (fE 0 Y) (∀(a4:MH),bL X a4 (tB x) (jC (fF s6) 1 Y) E3->∃(F:Nat×Nat×Sl×Sl×MH×PH),aA (I1 F) (a2 F<a2 x) (aA (fO (tB x) (tB F)) (bF (kG x.2)
 (kG F.2)) (aA (bF (pR x) (pR F)) (dA (pR x) (pR F)) (aA (aU (aW x.1 1) F.1) (gH a4 (qX F.2)) (bH M (fJ F.2))))))))))))))))))) (I (cE k) (vV x) (fJ x.2))))))))))))))) (λd H=>kW d H b5 0 (λy2=>K (fD y2) d H)))))))))))))))))))
def bLJ(on:dp)(ls:List dl):Prop:=2<=ls.length/\∃w c,jG w (ls.getD 0 [])/\jG c (ls.getD 1 [])/\gP w (fZ on)/\gP c (fU on)
def Nz(q:Query)(ls:List dl):Prop:=match q with|.mk _ _ _ _ on _ _ _ _=>bLJ on ls
def agree(on:dp)(x y:dn):Bool:=eJ (pick x (fZ on)) (pick y (fU on))==0
def TR(q:Query)(ls:List dl):dl:=match q with|.mk _ _ _ _ on _ _ _ _=>(ls.getD 0 []).filter λx=>(ls.getD 1 []).any λy=>agree on x y
theorem A8{on:dp}{x y:dn}:agree on x y=true↔pick x (fZ on)=pick y (fU on):=by
 simp only[agree,beq_iff_eq,i7]
theorem Ih{r:dn}{cols:dm}(c:Pq r)(d:gP r.length cols):∀v∈pick r cols,VOk v:=λv e=>c.val v (T8 d e)
theorem Ki{κ:dn->ByteArray}(c:auZ κ){on:dp}{x y:dn}(hx:Pq x)(d:Pq y)(e:gP x.length (fZ on))(f:gP y.length (fU on)):κ (pick x (fZ on))=κ (pick y (fU on))↔agree on x y=true:=by
 rw[A8];exact c.inj (by simp[pick,fZ,fU]) (Ih hx e) (Ih d f)
structure Start(m m7:MH)(sa sb:Sl)(T:TypeId)(b1 b2 y b7:Nat):Prop where
 sub:Sub m m7
 a_:m7 b1=some (.cells #[.slice sa.a sa.len sa.cap] 33 (0,0))
 b_:m7 b2=some (.cells #[.slice sb.a sb.len sb.cap] 33 (0,0))
 y_:m7 y=some (.map #[] 0)
 c_:m7 b7=some (.cells #[.map (some y)] T (0,0))
 ya:b1≠y
 yb:b2≠y
 yc:b7≠y
 free:m y=none
theorem TL{S U:Sl}{T:TypeId}{Q:Nat->Nat->Nat->Nat->MH->Prop}(hK:∀c d y n P,Start m P S U T c d y n->Q c d y n P):
 ∀(c:Nat)(Z:MH),dZ m h c->gI m Z c (.cells #[sJ] 33 (0,0))->∀(d:Nat)(m2:MH),dZ Z h d->gI Z m2 d (.cells #[sJ] 33 (0,0))->
  ∃(cs:Array Value)(E:TypeId),sK m2 c (.cells cs E (0,0))/\0<cs.size/\∀V:MH,gI m2 V c (.cells (Array.mk (fF S::cs.toList.drop 1)) E (0,0))->
  ∃(cs:Array Value)(E:TypeId),sK V d (.cells cs E (0,0))/\0<cs.size/\∀F:MH,gI V F d (.cells (Array.mk (fF U::cs.toList.drop 1)) E (0,0))->
  ∀(y:Nat)(R:MH),dZ F h y->gI F R y (.map (Array.mk []) 0)->∀(n:Nat)(m6:MH),dZ R h n->gI R m6 n (.cells (Array.mk [.map none]) T (0,0))->
  ∃(cs:Array Value)(E:TypeId),sK m6 n (.cells cs E (0,0))/\0<cs.size/\∀P:MH,gI m6 P n (.cells (Array.mk (.map (some y)::cs.toList.drop 1)) E (0,0))->Q c d y n P:=by
 intro c Z a' G d m2 W H;obtain⟨s1,n1⟩:=kU (Sub.refl m) a' G;obtain⟨s2,n2⟩:=kU s1 W H;have I:c≠d:=λe=>by have:=W.m_;rw[<-e,G.at_]at this;cases this
 refine⟨_,_,⟨by rw[H.other c I];exact G.at_⟩,bx,λV J=>?_⟩;have s3:Sub m V:=s2.upd n1 J.other;refine⟨_,_,⟨by rw[J.other d (Ne.symm I)];exact H.at_⟩,bx,λF L y R X u n m6 Y g=>?_⟩;have s4:Sub m F:=s3.upd n2 L.other;have M:F c=some (.cells #[.slice S.a S.len S.cap] 33 (0,0)):=by rw[L.other c I];exact J.at_
 have O:F d=some (.cells #[.slice U.a U.len U.cap] 33 (0,0)):=L.at_;obtain⟨s5,ny⟩:=kU s4 X u;obtain⟨s6,n7⟩:=kU s5 Y g;have A:∀{z o},F z=some o->z≠y:=fun{z o} e e2=>by rw[e2,X.m_]at e;cases e
 have f:∀{z o},R z=some o->z≠n:=fun{z o} e e2=>by rw[e2,Y.m_]at e;cases e
 have B:=M;rw[<-u.other c (A M)]at B;have C:=O;rw[<-u.other d (A O)]at C;have D:R y=some (.map #[] 0):=u.at_;refine⟨_,_,⟨g.at_⟩,bx,λP j=>hK _ _ _ _ _ ⟨s6.upd n7 j.other,?_,?_,?_,j.at_,A M,A O,Ne.symm (f D),ny⟩⟩
 .rw[j.other c (f B),g.other c (f B)];exact B
 .rw[j.other d (f C),g.other d (f C)];exact C
 .rw[j.other y (f D),g.other y (f D)];exact D
theorem Xk:di 237 (Tx Nz TR):=by
 refine Jm func237 ?_;rintro c9 m h K ⟨v,t,q,bs,ls,rfl,hq,ha,hT,b0,hK⟩;refine⟨SS [(269,YE),(271,a9J)] [] [] [200005,200006,200007,200009,1053,400000,0],rfl,aD Om (aD Ee aF),KE v t m h (eX h K),bu,?_⟩;show KE v t m h (eX h K);dsimp only[KE,push_cast];obtain⟨op,ta,w,co,on,gr,od,li,args⟩:=q;obtain⟨h2,wa,wb,f,d,b3,L⟩:=b0;refine⟨v.on,on,rfl,hq.parts.on_,λsa sb M C b4 b5=>TL λb1 b2 y Y m7 D=>?_⟩;obtain⟨b,off,x,ea,d',rd,sq⟩:=ha.get (Al (i:=1) aC);obtain⟨b6,Z,x6,b8,c8,c',a'⟩:=ha.get (Al (i:=0) aC);obtain⟨a0,O,E⟩:=(sq.mono C).ex;obtain⟨us,a1,P⟩:=(a'.mono C).ex;simp only[TR]at hK;generalize ls.getD 1 []=Q at E d hK sq;generalize ls.getD 0 []=l at P f hK a';have c0:=P.len;have d0:=f.len;have a2:=E.len;have s7:=D.sub;have ny:=D.free;refine⟨b,off,ea,aC,aC,x,.imm (rd.mono C),xW,a0,λk I J=>J=M/\(∀z o,m7 z=some o->z≠y->I z=some o)/\sH I y ((Q.take k).map λz=>eF (pick z (fU on))),wZ,⟨x,a0,rfl,O,rfl⟩,⟨rfl,λz o e _=>e,cm (sH.new D.y_)⟩,?_,?_⟩
 .rintro k e I J hk-⟨rfl,R,F⟩
  obtain⟨r,X,hv⟩:=E.at' hk;have n:=cr X;have S:aK I J Y 0 [Value.map (some y)]:=.of_m (R Y _ D.c_ D.yc) rfl;have rb:aK I J b2 0 [fF sb]:=.of_m (R b2 _ D.b_ D.yb) rfl;refine⟨y,S,sb,rb,S,e,sb,r,fU on,rfl,hv,b5,d.row r n,by rw[d.wid r n];exact L,hT.sub (λz o A=>R z o (s7 z o A) (λe3=>cg)),S,F.put (λm' T a3=>⟨rfl,λz o A c1=>by rw[T.other z c1];grind,?_⟩)⟩;obtain⟨kk,h5,h6⟩:=a3.ex;exact⟨kk,h5,λq=>by rw[h6,db,X];grind⟩
 .rintro I J-⟨rfl,R,F⟩ b9 m5 a4 G;rw[a2,take_length]at F;have s5:Sub m I:=λz o A=>R z o (s7 z o A) (λe3=>cg);obtain⟨s6,n7⟩:=kU s5 a4 G
  have a5:∀{z o},I z=some o->m5 z=some o/\z≠b9:=fun{z o} A=>by
   have:z≠b9:=λe3=>by rw[e3,a4.m_]at A;cases A
   exact⟨by rw[G.other z this];exact A,this⟩
  obtain⟨c2,na⟩:=a5 (R b1 _ D.a_ D.ya);obtain⟨c3,nc⟩:=a5 (R Y _ D.c_ D.yc)
  have y7:y≠b9:=by
   obtain⟨kk,⟨es,c,M,_⟩,_⟩:=F.ex
   grind
  have a6:=F.keep (G.other y y7);refine⟨b6,Z,b8,aC,aC,x6,.imm (c'.mono C),xW,us,λk U hy=>hy=J/\En m5 U b9/\∃u,pE m5 U b9 u/\u.length<=k/\dT J u ((l.take k).filter λz=>Q.any λy=>agree on z y),wZ,⟨x6,us,rfl,a1,rfl⟩,⟨rfl,λz o e _=>e,[],pE.new G.at_,bx,cm (dT.nil J)⟩,?_,?_⟩
  .rintro k e U hy hk-⟨rfl,g,u,B,c4,H⟩
   obtain⟨r,X,hv⟩:=P.at' hk;have d1:=(cn hk);have n:=cr X;have S:aK U hy Y 0 [Value.map (some y)]:=.of_m (g Y _ c3 nc) rfl;have r3:aK U hy b1 0 [fF sa]:=.of_m (g b1 _ c2 na) rfl
   have a9:sH U y (Q.map λz=>eF (pick z (fU on))):=by
    obtain⟨kk,⟨es,c,M,h2,h3,h4⟩,h5⟩:=a6.ex;exact⟨kk,⟨es,c,g y _ M y7,h2,h3,h4⟩,h5⟩
   have V:gP r.length (fZ on):=by rw[f.wid r n];exact b3
   have key:∀t:Bool,(t=true↔eF (pick r (fZ on))∈Q.map λz=>eF (pick z (fU on)))->t=Q.any λy=>agree on r y:=λt ht=>by
    have M:(eF (pick r (fZ on))∈Q.map λz=>eF (pick z (fU on)))↔(Q.any λy=>agree on r y)=true:=by
     rw[mem_map,any_eq_true];constructor
     .rintro⟨z,W,A⟩;exact⟨z,W,(Ki N0 (f.row r n) (d.row z W) V (by rw[d.wid z W];exact L)).1 A.symm⟩
     .rintro⟨z,W,A⟩;exact⟨z,W,((Ki N0 (f.row r n) (d.row z W) V (by rw[d.wid z W];exact L)).2 A).symm⟩
    grind
   refine⟨y,S,sa,r3,S,e,sa,r,fZ on,rfl,hv,b4,f.row r n,V,hT.sub (s6.x n7 g),S,r3,a9.get (K:=λt=>branch t _ _) (λt ht=>?_)⟩;have e3:=key t ht;refine aB (λM=>?_) (λM=>?_)
   .refine pE.app ⟨_,G.at_⟩ g B aC (λm' T c5=>⟨rfl,T,u++[e],c5,ce,?_⟩);rw[kA _ X,if_pos cg];exact H.snoc hv
   .refine⟨rfl,g,u,B,aC,?_⟩;rw[kA _ X,if_neg cg,append_nil];exact H
  .rintro U hy-⟨rfl,g,u,B,c4,H⟩
   rw[c0,take_length]at H;obtain⟨s,hb,b',c6⟩:=B.ex;refine⟨s,.of_m hb rfl,eX.row (s6.x n7 g) C b' (λj z e=>?_) (λh' le c7=>hK s h' (C.trans le) ((H.mono le).rows c7 cg))⟩;cases A:m z with
   |none=>rfl
   |some o=>have e1:=c6 j z e;rw[s6 z o A]at e1;cases e1
structure qK(m0 m:MH)(y:Nat)(kk:dy)(us:ByteArray->dq):Prop where
 map_:pG m y (kk.map λp=>(Value.string p.1,fF p.2))
 nodup:(kk.map Prod.fst).Nodup
 row:∀p∈kk,cM m p.2 94 1 ((us p.1).map eS)
 fresh:∀p∈kk,∀x i,p.2.a=some ⟨x,i,none⟩->m0 x=none
 apart:∀p∈kk,∀q∈kk,p.1≠q.1->∀x i j,p.2.a=some ⟨x,i,none⟩->q.2.a≠some ⟨x,j,none⟩
 none_:∀k,k∉kk.map Prod.fst->us k=[]
 old:∀x o,m0 x=some o->x≠y->m x=some o
def EH(c:dy)(key:ByteArray)(s:Sl):Prop:=(s=⟨none,0,0⟩/\key∉c.map Prod.fst)\/(key,s)∈c
theorem qK.new{y:Nat}(h:m y=some (.map #[] 0)):qK m m y [] λ_=>[]:=⟨⟨#[],0,h,rfl,bx,bx⟩,bx,bx,bx,bx,λ_ _=>rfl,λ_ _ e _=>e⟩
theorem EH.row{m0:MH}{y:Nat}{c:dy}{us:ByteArray->dq}{key:ByteArray}{s:Sl}(g:qK m0 m y c us)(f:EH c key s):cM m s 94 1 ((us key).map eS)/\∀x i,s.a=some ⟨x,i,none⟩->m0 x=none:=by
 rcases f with⟨rfl,j⟩|d
 .rw[g.none_ key j];exact⟨⟨qF [],.inl ⟨rfl,rfl⟩⟩,λx i e=>by cases e⟩
 .exact⟨g.row _ d,g.fresh _ d⟩
theorem qK.keep{m0:MH}{y:Nat}{f:dy}{us:ByteArray->dq}(g:qK m0 m y f us)(j:∀x o,m x=some o->m' x=some o):qK m0 m' y f us:=by
 obtain⟨n,c,d,e,u,z⟩:=g.map_;refine⟨⟨n,c,j _ _ d,e,u,z⟩,g.nodup,λp A=>?_,g.fresh,g.apart,g.none_,λx o d e=>j x o (g.old x o d e)⟩;obtain⟨B,C⟩:=g.row p A;refine⟨B,C.imp id ?_⟩
 grind
def Pc(us:ByteArray->dq)(key:ByteArray)(e:Sl):ByteArray->dq:=λk=>if k=key then us k++[e]else us k
theorem qK.core{m0 V:MH}{y:Nat}{D A:dy}{us:ByteArray->dq}{key:ByteArray}{s F e:Sl}(g:qK m0 m y D us)(I:∃o,m0 y=some o)(J:EH D key s)(G:bV m V s F 94 1 ((us key).map eS++[[fF e]]))
 (W:pG m' y (A.map λp=>(Value.string p.1,fF p.2)))(u:j8 V m' y)(L:(A.map Prod.fst).Nodup)(z:∀p∈A,p=(key,F)\/(p∈D/\p.1≠key))(H:(key,F)∈A)(M:∀k,k∈D.map Prod.fst->k∈A.map Prod.fst):qK m0 m' y A (Pc us key e):=by
 obtain⟨oy,I⟩:=I;obtain⟨X,a'⟩:=J.row g;obtain⟨es,c,h1,_⟩:=g.map_;have a0:∀i,s.a≠some ⟨y,i,none⟩:=λi f=>cg
 have Y:∀x,m x=none->m0 x=none:=λx O=>by
  cases P:m0 x with
  |none=>rfl
  |some o=>
   by_cases Q:x=y
   .grind
   .rw[g.old x o P Q]at O;cases O
 have Z:∀x i,F.a=some ⟨x,i,none⟩->m0 x=none:=λx i f=>by
  rcases G.fresh x i f with h|⟨j,h⟩
  .grind
  grind
 have E:∀p∈D,∀x i,p.2.a=some ⟨x,i,none⟩->∃o,m x=some o:=λp B x i f=>by
  rcases(g.row p B).ex with⟨h,_⟩|⟨b,a1,a2,h,W,_⟩
  .grind
  grind
 have R:∀p∈D,p.1≠key->∀x i j,p.2.a=some ⟨x,i,none⟩->s.a≠some ⟨x,j,none⟩:=λp B d x i j f C=>by
  rcases J with⟨rfl,_⟩|J
  .cases C
  .exact g.apart p B _ J d x i j f C
 refine⟨W,L,λp B=>?_,λp B x i f=>?_,λp B q hq d x i j f C=>?_,λk hk=>?_,λx o P d=>?_⟩
 .rcases z p B with rfl|⟨n,d⟩
  .have S:(Pc us key e key).map eS=(us key).map eS++[[fF e]]:=by simp[Pc,eS]
   rw[S];exact cM.keep G.row λb i f=>u.other b (λC=>cg)
  .have S:Pc us key e p.1=us p.1:=if_neg d;rw[S];refine cM.keep (g.row p n) λb i f=>?_;obtain⟨o,ho⟩:=E p n b i f;rw[u.other b (λC=>by rw[C]at f;rw[g.fresh p n y i f]at I;cases I),ho];exact G.other b o ho (λj=>R p n d b i j f)
 .rcases z p B with rfl|⟨n,_⟩
  .grind
  .exact g.fresh p n x i f
 .have O:∀p∈D,p.1≠key->∀i j,p.2.a=some ⟨x,i,none⟩->F.a≠some ⟨x,j,none⟩:=λp B d i j f C=>by
   rcases G.fresh x j C with h|⟨j',h⟩
   .grind
   grind
  rcases z p B with rfl|⟨n,a3⟩<;>rcases z q hq with rfl|⟨T,a4⟩
  .grind
  .grind
  .grind
  .exact g.apart p n q T d x i j f C
 .have U:k≠key:=λf=>hk (mem_map.2 ⟨_,H,f.symm⟩);simp only[Pc,if_neg U];exact g.none_ k λh=>hk (M k h)
 .rw[u.other x d];exact G.other x o (g.old x o P d) (λi f=>cg)
theorem qK.put{m0 C:MH}{y:Nat}{u:dy}{us:ByteArray->dq}{key:ByteArray}{s z e:Sl}{Q:MH->Prop}(g:qK m0 m y u us)(D:∃o,m0 y=some o)(E:EH u key s)(F:bV m C s z 94 1 ((us key).map eS++[[fF e]]))
 (M:∀m' G,qK m0 m' y G (Pc us key e)->Q m'):
 ∃(j:du)(Ok:Value->Prop),pG C y j/\KeyLaw Tryz.prog 9 Ok/\Ok (.string key)/\Instr.sameBits 10000 (Value.string key) (Value.string key)=true/\(∀e,List.Mem e j->Ok e.1)/\((∀e,List.Mem e j->e.1=Value.string key->False)->∀m':MH,j8 C m' y->pG m' y (j++[(Value.string key,fF z)])->Q m')/\
  ∀(H:du)(O:Value)(I:du),j=H++(Value.string key,O)::I->∀m':MH,j8 C m' y->pG m' y (H++(Value.string key,fF z)::I)->Q m':=by
 have J:∀i,s.a≠some ⟨y,i,none⟩:=λi n=>by
  obtain⟨o,P⟩:=D;rw[(E.row g).2 y i n]at P;cases P
 obtain⟨T,c,U,V,W,X⟩:=g.map_;refine⟨u.map λp=>(Value.string p.1,fF p.2),_,⟨T,c,F.other _ _ U J,V,W,X⟩,C9,⟨key,rfl⟩,TT key,λe Y=>?_,λZ m' d L=>?_,λH O I e0 m' d L=>?_⟩
 .obtain⟨k,_,rfl⟩:=mem_map.1 (show e∈_ from Y)
  grind
 .have a':key∉u.map Prod.fst:=λh=>by
   obtain⟨p,hp,n⟩:=mem_map.1 h;subst n;exact Z _ (mem_map_of_mem (f:=λp:ByteArray×Sl=>(Value.string p.1,fF p.2)) hp) rfl
  refine M m' (u++[(key,z)]) (g.core D E F cg d ?_ ?_ bx (λk hk=>cg))
  .rw[cv,nodup_append];refine⟨g.nodup,bx,λa ha b hb n=>?_⟩
   grind
  grind
 .obtain⟨k1,a0,e1,n,e3⟩:=map_eq_append_iff.1 e0;obtain⟨p,k2,e4,R,e6⟩:=map_eq_cons_iff.1 e3;subst e1 e4 n e6;simp only[Prod.mk.injEq,Value.string.injEq]at R;have A:=g.nodup;rw[cv,map_cons,R.1]at A;have B:=nodup_append.1 A;have S:=nodup_cons.1 B.2.1;refine M m' (k1++(key,z)::k2) (g.core D E F cg d cg ?_ bx (λk hk=>cg))
  grind
theorem qK.app{m0:MH}{hx:PH}{y c:Nat}{T:TypeId}{z:dy}{us:ByteArray->dq}{key:ByteArray}{s e:Sl}{Q:MH->Prop}(g:qK m0 m y z us)(E:∃o,m0 y=some o)(F:∃o,m0 c=some o)(G:m c=some (.cells #[.map (some y)] T (0,0)))(L:(us key).length<=502633886983)
 (H:∀m' u,qK m0 m' y u (Pc us key e)->Q m')(A:EH z key s):
 ∃xs:List dj,cM m (Sl.mk s.a s.len s.cap) 94 1 xs/\(xs.length+1)*24<=140737488355328/\xs.length<140737488355328/\∀(n:Sl)(f:MH),bV m f (Sl.mk s.a s.len s.cap) n 94 1 (xs++[[fF e]])->
  aK f hx c 0 [Value.map (some y)]/\aK f hx c 0 [Value.map (some y)]/\
 ∃(d:du)(Ok:Value->Prop),pG f y d/\KeyLaw Tryz.prog 9 Ok/\Ok (.string key)/\Instr.sameBits 10000 (Value.string key) (Value.string key)=true/\(∀e,List.Mem e d->Ok e.1)/\((∀e,List.Mem e d->e.1=Value.string key->False)->∀m':MH,j8 f m' y->pG m' y (d++[(Value.string key,fF n)])->Q m')/\
  ∀(B:du)(I:Value)(C:du),d=B++(Value.string key,I)::C->∀m':MH,j8 f m' y->pG m' y (B++(Value.string key,fF n)::C)->Q m':=by
 obtain⟨j,J⟩:=A.row g;refine⟨_,j,cg,cg,λn f D=>?_⟩
 have r:aK f hx c 0 [Value.map (some y)]:=.of_m (D.other c _ G λi M=>by
  grind) rfl
 exact⟨r,r,g.put E A D H⟩
theorem qK.get2{m0:MH}{y:Nat}{j:dy}{us:ByteArray->dq}{key:ByteArray}{K0:Prop}{K:Sl->Prop}(g:qK m0 m y j us)(o:EH j key ⟨none,0,0⟩->K0)(u:∀s,EH j key s->K s):
 ∃(d:List (Value×Sl))(Ok:Value->Prop),Cp m y (d.map λp=>(p.1,fF p.2))/\KeyLaw Tryz.prog 9 Ok/\Ok (.string key)/\(∀e,List.Mem e d->Ok e.1)/\((∀e,List.Mem e d->e.1=Value.string key->False)->K0)/\∀t,List.Mem (Value.string key,t) d->K t:=by
 obtain⟨z,c,A,B,_,_⟩:=g.map_;refine⟨j.map λp=>(.string p.1,p.2),_,⟨z,c,A,by rw[B];simp⟩,C9,⟨key,rfl⟩,λe C=>?_,λD=>o (.inl ⟨rfl,λh=>?_⟩),λt E=>u t (.inr ?_)⟩
 .obtain⟨k,_,rfl⟩:=mem_map.1 (show e∈_ from C)
  grind
 .obtain⟨p,n,e⟩:=mem_map.1 h;subst e;exact D (.string p.1,p.2) (mem_map_of_mem (f:=λp:ByteArray×Sl=>(Value.string p.1,p.2)) n) rfl
 .obtain⟨p,n,e⟩:=mem_map.1 (show(Value.string key,t)∈_ from E)
  grind
structure V1(m0 m:MH)(h:PH)(y:Nat)(f:ByteArray->dl):Prop where
 ex:∃kk us,qK m0 m y kk us/\∀k,dT h (us k) (f k)
theorem V1.upd{m0:MH}{y:Nat}{j:dy}{us:ByteArray->dq}{f c:ByteArray->dl}{key:ByteArray}{e:Sl}{r:dn}(g:qK m0 m' y j (Pc us key e))(n:∀k,dT h (us k) (f k))(o:bI h e r)(u:c key=f key++[r])(z:∀k,k≠key->c k=f k):V1 m0 m' h y c:=by
 refine⟨j,_,g,λk=>?_⟩;by_cases d:k=key
 .subst d;rw[u];have:Pc us k e k=us k++[e]:=if_pos rfl;rw[this];exact(n k).snoc o
 .rw[z k d];have:Pc us key e k=us k:=if_neg d
  grind
def kB(cols:dm)(r:dn):Bool:=(pick r cols).all jF
def jO(on:dp)(b:dl)(x:dn):dl:=
 if kB (fZ on) x then(b.filter λy=>kB (fU on) y&&agree on x y).map (x++ ·)else[]
def Ur(q:Query)(ls:List dl):dl:=match q with|.mk _ _ _ _ on _ _ _ _=>(ls.getD 0 []).flatMap (jO on (ls.getD 1 []))
def J3(q:Query)(ls:List dl):Prop:=match q with|.mk _ _ _ _ on _ _ _ _=>bLJ on ls/\(ls.getD 0 []).length*(ls.getD 1 []).length<=8000000
theorem vI{α β:Type}{f:α->List β}{n:Nat}:∀{l:List α},(∀x∈l,(f x).length<=n)->(l.flatMap f).length<=l.length*n
 |[],_=>bx
 |a::l,h=>by
  have d:=h a (mem_cons_self ..);have e:=vI (l:=l) λx c=>h x (mem_cons_of_mem _ c);simp only[flatMap_cons,ct,de,Nat.add_mul,Nat.one_mul];omega
theorem A1{α β:Type}{l:List α}{k:Nat}{x:α}(f:α->List β)(hx:l[k]? =some x):(l.take (k+1)).flatMap f=(l.take k).flatMap f++f x:=by
 rw[db,hx];simp
theorem zG{on:dp}{b:dl}{x:dn}:(jO on b x).length<=b.length:=by
 unfold jO;grind
def under(κ:dn->ByteArray)(cols:dm)(l:dl)(key:ByteArray):dl:=l.filter λz=>kB cols z&&decide (κ (pick z cols)=key)
theorem Ha{κ:dn->ByteArray}{cols:dm}{l:dl}{k:Nat}{r:dn}(c:l[k]? =some r)(key:ByteArray):under κ cols (l.take (k+1)) key=under κ cols (l.take k) key++(if kB cols r&&decide (κ (pick r cols)=key)then[r]else[]):=kA _ c
theorem Xl:di 236 (Tx J3 Ur):=by
 refine Jm func236 ?_;rintro f5 m h K ⟨v,t,q,bs,ls,rfl,hq,ha,hT,e0,hK⟩;refine⟨aMZ,rfl,aD Om (aD Ee (aD WY (aD XN aF))),KF v t m h (eX h K),bu,?_⟩;show KF v t m h (eX h K);dsimp only[KF,push_cast];obtain⟨op,ta,w,co,on,gr,od,li,args⟩:=q;obtain⟨⟨h2,wa,wb,F,d,e4,c6⟩,c7⟩:=e0;refine⟨v.on,on,rfl,hq.parts.on_,λsa sb h1 R c8 c9=>TL λb1 b2 y b7 m7 S=>?_⟩;obtain⟨b,off,x,ea,f6,rd,sq⟩:=ha.get (Al (i:=1) aC);obtain⟨b6,d',x6,e5,f2,e6,d0⟩:=ha.get (Al (i:=0) aC);obtain⟨d1,c',a'⟩:=(sq.mono R).ex;obtain⟨us,d2,c0⟩:=(d0.mono R).ex;simp only[Ur]at hK;generalize ls.getD 1 []=C at a' d hK sq c7;generalize ls.getD 0 []=l at c0 F hK d0 c7;have e9:=c0.len;have f7:=F.len;have f3:=d.len;have d3:=a'.len;have s7:=S.sub;have ny:=S.free;have b5:∀{Y kk us},qK m7 Y y kk us->Sub m Y:=λg z o D=>g.old z o (s7 z o D) (λe3=>cg);refine⟨b,off,ea,aC,aC,x,.imm (rd.mono R),xW,d1,λk Y hx=>hx=h1/\V1 m7 Y h1 y (under eF (fU on) (C.take k)),wZ,⟨x,d1,rfl,c',rfl⟩,⟨rfl,⟨[],_,qK.new S.y_,λk=>by simpa[under]using dT.nil h1⟩⟩,?_,?_⟩
 .rintro k e Y hx hk-⟨rfl,⟨kk,uk,g,hg⟩⟩
  obtain⟨r,hr,hv⟩:=a'.at' hk;have L:=cr hr;have T:gP r.length (fU on):=by rw[d.wid r L];exact c6
  have mc:=g.old b7 _ S.c_ S.yc;have E:aK Y hx b7 0 [Value.map (some y)]:=.of_m mc rfl;have rb:aK Y hx b2 0 [fF sb]:=.of_m (g.old b2 _ S.b_ S.yb) rfl;refine⟨sb,rb,e,sb,r,fU on,rfl,hv,c9,T,aB (λc=>?_) (λc=>?_)⟩
  .have hl:(uk (eF (pick r (fU on)))).length<=502633886983:=by
    have h5:=(hg (eF (pick r (fU on)))).len;have h6:(under eF (fU on) (C.take k) (eF (pick r (fU on)))).length<=(C.take k).length:=length_filter_le _ _
    grind
   have app:=fun{s:Sl}=>g.app (hx:=hx) (e:=e) (s:=s) (Q:=λm'=>hx=hx/\V1 m7 m' hx y (under eF (fU on) (C.take (k+1)))) ⟨_,S.y_⟩ ⟨_,S.c_⟩ mc hl (λm' f8 g'=>⟨rfl,V1.upd g' hg hv (by rw[Ha hr,if_pos];simpa[kB]using c) (λk2 f9=>by rw[Ha hr,if_neg,append_nil];grind)⟩);exact⟨sb,rb,e,sb,r,fU on,rfl,hv,c9,d.row r L,T,hT.sub (b5 g),y,E,y,E,⟨E,g.get2 (λU=>⟨E,E,E,E,app U⟩) (λs U=>⟨E,E,E,E,app U⟩)⟩,E,E,E,g.get2 (λU=>⟨E,E,app U⟩) (λs U=>⟨E,E,app U⟩)⟩
  .refine⟨rfl,⟨kk,uk,g,λk2=>?_⟩⟩;rw[Ha hr,if_neg,append_nil]
   .exact hg k2
   .simp[kB,c]
 .rintro Y hx-⟨rfl,gr⟩ Z m5 d4 a0;rw[d3,take_length]at gr
  have V:∀{z o},Y z=some o->m5 z=some o/\z≠Z:=fun{z o} D=>by
   have:z≠Z:=λe3=>by rw[e3,d4.m_]at D;cases D
   exact⟨by rw[a0.other z this];exact D,this⟩
  have s5:Sub m Y:=by
   obtain⟨kk,uk,g,_⟩:=gr.ex;exact b5 g
  obtain⟨s6,n7⟩:=kU s5 d4 a0;obtain⟨kk,uk,g,hg⟩:=gr.ex;refine⟨b6,d',e5,aC,aC,x6,.imm (e6.mono R),xW,us,λk my hy=>PH.le hx hy/\En m5 my Z/\∃M,pE m5 my Z M/\dT hy M ((l.take k).flatMap (jO on C)),wZ,⟨x6,us,rfl,d2,rfl⟩,⟨.refl _,λz o e _=>e,[],pE.new a0.at_,cm (dT.nil hx)⟩,?_,?_⟩
  .rintro k e my hy hk-⟨le,O,M,J,a6⟩
   obtain⟨r,hr,hv⟩:=c0.at' hk;have g0:=(cn hk);have L:=cr hr;have d5:∀z o,Y z=some o->my z=some o:=λz o D=>O z o (V D).1 (V D).2;have g7:=g.keep d5;have E:aK my hy b7 0 [Value.map (some y)]:=.of_m (g7.old b7 _ S.c_ S.yc) rfl;have r3:aK my hy b1 0 [fF sa]:=.of_m (g7.old b1 _ S.a_ S.ya) rfl;have T:gP r.length (fZ on):=by rw[F.wid r L];exact e4
   have c1:=bI.mono hv le;refine⟨sa,r3,e,sa,r,fZ on,rfl,c1,c8.mono le,T,aB (λc=>?_) (λc=>?_)⟩
   .refine⟨le,O,M,J,?_⟩;have:jO on C r=[]:=if_neg (by simpa[kB]using c);rw[A1 _ hr,this,append_nil];exact a6
   .have c:(pick r (fZ on)).all jF=true:=cg
    have f':under eF (fU on) C (eF (pick r (fZ on)))=C.filter λy=>kB (fU on) y&&agree on r y:=by
     refine filter_congr λz hz=>?_;congr 1;have h5:=Ki N0 (F.row r L) (d.row z hz) T (by rw[d.wid z hz];exact c6)
     grind
    have a9:jO on C r=(under eF (fU on) C (eF (pick r (fZ on)))).map (r++ ·):=by rw[f'];exact if_pos (by simpa[kB]using c)
    have d6:((l.take k).flatMap (jO on C)).length+(under eF (fU on) C (eF (pick r (fZ on)))).length<=8000000:=by
     have h5:((l.take (k+1)).flatMap (jO on C)).length<=(l.take (k+1)).length*C.length:=vI λx _=>zG;rw[A1 _ hr,ct,a9,length_map]at h5;have h6:(l.take (k+1)).length*C.length<=l.length*C.length:=Nat.mul_le_mul_right _ cg;omega
    have f4:∀s,EH kk (eF (pick r (fZ on))) s->cM Y s 94 1 ((uk (eF (pick r (fZ on)))).map eS):=λs U=>(U.row g).1;generalize hG:under eF (fU on) C (eF (pick r (fZ on)))=G at a9 d6;have b':=hg (eF (pick r (fZ on)));rw[hG]at b';have d7:=b'.len;refine⟨y,E,sa,r3,E,e,sa,r,fZ on,rfl,c1,c8.mono le,F.row r L,T,hT.sub (s6.x n7 O),E,r3,g7.get2 (λU=>?_) (λs U=>?_)⟩
    .refine⟨λz=>z.1<=G.length/\z.2.1=Z/\z.2.2.1=e/\z.2.2.2.1=(⟨none,0,0⟩:Sl)/\PH.le hy z.2.2.2.2.2/\En m5 z.2.2.2.2.1 Z/\∃n,pE m5 z.2.2.2.2.1 Z n/\dT z.2.2.2.2.2 n ((l.take k).flatMap (jO on C)++(G.take z.1).map (r++ ·)),λz=>G.length-z.1,⟨(0,Z,e,(⟨none,0,0⟩:Sl),my,hy),⟨bx,rfl,rfl,rfl,.refl _,O,M,J,cg⟩,MT⟩,?_⟩;rintro⟨i,bb,ee,gg,mz,hz⟩ ⟨hi,e1,D,e3,H,I,n,f,W⟩;dsimp only at hi e1 D e3 H I f W;subst e1 D e3;have gz:=g.keep (λz o D=>I z o (V D).1 (V D).2);have A:=(U.row gz).1;have c2:=A.slen;rw[length_map,d7]at c2;refine aE (λa1=>?_) (λc3=>?_)
     .dsimp only at a1⊢
      have b0:i<G.length:=by omega
      obtain⟨u,hu,d8⟩:=b'.at_ i _ (cq b0);obtain⟨b8,e8,f0⟩:=A.rd (h:=hz) (i:=i) (e:=[fF u]) aC;obtain⟨so,a2,P,a3⟩:=f.ex;have B:∀hh,aK mz hh bb 0 [fF so]:=λhh=>.of_m a2 rfl;have a4:=W.len;simp only[ct,length_map,length_take]at a4;refine⟨b8,0,e8,aC,aC,u,aC,so,B _,B _,B _,λs2 h3 X b3=>⟨s2,[r,G[i]],rfl,?_,bx,?_,λsl h4 b4 d9=>⟨B _,B _,Ii ⟨_,a0.at_⟩ I a2 P a3 aC (λm' c4 c5=>⟨(i+1,bb,ee,⟨none,0,0⟩,m',h4),⟨aC,rfl,rfl,rfl,H.trans (X.trans b4),c4,n++[sl],c5,?_⟩,aC,?_⟩)⟩⟩⟩
      .omega
      .omega
      .omega
      omega
     .dsimp only at c3⊢
      have:i=G.length:=cg
      subst this;refine⟨le.trans H,I,n,f,?_⟩;rw[A1 _ hr,a9]
      grind
    .refine⟨λz=>z.1<=G.length/\z.2.1=Z/\z.2.2.1=e/\z.2.2.2.1=s/\PH.le hy z.2.2.2.2.2/\En m5 z.2.2.2.2.1 Z/\∃n,pE m5 z.2.2.2.2.1 Z n/\dT z.2.2.2.2.2 n ((l.take k).flatMap (jO on C)++(G.take z.1).map (r++ ·)),λz=>G.length-z.1,⟨(0,Z,e,s,my,hy),⟨bx,rfl,rfl,rfl,.refl _,O,M,J,cg⟩,MT⟩,?_⟩;rintro⟨i,bb,ee,gg,mz,hz⟩ ⟨hi,e1,D,e3,H,I,n,f,W⟩;dsimp only at hi e1 D e3 H I f W;subst e1 D e3;have gz:=g.keep (λz o D=>I z o (V D).1 (V D).2);have A:=(U.row gz).1;have c2:=A.slen;rw[length_map,d7]at c2;refine aE (λa1=>?_) (λc3=>?_)
     .dsimp only at a1⊢
      have b0:i<G.length:=by omega
      obtain⟨u,hu,d8⟩:=b'.at_ i _ (cq b0);obtain⟨b8,e8,f0⟩:=A.rd (h:=hz) (i:=i) (e:=[fF u]) (by rw[getElem?_map,hu];rfl);obtain⟨so,a2,P,a3⟩:=f.ex;have B:∀hh,aK mz hh bb 0 [fF so]:=λhh=>.of_m a2 rfl;have a4:=W.len;simp only[ct,length_map,length_take]at a4;refine⟨b8,0,e8,aC,aC,u,cg,so,B _,B _,B _,λs2 h3 X b3=>⟨s2,[r,G[i]],rfl,?_,bx,?_,λsl h4 b4 d9=>⟨B _,B _,Ii ⟨_,a0.at_⟩ I a2 P a3 aC (λm' c4 c5=>⟨(i+1,bb,ee,gg,m',h4),⟨aC,rfl,rfl,rfl,H.trans (X.trans b4),c4,n++[sl],c5,?_⟩,aC,?_⟩)⟩⟩⟩
      .refine dT.rows (us:=[ee,u]) ?_ b3 bx;refine⟨rfl,λj z hj=>?_⟩
       match j,hj with
       |0,hj=>
        simp at hj;subst hj;exact⟨ee,rfl,bI.mono c1 (H.trans X)⟩
       |1,hj=>
        simp at hj;subst hj;exact⟨u,rfl,bI.mono d8 (le.trans (H.trans X))⟩
      .intro z a5;have a5:z∈[r,G[i]]:=a5;rcases mem_cons.1 a5 with rfl|a5
       .exact(F.row _ L).len
       .have e7:=mem_singleton.1 a5
        have:z∈C:=by
         grind
        exact(d.row _ this).len
      .have e7:(G.take (i+1)).map (r++ ·)=(G.take i).map (r++ ·)++[r++G[i]]:=by rw[db,cq b0,cv];rfl
       rw[e7, <-append_assoc];exact(W.mono (X.trans b4)).snoc cg
      .dsimp only;exact⟨rfl,rfl,rfl,rfl,by rw[fP aC],rfl,rfl,trivial⟩
     .dsimp only at c3⊢
      have:i=G.length:=by omega
      subst this;refine⟨le.trans H,I,n,f,?_⟩;rw[A1 _ hr,a9]
      grind
  .rintro my hy g1 ⟨le,O,M,J,a6⟩;rw[e9,take_length]at a6;obtain⟨s,hb,A,f1⟩:=J.ex;refine⟨s,.of_m hb rfl,eX.row (s6.x n7 O) (R.trans le) A (λj z e=>?_) (λh' e' b3=>hK s h' (R.trans (le.trans e')) ((a6.mono e').rows b3 ?_))⟩
   .cases D:m z with
    |none=>rfl
    |some o=>have e1:=f1 j z e;rw[s6 z o D]at e1;cases e1
   .have h5:(l.flatMap (jO on C)).length<=l.length*C.length:=vI λx _=>zG;omega
noncomputable def aKQ:Ctx:=SS [(271,a9J),(189,a4J)] [(7,{A:=Nat×Nat×Nat×MH×PH,st:=λ⟨b,c,r,m,h⟩=>bK 35 37 [(2,vv (.pointer (some ⟨b,0,none⟩))),(5,vv (.pointer (some ⟨c,0,none⟩))),(26,vv (.pointer (some ⟨r,0,none⟩)))] [] m h})] [] [200002,200005,1053,400000,0]
noncomputable abbrev mV(a:Nat×Nat×Nat×MH×PH):Nat×MH×PH:=a.2.2
abbrev NL(a:Nat->du->du->Prop):Prop:=∃(x:Nat)(c d:du),a x c d
attribute [push_cast] mV NL
def Kx(v:QV)(u:Nat)(m:MH)(h:PH)(K:dk):Prop:=
  ∀(b:Nat)(U:MH),aT (dZ m h b) (bL m U b v.enc 38) (DF U h 0 (λb1 m2=>DS m2 h 173 (λA V=>gE (λc E=>aA (sK V A (fC c E 0)) (fE 0 c) (∀(W:MH),bL V W A (jC (Value.map (Option.some b1)) 1 c) E->∃(S:PH->dj->List dj->Prop),tZ S h u W (λI k e g d=>I k g d->kW g d b 17 (λy=>∃(s:Sl),Br (λt r B=>aA (fN e y=fN s t) (bI d s r) (aA (Ints d t B) (Pq r) (aA (lW r B) (jV g) (∃(f:Nat),aK g d A 0 (qW f)/\∃(F:Nat),aA (dP g d A F) (aK g d A 0 (qW f)/\Az g F r B (J9 (dP g d A f) (dP g d A F) (dP g d A f) (dP g d A F) (λx=>aA (cM g lH 94 1 x) (iS x) (dH x/\fX (λD z=>bV g z lH D 94 1 (dY x (aM
 e))->aA (dP z d A f) (dP z d A F) (wE z f (λO=>O) (λO=>O (dU r B)) (dU r B) (λC=>C) (λj=>j) (λj C=>rX (List.Mem C j) (C.1=dU r B)) (λj=>∀(n:MH),aT (j8 z n f) (pG n f (j++Ac (dU r B) (fF D))) (I (cE k) n d)) (λj l H G=>j=l++mW (dU r B) H G->∀(n:MH),aT (j8 z n f) (pG n f (l++mW (dU r B) (fF D) G)) (I (cE k) n d))))))) (λP=>J9 (dP g d A f) (dP g d A F) (dP g d A f) (dP g d A F) (λx=>aA (cM g (bD P) 94 1 x) (iS x) (dH x/\fX (λD z=>bV g z (bD P) D 94 1 (dY x (aM e))->aA (dP z d A f) (dP z d A F) (wE z f (λO=>O) (λO=>O (dU r B)) (dU r B) (λC=>C) (λj=>
 j) (λj C=>rX (List.Mem C j) (C.1=dU r B)) (λj=>∀(n:MH),aT (j8 z n f) (pG n f (j++Ac (dU r B) (fF D))) (I (cE k) n d)) (λj l H G=>j=l++mW (dU r B) H G->∀(n:MH),aT (j8 z n f) (pG n f (l++mW (dU r B) (fF D) G)) (I (cE k) n d)))))))) (aA (dP g d A f) (dP g d A F) (aK g d A 0 (qW f)/\Az g F r B (u9 (dP g d A f) (dP g d A F) (λx=>aA (cM g lH 94 1 x) (iS x) (dH x/\fX (λD z=>bV g z lH D 94 1 (dY x (aM e))->aA (dP z d A f) (dP z d A F) (wE z f (λO=>O) (λO=>O (dU r B)) (dU r B) (λC=>C) (λj=>j) (λj C=>rX (List.Mem C j) (C.1=dU r B)) (λj=>∀(n:MH),aT (j8 z n f)
 (pG n f (j++Ac (dU r B) (fF D))) (I (cE k) n d)) (λj l H G=>j=l++mW (dU r B) H G->∀(n:MH),aT (j8 z n f) (pG n f (l++mW (dU r B) (fF D) G)) (I (cE k) n d))))))) (λP=>u9 (dP g d A f) (dP g d A F) (λx=>aA (cM g (bD P) 94 1 x) (iS x) (dH x/\fX (λD z=>bV g z (bD P) D 94 1 (dY x (aM e))->aA (dP z d A f) (dP z d A F) (wE z f (λO=>O) (λO=>O (dU r B)) (dU r B) (λC=>C) (λj=>j) (λj C=>rX (List.Mem C j) (C.1=dU r B)) (λj=>∀(n:MH),aT (j8 z n f) (pG n f (j++Ac (dU r B) (fF D))) (I (cE k) n d)) (λj l H G=>j=l++mW (dU r B) H G->∀(n:MH),aT (j8 z n f) (pG n f (l++mW
 (dU r B) (fF D) G)) (I (cE k) n d))))))))))))))) (λg d=>∃(y:Nat),aK g d A 0 (qW y)/\∃(k:du),mD (pG g y k) (λr=>∀(z:MH),aT (dZ g d r) (j8 g z r) (lK z y r k k->∃(I:Nat×Nat×Nat×MH×PH->Prop)(n:Nat×Nat×Nat×MH×PH->Nat),(∃(x:Nat×Nat×Nat×MH×PH),aA (I x) (fO b x.1) (aA (fO A x.2.1) (fO r (mV x).1) (bE (cW z (mV x).2) d (dO (mV x)))))/\∀(x:Nat×Nat×Nat×MH×PH),I x->NL (λX j l=>aA (lK (fV (mV x)) X (mV x).1 j l) (l=[]->∃(f:Nat),aK (fV (mV x)) (dO (mV x)) x.2.1 0 (qW f)/\K (CV.val (Value.map (Option.some f))) (fV (mV x)) (dO (mV x))) (∀(G:du)(Y:Value×Value)(Z:du),l=G++Y::Z
 ->∀(M:MH),aT (j8 (fV (mV x)) M (mV x).1) (Es M X (mV x).1 j (G++Z) Y) (NL (λb4 k2 l3=>∃(x2:Value×Value),Es M b4 (mV x).1 k2 l3 x2/\∃(s:Sl)(Q:Nat)(H:QV)(o:dr)(w:Nat)(p:en),aA (bJ (CV.val x2.2) (CV.val (Value.func (Fn.func 293) vG (Dm x.1)))=dW s (CV.val (Value.func (Fn.func 293) vG (Dm Q)))) (M Q=Option.some (fC (Array.mk H.enc) 38 0)) (aA (∀(i:Nat),kF (bX s.a Q i)) (jU (dO (mV x)) H.order o) (aA (Iz M s 1 p) (∀(J:Sl×dn),List.Mem J p->bI (dO (mV x)) J.1 J.2) (aA (∀(J:Sl×dn),List.Mem J p->J.2.length=w) (gS p.length) (∀(J:en)(R:MH),aT (List.Perm J p) (List.Pairwise (fun(p2:Sl×dn)=>fun(q:Sl×dn)=>¬(iZ o
 q.2 p2.2<0)) J) (aT (Iz R s 1 J) (∀(T:Nat),(∀(i:Nat),kF (bX s.a T i))->R T=M T) (∃(L:Nat×Nat×Nat×MH×PH),aA (I L) (n L<n x) (aA (fO x.1 L.1) (fO x.2.1 L.2.1) (bG (fO (mV x).1 (mV L).1) (cW R (mV L).2) (dO (mV x)=dO (mV L))))))))))))))))))))))
def nG(κ:dn->ByteArray)(gr:dm)(l:dl)(k:ByteArray):dl:=l.filter λz=>decide (κ (pick z gr)=k)
def sX(od:dr)(l:dl):Prop:=l.Pairwise λa b=>¬iZ od b a<0
structure tM(κ:dn->ByteArray)(m:MH)(h:PH)(y:Nat)(gr:dm)(od:dr)(l:dl)(kk:dy)(g:ByteArray->dl):Prop where
 map_:pG m y (kk.map λp=>(Value.string p.1,fF p.2))
 nodup:(kk.map Prod.fst).Nodup
 rows:∀p∈kk,Rows h p.2 (g p.1)
 none_:∀k,k∉kk.map Prod.fst->g k=[]
 perm:∀k,(g k).Perm (nG κ gr l k)
 sort:∀k,sX od (g k)
def Tm:Vc.Spec:=λc m h K=>∃v u gr od l w,c=[aQ v,.val (.func (.func 233) #[] #[.pointer (some ⟨u,0,none⟩)])]/\Ints h v.group gr/\jU h v.order od/\Pp h u l/\jG w l/\gP w gr/\jV m/\
 ∀y d e f g,m y=none->(∀b,b≠y->d b=m b)->PH.le h e->tM eF d e y gr od l f g->K (.val (.map (some y))) d e
structure bBX(m:MH)(h:PH)(od:dr)(p:ByteArray×Sl)(f:ByteArray->dl)(st:Prop):Prop where
 ex:∃ps:en,cM m p.2 94 1 (ps.map λq=>eS q.1)/\(∀q∈ps,bI h q.1 q.2)/\(ps.map Prod.snd).Perm (f p.1)/\(st->sX od (ps.map Prod.snd))
noncomputable def leftOf(m:MH)(r:Nat):Nat:=match m r with
 |some (.mapIter (some b) _ c _)=>(match m b with|some (.map d _)=>(d.toList.filter λe=> !c.contains e.born).length|_=>0)
 |_=>0
theorem lK.left_{r:Nat}{d left:du}(i:lK m b r d left):leftOf m r=left.length:=by
 obtain⟨n,c,e,f,o,g,_,_,_,j,_,_,_,u⟩:=i.ex;simp only[leftOf,j,g]
 grind
theorem lK.mem{r:Nat}{d left:du}(i:lK m b r d left){x:Value×Value}(hx:x∈left):x∈d:=by
 obtain⟨g,c,e,f,j,n,o,_,_,u,_,_,_,y⟩:=i.ex
 grind
theorem lK.keep{r:Nat}{e left:du}(i:lK m b r e left)(n:m' b=m b)(o:m' r=m r):lK m' b r e left:=by
 obtain⟨g,c,d,f,j,u,y⟩:=i.ex;exact⟨g,c,d,f,j,cg,cg⟩
theorem lK.nodup{r:Nat}{d left:du}(i:lK m b r d left)(g:d.Nodup):left.Nodup:=by
 obtain⟨j,c,e,f,n,o,u,_,_,y,_,_,_,z⟩:=i.ex
 grind
theorem bSJ{us:dq}{rs:dl}(c:dT h us rs):∃ps:en,ps.map Prod.fst=us/\ps.map Prod.snd=rs/\∀q∈ps,bI h q.1 q.2:=by
 refine⟨us.zip rs,map_fst_zip (Nat.le_of_eq c.len),map_snd_zip (Nat.le_of_eq c.len.symm),λq e=>?_⟩;obtain⟨i,d⟩:=mem_iff_getElem?.1 e;rw[getElem?_zip_eq_some]at d;obtain⟨u,f,g⟩:=c.at_ i _ d.2
 grind
theorem cM.ice{s:Sl}{us:dq}(n:cM m s 94 1 (us.map eS))(E:∀b c,s.a=some ⟨b,0,none⟩->m b=some (.cells c 94 (0,0))->∀i,h b i=c[i]?):bN h s 1 (us.map eS):=by
 rcases n.ex with⟨rfl,f⟩|⟨b,y,c,rfl,F,z,G,H,I⟩
 .rw[f];exact bN.nil _ _
 .refine⟨bx,?_,z⟩;by_cases J:us.map eS=[]
  .grind
  .refine .inr ⟨b,0,rfl,λi e d=>⟨λj v o=>?_⟩⟩;have A:=n.rows.len e (cr d);have B:j=0:=cg
   subst B;have C:=(cn d)
   have L:((us.map eS).flatten)[i]? =some v:=by
    rw[getElem?_map]at d;cases g:us[i]? with
    |none=>grind
    |some u=>
     rw[g]at d;simp at d;subst d;simp[eS]at o;subst o
     have:∀l:dq,(l.map eS).flatten=l.map λu=>Value.slice u.a u.len u.cap:=λl=>by
      induction l with
      |nil=>rfl
      |cons a l D=>simp only[map_cons,flatten_cons,D];rfl
     grind
   grind
theorem SJ{c:dy}(f:(c.map Prod.fst).Nodup){p q:ByteArray×Sl}(d:p∈c)(g:q∈c)(e:p.1=q.1):p=q:=by
 induction c with
 |nil=>cases d
 |cons a c j=>
  grind
theorem Uz{κ:dn->ByteArray}{P U D:MH}{C:PH}{y r:Nat}{l:dl}{d:dy}{uk:ByteArray->dq}(V:Sub m P)(ny:m y=none)(m4y:P y=some (.map #[] 0))(g:qK P U y d uk)(hg:∀k,dT C (uk k) (nG κ gr l k))(le:PH.le h C)(a1:l.length<=8000000)
 (W:∀b o,U b=some o->(∀p∈d,∀i,p.2.a≠some ⟨b,i,none⟩)->D b=some o)(X:lK D y r (d.map λp=>(Value.string p.1,fF p.2)) [])(u:∀p∈d,bBX D C od p (nG κ gr l) ((Value.string p.1,fF p.2)∉([]:du)))
 (hK:∀y m2 f d g,m y=none->(∀b,b≠y->m2 b=m b)->PH.le h f->tM κ m2 f y gr od l d g->K (.val (.map (some y))) m2 f):eX h K (.val (.map (some y))) D C:=by
 intro hd;have E:∀b o,P b=some o->∀p∈d,∀i,p.2.a≠some ⟨b,i,none⟩:=λb o e p n i L=>by rw[g.fresh p n b i L]at e;cases e
 have M:Sub m U:=λz o L=>g.old z o (V z o L) (λe3=>cg)
 classical
 let B:Nat->Prop:=λb=>∃p∈d,p.2.a=some ⟨b,0,none⟩
 have hB:∀b,B b->m b=none/\b≠y/\∀i,C b i=none:=by
  rintro b ⟨p,n,e⟩;obtain⟨ps,F,_⟩:=(u p n).ex;refine⟨?_,λL=>?_,hd b _ (F.blk e).choose_spec⟩
  .cases L:m b with
   |none=>rfl
   |some o=>exact(E b o (V b o L) p n 0 e).elim
  grind
 let f:PH:=λb i=>if B b then(match D b with|some (.cells cs _ _)=>cs[i]? |_=>none)else C b i
 have I:PH.le C f:=⟨λb i v e=>by
  grind⟩
 have a2:∀p∈d,∃G,Rows f p.2 G/\G.Perm (nG κ gr l p.1)/\sX od G:=λp n=>by
  obtain⟨ps,F,h3,h4,J⟩:=(u p n).ex;refine⟨ps.map Prod.snd,?_,h4,J bx⟩;have e5:(ps.map λq=>eS q.1)=(ps.map Prod.fst).map eS:=by rw[map_map];rfl
  rw[e5]at F
  have Y:bN f p.2 1 ((ps.map Prod.fst).map eS):=cM.ice F λb O Z Q i=>by
   show(if B b then _ else C b i)=_;rw[if_pos ⟨p,n,Z⟩,Q]
  refine dT.rows (us:=ps.map Prod.fst) ⟨bx,λj x R=>?_⟩ Y ?_
  .rw[getElem?_map]at R;cases S:ps[j]? with
   |none=>grind
   |some q=>
    rw[S]at R;have R:q.2=x:=cg
    exact⟨q.1,cg,R▸bI.mono (h3 q (cr S)) I⟩
  .have:=h4.length_eq;have h6:(nG κ gr l p.1).length<=l.length:=length_filter_le _ _;omega
 let G:ByteArray->dl:=λk=>if e:∃p G,p∈d/\p.1=k/\Rows f p.2 G/\G.Perm (nG κ gr l p.1)/\sX od G then e.choose_spec.choose else[]
 have hG:∀p∈d,Rows f p.2 (G p.1)/\(G p.1).Perm (nG κ gr l p.1)/\sX od (G p.1):=λp n=>by
  have ex:∃A G,A∈d/\A.1=p.1/\Rows f A.2 G/\G.Perm (nG κ gr l A.1)/\sX od G:=by
   grind
  have S:G p.1=ex.choose_spec.choose:=dif_pos ex;rw[S];obtain⟨J,h6,h7⟩:=ex.choose_spec.choose_spec
  have tr:∀A G',A∈d->A.1=p.1->(Rows f A.2 G'/\G'.Perm (nG κ gr l A.1)/\sX od G')->Rows f p.2 G'/\G'.Perm (nG κ gr l p.1)/\sX od G':=λA G' F f h3=>by
   have e7:=SJ g.nodup F n f
   grind
  grind
 have hN:∀k,k∉d.map Prod.fst->G k=[]/\nG κ gr l k=[]:=λk H=>by
  refine⟨dif_neg ?_,?_⟩
  .grind
  .have J:=(hg k).len;rw[g.none_ k H]at J
   grind
 obtain⟨es,c,a',a0,c0,i1,i2,i3,i4,_⟩:=X.ex;refine⟨λb=>if b=y then D y else m b,f,λb o e=>?_,le.trans I,λb i v' e=>?_,hK y _ f d G ny (λb T=>if_neg T) (le.trans I) ⟨⟨es,c,(if_pos rfl).trans i1,i2,i3,i4⟩,g.nodup,λp n=>(hG p n).1,λk H=>(hN k H).1,λk=>?_,λk=>?_⟩⟩
 .have e:(if b=y then D y else m b)=some o:=e;split at e
  .grind
  .exact W b o (M b o e) (E b o (V b o e))
 .have e:(if B b then _ else C b i)=some v':=e;split at e
  .rename_i T;have J:=hB b T;obtain⟨p,n,Z⟩:=T;obtain⟨ps,F,_⟩:=(u p n).ex;obtain⟨O,Q⟩:=F.blk Z;rw[Q]at e;refine .inr ⟨O,94,(0,0),Q,e,?_⟩;show(if b=y then D y else m b)=none;rw[if_neg J.2.1];exact J.1
  grind
 .by_cases H:k∈d.map Prod.fst
  .obtain⟨p,n,rfl⟩:=mem_map.1 H
   grind
  grind
 .by_cases H:k∈d.map Prod.fst
  .obtain⟨p,n,rfl⟩:=mem_map.1 H
   grind
  .rw[(hN k H).1];exact List.Pairwise.nil
theorem Uy{κ:dn->ByteArray}{W L M O:MH}{Y:PH}{y r w:Nat}{gr:dm}{od:dr}{l:dl}{n:dy}{uk:ByteArray->dq}{left Z l2:du}{x:Value×Value}(m4y:W y=some (.map #[] 0))(g:qK W L y n uk)(P:jG w l)(a6:L r=none)
 (a9:∀b o,L b=some o->(∀p∈n,∀i,p.2.a≠some ⟨b,i,none⟩)->M b=some o)(Q:lK M y r (n.map λp=>(Value.string p.1,fF p.2)) left)(E:∀p∈n,bBX M Y od p (nG κ gr l) ((Value.string p.1,fF p.2)∉left))(a':left=Z++x::l2)(D:j8 M O r)(a0:Es O y r (n.map λp=>(Value.string p.1,fF p.2)) (Z++l2) x):
 ∃(c:ByteArray×Sl)(ps:en),x=(Value.string c.1,fF c.2)/\(∀b o,W b=some o->b≠y->O b=some o/\∀i,c.2.a≠some ⟨b,i,none⟩)/\cM O c.2 94 1 (ps.map λp:Sl×dn=>eS p.1)/\(∀p∈ps,bI Y p.1 p.2)/\(∀p∈ps,p.2.length=w)/\ps.length<=l.length/\
  ∀(u:en)(F:MH),u.Perm ps->u.Pairwise (λp q=>¬iZ od q.2 p.2<0)->cM F c.2 94 1 (u.map λp=>eS p.1)->(∀b,(∀i,c.2.a≠some ⟨b,i,none⟩)->F b=O b)->
   (∀b o,L b=some o->(∀p∈n,∀i,p.2.a≠some ⟨b,i,none⟩)->F b=some o)/\(∃left,lK F y r (n.map λp=>(Value.string p.1,fF p.2)) left/\∀p∈n,bBX F Y od p (nG κ gr l) ((Value.string p.1,fF p.2)∉left))/\leftOf F r<leftOf M r:=by
 have H:∀p∈n,∀x i,p.2.a=some ⟨x,i,none⟩->∃o,L x=some o:=λp C x i X=>⟨_,((g.row p C).blk X).choose_spec⟩
 have I:∀{z o},L z=some o->z≠r:=fun{z o} X e3=>cg
 have a1:x∈left:=cg
 obtain⟨c,d,rfl⟩:=mem_map.1 (lK.mem Q a1);obtain⟨ps,h1,h3,h4,h5⟩:=(E c d).ex;have G:∀b o,W b=some o->∀p∈n,∀i,p.2.a≠some ⟨b,i,none⟩:=λb o e p C i X=>by rw[g.fresh p C b i X]at e;cases e
 have A:∀p∈n,∀b i,p.2.a=some ⟨b,i,none⟩->b≠r:=λp C b i e=>I (H p C b i e).choose_spec;have R:=h4.length_eq;have a2:(nG κ gr l c.1).length<=l.length:=length_filter_le _ _;rw[length_map]at R;refine⟨c,ps,rfl,λb o e a3=>⟨?_,G b o e c d⟩,cM.keep h1 λb i e=>D.other b (A c d b i e),h3,λq hq=>?_,aC,λu F B a4 J f=>?_⟩
 .have mb:=g.old b o e a3;rw[D.other b (I mb)]
  grind
 .have:q.2∈nG κ gr l c.1:=h4.mem_iff.1 (mem_map_of_mem hq);exact P.wid _ (mem_filter.1 this).1
 .have S:∀i,c.2.a≠some ⟨y,i,none⟩:=G y _ m4y c d;have T:∀i,c.2.a≠some ⟨r,i,none⟩:=λi e=>A c d r i e rfl;have U:lK F y r (n.map λp=>(Value.string p.1,fF p.2)) (Z++l2):=lK.keep a0.it (f y S) (f r T);refine⟨λb o e hb=>?_,⟨_,U,λp C=>?_⟩,?_⟩
  .rw[f b (hb c d),D.other b (I e)]
   grind
  .by_cases V:p=c
   .subst V;refine⟨u,J,λq hq=>h3 q (B.mem_iff.1 hq),(B.map _).trans h4,λ_=>?_⟩;rw[sX,pairwise_map];omega
   .have a5:p.1≠c.1:=λe=>V (SJ g.nodup C d e);obtain⟨qs,g1,g3,g4,g5⟩:=(E p C).ex;refine⟨qs,cM.keep g1 λb i e=>?_,g3,g4,λhn=>g5 λhl=>hn ?_⟩
    .rw[f b (λj=>g.apart p C c d a5 b i j e),D.other b (A p C b i e)]
    grind
  .rw[lK.left_ U,lK.left_ Q,a'];simp
theorem Oi:di 275 Tm:=by
 refine Jm func275 ?_;rintro d' m h K ⟨v,u,gr,od,l,w,rfl,c',c0,sq,d,S,hT,hK⟩;refine⟨aKQ,rfl,aD Ee (aD Vg aF),Kx v u m h (eX h K),bu,?_⟩;show Kx v u m h (eX h K);dsimp only[Kx,push_cast];intro n m1 a3 F y m2 T A P m3 G B;obtain⟨s1,nq⟩:=kU (Sub.refl m) a3 F;obtain⟨s2,ny⟩:=kU s1 T A;obtain⟨s3,nc⟩:=kU s2 G B;have H:n≠y:=λe=>by have:=T.m_;rw[<-e,F.at_]at this;cases this
 have a4:m2 n=some (.cells ⟨QV.enc v⟩ 38 (0,0)):=by rw[A.other n H];exact F.at_
 have a5:n≠P:=λe=>by have:=G.m_;grind
 have I:y≠P:=λe=>by have:=G.m_;rw[<-e,A.at_]at this;cases this
 refine⟨_,_,⟨B.at_⟩,bx,λR C=>?_⟩;have s4:Sub m R:=s3.upd nc C.other;have U:R n=some (.cells ⟨QV.enc v⟩ 38 (0,0)):=by rw[C.other n a5,B.other n a5];exact a4
 have m4y:R y=some (.map #[] 0):=by rw[C.other y I,B.other y I];exact A.at_
 have J:R P=some (.cells #[.map (some y)] 173 (0,0)):=C.at_;obtain⟨us,a6,a9⟩:=sq.ex;have c1:=a9.len;have c2:=d.len;clear F A B C a3 T G s1 s2 s3 a4;have b':∀{j L us},qK R j y L us->Sub m j:=λg z o D=>g.old z o (s4 z o D) (λe3=>cg);refine⟨xW,us,λk j hx=>hx=h/\V1 R j h y (nG eF gr (l.take k)),wZ,⟨u,us,rfl,a6,rfl⟩,⟨rfl,⟨[],_,qK.new m4y,λk=>by simpa[nG]using dT.nil h⟩⟩,?_,?_⟩
 .rintro k e j hx hk-⟨rfl,⟨L,uk,g,hg⟩⟩
  obtain⟨r,hr,hv⟩:=a9.at' hk;have b0:=cr hr;have mc:=g.old P _ J (Ne.symm I);have c:aK j hx P 0 [Value.map (some y)]:=.of_m mc rfl;have rq:aK j hx n 17 [fF v.group]:=.of_m (g.old n _ U H) rfl
  have hl:(uk (eF (pick r gr))).length<=502633886983:=by
   have h5:=(hg (eF (pick r gr))).len;have h6:(nG eF gr (l.take k) (eF (pick r gr))).length<=(l.take k).length:=length_filter_le _ _
   grind
  have app:=fun{s:Sl}=>g.app (hx:=hx) (e:=e) (s:=s) (Q:=λm'=>hx=hx/\V1 R m' hx y (nG eF gr (l.take (k+1)))) ⟨_,m4y⟩ ⟨_,J⟩ mc hl (λm' d0 g'=>⟨rfl,V1.upd g' hg hv (by rw[nG,kA _ hr,if_pos bx];rfl) (λk2 d1=>by rw[nG,kA _ hr,if_neg cg,append_nil];rfl)⟩);exact⟨v.group,rq,e,v.group,r,gr,rfl,hv,c',d.row r b0,by rw[d.wid r b0];exact S,hT.sub (b' g),y,c,y,c,⟨c,g.get2 (λV=>⟨c,c,c,c,app V⟩) (λs V=>⟨c,c,c,c,app V⟩)⟩,c,c,c,g.get2 (λV=>⟨c,c,app V⟩) (λs V=>⟨c,c,app V⟩)⟩
 .rintro j hx-⟨rfl,⟨L,uk,g,hg⟩⟩
  rw[c1,take_length]at hg;have mc:=g.old P _ J (Ne.symm I);have mq:=g.old n _ U H;refine⟨y,.of_m mc rfl,_,g.map_,λr m5 c3 c4 it=>?_⟩;have c5:j r=none:=c3.m_
  have b4:∀{z o},j z=some o->m5 z=j z/\z≠r:=fun{z o} D=>by
   have:z≠r:=λe3=>cg
   exact⟨c4.other z this,this⟩
  have W:∀p∈L,∀x i,p.2.a=some ⟨x,i,none⟩->∃o,j x=some o:=λp X x i D=>⟨_,((g.row p X).blk D).choose_spec⟩
  have c6:(L.map λp=>(Value.string p.1,fF p.2)).Nodup:=by
   have h5:=g.nodup
   grind
  refine⟨λz=>z.1=n/\z.2.1=P/\z.2.2.1=r/\z.2.2.2.2=hx/\(∀b o,j b=some o->(∀p∈L,∀i,p.2.a≠some ⟨b,i,none⟩)->z.2.2.2.1 b=some o)/\∃left,lK z.2.2.2.1 y r (L.map λp=>(Value.string p.1,fF p.2)) left/\∀p∈L,bBX z.2.2.2.1 hx od p (nG eF gr l) ((Value.string p.1,fF p.2)∉left),λz=>leftOf z.2.2.2.1 z.2.2.1,⟨(n,P,r,m5,hx),⟨rfl,rfl,rfl,rfl,λb o e _=>(b4 e).1.trans e,_,it,λp X=>?_⟩,MT⟩,?_⟩
  .obtain⟨ps,e1,D,e3⟩:=bSJ (hg p.1);refine⟨ps,?_,e3,by rw[D],λhn=>(hn (mem_map_of_mem (f:=λp:ByteArray×Sl=>(Value.string p.1,fF p.2)) X)).elim⟩;have e5:(ps.map λq=>eS q.1)=(uk p.1).map eS:=by rw[<-e1,map_map];rfl
   rw[e5];exact cM.keep (g.row p X) λb i e=>(b4 (W p X b i e).choose_spec).1
  .rintro⟨b1,b2,b3,mz,hz⟩ ⟨e1,D,e3,e4,M,left,O,E⟩;dsimp only at e1 D e3 e4 M O E⊢
   subst e1 D e3 e4;refine⟨y,_,left,O,λY=>?_,λl1 x l2 c7 m6 c8 b5=>?_⟩
   .have b6:∀b o,R b=some o->∀p∈L,∀i,p.2.a≠some ⟨b,i,none⟩:=λb o e p X i D=>by rw[g.fresh p X b i D]at e;cases e
    subst Y;exact⟨y,.of_m (M b2 _ mc (b6 b2 _ J)) rfl,Uz s4 ny m4y g hg (.refl _) c2 M O E hK⟩
   .obtain⟨p0,ps,rfl,b7,b8,hv,hw,d2,Z⟩:=Uy (m4y:=m4y) g d c5 M O E c7 c8 b5;have hb:=b7 b1 _ U H;refine⟨y,_,_,_,b5,p0.2,b1,v,od,w,ps,rfl,hb.1,hb.2,c0,b8,hv,hw,aC,λc9 m7 a' a0 a1 b9=>?_⟩;obtain⟨k1,⟨a2,k2,k3⟩,k4⟩:=Z c9 m7 a' a0 a1 b9;exact⟨(b1,b2,b3,m7,hz),⟨rfl,rfl,rfl,rfl,k1,a2,k2,k3⟩,k4,rfl,rfl,rfl,rfl,rfl,trivial⟩
noncomputable def aMX:Ctx:=SS [(275,Tm),(115,bAZ)] [(3,{A:=Nat×Sl×Nat×MH×PH,st:=λ⟨b,s,r,m,h⟩=>bK 29 31 [(2,vv (.pointer (some ⟨b,0,none⟩))),(5,sv s),(13,vv (.pointer (some ⟨r,0,none⟩)))] [] m h})] [(5,{A:=Nat×Sl×Sl×Nat×MH×PH,st:=λ⟨b,s,g,r,m,h⟩=>bK 29 31 [(2,vv (.pointer (some ⟨b,0,none⟩))),(5,sv s),(7,sv g),(13,vv (.pointer (some ⟨r,0,none⟩)))] [] m h})] [200002,1053,0]
abbrev Mq(a:Nat)(b:dl)(c:dm)(d:MH)(e g:Nat->Nat)(i:MH->MH)(j:Nat->MH->PH->dy->(ByteArray->dl)->Prop):Prop:=aA (jG a b) (gP a c) (jV d/\∀(x:Nat),gU (λn o=>∀(u:dy)(y:ByteArray->dl),aT (DX d (e x)) (∀(f:Nat),kF (g f=e x)->(i n) (g f)=d (g f)) (j x n o u y)))
noncomputable abbrev oU(a:Nat×Sl×Nat×MH×PH):Nat×MH×PH:=a.2.2
noncomputable abbrev B4(a:Nat×Sl×Sl×Nat×MH×PH):Sl:=a.2.2.1
noncomputable abbrev uF(a:Nat×Sl×Sl×Nat×MH×PH):Nat×MH×PH:=a.2.2.2
noncomputable abbrev oH(a:Sl)(b:Int):Int:=ite (aH a<b) (aH a) b
attribute [push_cast] Mq oU B4 uF oH
def KC(v:QV)(t:Sl)(m:MH)(h:PH)(K:dk):Prop:=
  ∀(b:Nat)(C:MH),aT (dZ m h b) (bL m C b v.enc 38) (∃(y:QV),aK C h b 0 y.enc/\bT (λD o=>aA (bX t.a D o) ((0:Int)<=0) (0<aH t/\∃(E:Nat),aK C h D (cZ o) (vY E)/\∃(J:QV)(u:Nat),Fa (λg O=>∃(l:dl)(w:Nat),aA (bJ (dE y) (rD E)=bJ (dE J) (rD u)) (Ints h J.group g) (aA (jU h J.order O) (Pp h u l) (Mq w l g C (λz=>z) (λF=>F) (λe=>e) (λz e f k V=>dD h f (tM eF e f z g O l k V) (aA (aK e f b 0 y.enc) (aK e f D (cZ o) (vY E)) (∃(L:du),mD (pG e z L) (λr=>∀(A:MH),aT (dZ e f r) (j8 e A r) (lK A z r L L->aA (aK A f b 0 y.enc) (aK A f D (cZ o) (vY E)) (∃(I:Nat×Sl×Nat×MH×PH->Prop)(P:Nat×
 Sl×Nat×MH×PH->Nat),(∃(x:Nat×Sl×Nat×MH×PH),aA (I x) (fO b x.1) (aA (sQn=YW x.2.1) (fO r (oU x).1) (bE (cW A (oU x).2) f (dO (oU x)))))/\∀(x:Nat×Sl×Nat×MH×PH),I x->NL (λF Q M=>aA (lK (fV (oU x)) F (oU x).1 Q M) (M=[]->∃(s:Sl)(R:dq)(n:dl),aA (jZ x.2.1=jZ s) (kS (fV (oU x)) (dO (oU x)) s 1 (j7 R)) (aA (dT (dO (oU x)) R n) (wA n 502633886983) (qP (dO (oU x)) (uR n) K (fV (oU x))))) (∀(n:du)(S:Value×Value)(T:du),M=n++S::T->∀(G:MH),aT (j8 (fV (oU x)) G (oU x).1) (Es G F (oU x).1 Q (n++T) S) (∃(I1:Nat×Sl×Sl×Nat×MH×PH->Prop),NL (λW X Y=>∃(c:Value
 ×Value),Es G W (oU x).1 X Y c/\∃(d:Nat×Sl×Sl×Nat×MH×PH),aA (I1 d) (fO x.1 d.1) (aA (bF x.2.1 d.2.1) (SV.at (At.val c.2)=YW (B4 d)) (bG (fO (oU x).1 (uF d).1) (cW G (uF d).2) (dO (oU x)=dO (uF d)))))/\∀(c:Nat×Sl×Sl×Nat×MH×PH),I1 c->∃(H:Int),aA (aK (fV (uF c)) (dO (uF c)) c.1 19 (cO H)) (0<=oH (B4 c) H) (AR (oH (B4 c) H) (B4 c)/\∃(d:List dj),tH (cM (fV (uF c)) (bD c.2.1) 94 1 d) (λB=>aA (cT 1 B) (kS (fV (uF c)) (dO (uF c)) (Sl.mk (B4 c).a (oH (B4 c) H).toNat (B4 c).cap) 1 B) (aA (kH d B 24) (kC d B) (fX (λs U=>bV (fV (uF c)) U (bD c.2.1) s 94 1 (d++
 B)->∃(j:Nat×Sl×Nat×MH×PH),aA (I j) (P j<P x) (aA (fO c.1 j.1) (bF s j.2.1) (bG (fO (uF c).1 (oU j).1) (cW U (oU j).2) (dO (uF c)=dO (oU j))))))))))))))))))))))))
theorem K3{w:Nat}:∀{od:dr}{a b:dn},JD w od a b=0->a=b
 |[],_,_,h=>i7.1 h
 |(c,d)::r,a,b,h=>by
  rw[JD]at h;generalize (if d then-jL (a.getD c.toNat zeroV) (b.getD c.toNat zeroV)else jL (a.getD c.toNat zeroV) (b.getD c.toNat zeroV))=x at h;split at h
  .split at h
   .omega
   .exact K3 h
  .exact K3 h
theorem CU{w:Nat}{od:dr}{a b:dn}(c:a.length=w)(d:b.length=w):iZ od a b= -iZ od b a:=by
 rw[Ch c d,Ch d c];exact(JC w od).anti a b
theorem atQ{w:Nat}{a b:dn}(c:a.length=w)(d:b.length=w)(h:iZ od a b=0):a=b:=by
 rw[Ch c d]at h;exact K3 h
theorem Ln{w:Nat}{od:dr}{x:dn}:∀{G:dl}{n:Nat},sX od G->(∀r∈G,r.length=w)->G.Nodup->(x∈G.take n↔x∈G/\(G.countP λy=>decide (iZ od y x<0))<n)
 |[],n,_,_,_=>bx
 |a::G,0,_,_,_=>bx
 |a::G,n+1,g,j,o=>by
  have g:=pairwise_cons.1 g;have o:=nodup_cons.1 o;have z:=Ln (x:=x) (G:=G) (n:=n) g.2 (λr A=>j r (mem_cons_of_mem _ A)) o.2;have c:=j a (mem_cons_self ..);rw[take_succ_cons,mem_cons,z,mem_cons,countP_cons];by_cases u:x=a
  .subst u;have B:¬iZ od x x<0:=by have:=CU (od:=od) c c;omega
   have C:(G.countP λy=>decide (iZ od y x<0))=0:=countP_eq_zero.2 λy D=>cg
   grind
  .by_cases d:x∈G
   .have f:=j x (mem_cons_of_mem _ d);have B:=g.1 x d;have C:=CU (od:=od) c f;have E:iZ od a x≠0:=λe=>u (atQ c f e).symm
    grind
   grind
theorem Pe{l:dl}(h:oK l):l.Nodup:=by
 rw[nodup_iff_pairwise_ne];exact h.imp fun{a b} c e=>by subst e;have:=FA.anti a a;omega
def rM(gr:dm)(x y:dn):Bool:=eJ (pick x gr) (pick y gr)==0
theorem A5{gr:dm}{x y:dn}:rM gr x y=true↔pick x gr=pick y gr:=by
 simp only[rM,beq_iff_eq,i7]
def tL(gr:dm)(od:dr)(li:Int)(a b:dl):dl:=a.filter λx=>decide (((b.countP λy=>rM gr x y&&decide (iZ od y x<0):Nat):Int)<li)
def T1(q:Query)(ls:List dl):dl:=match q with|.mk _ _ _ _ _ gr od li _=>tL gr od li (ls.getD 0 []) (ls.getD 0 [])
def J1(q:Query)(ls:List dl):Prop:=match q with|.mk _ _ _ _ _ gr _ li _=>1<=ls.length/\(∃w,jG w (ls.getD 0 [])/\gP w gr)/\0<=li
theorem aFQ{κ:dn->ByteArray}(e:auZ κ){w:Nat}{l:dl}(c:jG w l)(f:gP w gr){x y:dn}(hx:Pq x)(g:x.length=w)(d:y∈l):κ (pick y gr)=κ (pick x gr)↔rM gr x y=true:=by
 rw[A5];have:=e.inj (a:=pick y gr) (b:=pick x gr) (by simp[pick]) (Ih (c.row y d) (by rw[c.wid y d];exact f)) (Ih hx cg)
 grind
theorem LG{κ:dn->ByteArray}(c:auZ κ){w:Nat}{l:dl}(d:jG w l)(e:gP w gr){x:dn}(hx:Pq x)(f:x.length=w):
 ((nG κ gr l (κ (pick x gr))).countP λy=>decide (iZ od y x<0))=l.countP λy=>rM gr x y&&decide (iZ od y x<0):=by
 rw[nG,countP_filter];refine countP_congr λy g=>?_;have j:=aFQ c d e hx f g
 grind
theorem VF{α:Type}{p q:α->Bool}:∀{l:List α},(∀x∈l,¬(p x=true/\q x=true))->l.countP p+l.countP q=l.countP λx=>p x||q x
 |[],_=>rfl
 |a::l,h=>by
  have d:=VF (l:=l) λx c=>h x (mem_cons_of_mem _ c)
  grind
theorem agZ{κ:dn->ByteArray}(A:auZ κ){y w:Nat}{l:dl}{j:dy}{g:ByteArray->dl}(e:tM κ m h y gr od l j g)(c:jG w l)(d:gP w gr)(B:0<=li)(x:dn):
 x∈tL gr od li l l↔∃p∈j,x∈(g p.1).take li.toNat:=by
 have C:∀k r,r∈g k->r∈l/\κ (pick r gr)=k:=λk r o=>by
  have:=(e.perm k).mem_iff.1 o;simpa[nG]using this
 have D:∀k,(g k).Nodup:=λk=>(e.perm k).nodup_iff.2 ((Pe c.srt).sublist filter_sublist);have E:∀k,x∈(g k).take li.toNat↔x∈g k/\((g k).countP λy=>decide (iZ od y x<0))<li.toNat:=λk=>Ln (e.sort k) (λr o=>c.wid r (C k r o).1) (D k)
 have F:x∈l->((g (κ (pick x gr))).countP λy=>decide (iZ od y x<0))=l.countP λy=>rM gr x y&&decide (iZ od y x<0):=λn=>by
  rw[(e.perm _).countP_eq];exact LG A c d (c.row x n) (c.wid x n)
 rw[tL,mem_filter];constructor
 .rintro⟨n,z⟩;have z:=of_decide_eq_true z;have f:x∈g (κ (pick x gr)):=(e.perm _).mem_iff.2 (by simp[nG,n])
  have u:κ (pick x gr)∈j.map Prod.fst:=by
   by_cases u:κ (pick x gr)∈j.map Prod.fst
   .exact u
   .rw[e.none_ _ u]at f;cases f
  grind
 grind
open Classical in
structure FG(κ:dn->ByteArray)(gr:dm)(li:Int)(l:dl)(kk:dy)(g:ByteArray->dl)(left:du)(acc:dl):Prop where
 mem:∀x,x∈acc↔∃p∈kk,(Value.string p.1,fF p.2)∉left/\x∈(g p.1).take li.toNat
 cnt:acc.length+(l.countP λz=>decide (Value.string (κ (pick z gr))∈left.map Prod.fst))<=l.length
open Classical in
theorem FG.start{κ:dn->ByteArray}{gr:dm}{li:Int}{l:dl}{c:dy}{g:ByteArray->dl}:FG κ gr li l c g (c.map λp=>(Value.string p.1,fF p.2)) []:=by
 refine⟨λx=>⟨λe=>(by cases e),?_⟩,?_⟩
 .grind
 grind
theorem aeX{c:dy}(d:(c.map Prod.fst).Nodup):(c.map λp=>(Value.string p.1,fF p.2)).Nodup:=by
 grind
open Classical in
theorem FG.step{κ:dn->ByteArray}{m G:MH}{h:PH}{y H r:Nat}{gr:dm}{od:dr}{li:Int}{l f:dl}{j:dy}{g:ByteArray->dl}{left d e:du}{c:ByteArray×Sl}(st:FG κ gr li l j g left f)(u:tM κ m h y gr od l j g)(n:lK G H r (j.map λp=>(Value.string p.1,fF p.2)) left)(A:c∈j)(B:left=d++(Value.string c.1,fF c.2)::e):
 FG κ gr li l j g (d++e) (f++(g c.1).take li.toNat):=by
 have C:=lK.nodup n (aeX u.nodup);rw[B]at C
 have F:(Value.string c.1,fF c.2)∉d++e:=λh=>by
  grind
 have D:∀x∈d++e,x∈left:=λx h=>cg
 refine⟨λx=>?_,?_⟩
 .rw[mem_append,st.mem]
  grind
 .have I:Value.string c.1∉(d++e).map Prod.fst:=λh=>by
   obtain⟨z,E,o⟩:=mem_map.1 h;obtain⟨p,J,rfl⟩:=mem_map.1 (lK.mem n (D _ E));simp only[Value.string.injEq]at o;have:=SJ u.nodup J A o
   grind
  have M:=VF (l:=l) (p:=λz=>decide (Value.string (κ (pick z gr))∈(d++e).map Prod.fst)) (q:=λz=>decide (κ (pick z gr)=c.1)) (λz _⟨O,P⟩=>by
   grind)
  have Q:(l.countP λz=>decide (Value.string (κ (pick z gr))∈(d++e).map Prod.fst)||decide (κ (pick z gr)=c.1))=l.countP λz=>decide (Value.string (κ (pick z gr))∈left.map Prod.fst):=by
   grind
  have R:(nG κ gr l c.1).length=l.countP λz=>decide (κ (pick z gr)=c.1):=by rw[nG,countP_eq_length_filter]
  have L:=(u.perm c.1).length_eq;have:=st.cnt;rw[ct,length_take];omega
theorem FG.done{κ:dn->ByteArray}(n:auZ κ){y w:Nat}{l e:dl}{j:dy}{g:ByteArray->dl}(st:FG κ gr li l j g [] e)(o:tM κ m h y gr od l j g)(c:jG w l)(d:gP w gr)(f:0<=li):tL gr od li l l=uR e:=
 Sh (c.srt.sublist filter_sublist) λx=>by rw[agZ n o c d f,st.mem];simp
theorem ayQ{h:PH}{s:Sl}{l:dl}{li:Int}(f:Rows h s l)(g:0<=li):(0<=if(s.len:Int)<li then(s.len:Int)else li)/\(if(s.len:Int)<li then(s.len:Int)else li)<=s.cap/\∃us:dq,bN h ⟨s.a,(if(s.len:Int)<li then(s.len:Int)else li).toNat,s.cap⟩ 1 (us.map eS)/\dT h us (l.take li.toNat)/\us.length<=l.length:=by
 obtain⟨⟨c,d,n,o⟩,_⟩:=f;have u:s.len=c.length:=by have:=d.len;grind
 have y:((if(s.len:Int)<li then(s.len:Int)else li).toNat)=min c.length li.toNat:=by omega
 have e:=d.cap;refine⟨aC,aC,c.take (min c.length li.toNat),?_,⟨cg,λj x z=>?_⟩,ce⟩
 .rw[y,map_take];exact bN.cut d _ ce
 grind
theorem Xg:di 241 (Tx J1 T1):=by
 refine Jm func241 ?_;rintro c8 m h K ⟨v,t,q,bs,ls,rfl,hq,ha,hT,b2,hK⟩;refine⟨aMX,rfl,aD Oi (aD Hz aF),KC v t m h (eX h K),bu,?_⟩;show KC v t m h (eX h K);dsimp only[KC,push_cast];obtain⟨op,ta,w,co,on,gr,od,li,args⟩:=q;obtain⟨c9,⟨wd,f,A⟩,W⟩:=b2;intro b m1 b3 X;obtain⟨s1,n1⟩:=kU (Sub.refl m) b3 X;have b4:m1 b=some (.cells ⟨v.enc⟩ 38 (0,0)):=X.at_;obtain⟨b1,off,x,ea,d',rd,sq⟩:=ha.get (Al (i:=0) aC);simp only[T1]at hK;generalize ls.getD 0 []=l at hK f sq;have d0:=f.len;refine⟨v,.of_m b4 (take_length ..),b1,off,ea,aC,aC,x,.imm rd,v,x,gr,od,l,wd,rfl,hq.parts.group_,hq.parts.order_,sq,f,A,hT.sub s1,λy m2 h2 kk g hy Y G U=>?_⟩;have yb:b≠y:=λe=>cg
 have Z:m2 b=some (.cells ⟨v.enc⟩ 38 (0,0)):=cg
 have s2:Sub m m2:=λz o e=>by rw[Y z (λH=>by have:=s1 z o e;grind)];exact s1 z o e
 refine⟨.of_m Z (take_length ..),.imm (rd.mono G),_,U.map_,λr F I a' it=>?_⟩;have rb:b≠r:=λe=>by have:=I.m_;grind
 have b5:F b=some (.cells ⟨v.enc⟩ 38 (0,0)):=by rw[a'.other b rb];exact Z
 have s3:Sub m F:=λz o e=>by
  have:=s2 z o e;rw[a'.other z (λH=>by rw[H,I.m_]at this;cases this)];exact this
 classical
 have b6:∃o,F y=some o:=by obtain⟨es,c,d,B,c0,P,_⟩:=it.ex;grind
 have a0:∃o,F r=some o:=by obtain⟨es,c,d,B,c0,P,i2,i3,i4,i5,_⟩:=it.ex;grind
 have yr:y≠r:=λe=>by
  obtain⟨es,c,P,_⟩:=U.map_;rw[e,I.m_]at P;cases P
 refine⟨.of_m b5 (take_length ..),.imm (rd.mono G),λz=>z.1=b/\z.2.2.1=r/\z.2.2.2.2=h2/\(∀x o,F x=some o->x≠r->z.2.2.2.1 x=some o)/\∃left Q u,lK z.2.2.2.1 y r (kk.map λp=>(Value.string p.1,fF p.2)) left/\cM z.2.2.2.1 z.2.1 94 1 (Q.map eS)/\(∀x i,z.2.1.a=some ⟨x,i,none⟩->F x=none)/\dT h2 Q u/\FG eF gr li l kk g left u,λz=>leftOf z.2.2.2.1 z.2.2.1,⟨(b,⟨none,0,0⟩,r,F,h2),⟨rfl,rfl,rfl,λx o e _=>e,_,[],[],it,⟨qF [],.inl ⟨rfl,rfl⟩⟩,(λx i e=>by cases e),dT.nil _,.start⟩,MT⟩,?_⟩
 .rintro⟨b',s,J,mz,hz⟩ ⟨e1,H,e3,R,left,Q,u,C,D,b7,L,rk⟩;dsimp only at e1 H e3 R C D b7 L rk⊢
  subst e1 H e3;have c6:u.length<=l.length:=by have:=rk.cnt;omega
  have d1:=L.len;refine⟨y,_,left,C,λS=>?_,λl1 x1 l2 a1 m4 M O=>?_⟩
  .subst S;refine⟨s,Q,u,rfl,D.src,L,aC,λs' h' a2 b8=>eX.sub (λz o e=>R z o (s3 z o e) (λH=>?_)) (G.trans a2) (hK s' h' (G.trans a2) ?_)⟩
   .have:=s2 z o e;rw[H,I.m_]at this;cases this
   .rw[rk.done N0 U f A W];exact b8
  .have b9:x1∈left:=cg
   obtain⟨V,a3,rfl⟩:=mem_map.1 (lK.mem C b9);have n:∀{x},(∃o,F x=some o)->∀i,s.a≠some ⟨x,i,none⟩:=fun{x}⟨o,ho⟩ i e=>cg
   have c':m4 b'=some (.cells ⟨v.enc⟩ 38 (0,0)):=by rw[M.other b' rb];grind
   have T:cM m4 s 94 1 (Q.map eS):=cM.keep D λx i e=>M.other x λH=>n a0 i (H▸e);refine⟨λc=>c=(b',s,V.2,J,m4,hz),⟨y,_,_,_,O,⟨(b',s,V.2,J,m4,hz),rfl,rfl,rfl,rfl,rfl,rfl,rfl,trivial⟩⟩,?_⟩;rintro c rfl;dsimp only;have a4:v.limit=li:=hq.parts.limit_;obtain⟨c1,c2,a5,c3,c4,d2⟩:=ayQ (li:=li) (U.rows V a3) W;have d3:=(U.perm V.1).length_eq;have c7:(nG eF gr l V.1).length<=l.length:=length_filter_le _ _;refine⟨li,.of_m c' (by rw[<-a4];rfl),c1,c2,Q.map eS,T,a5.map eS,qF _,.imm c3,ce,ce,λs' m5 E=>?_⟩
   .have a6:∀x o,F x=some o->x≠J->m5 x=some o:=λx o e c5=>E.other x o (by rw[M.other x c5];grind) (n ⟨o,e⟩)
    have a9:lK m5 y J (kk.map λp=>(Value.string p.1,fF p.2)) (l1++l2):=by
     obtain⟨es,c,d,B,c0,P,i2,i3,i4,i5,_⟩:=O.it.ex;exact lK.keep O.it (by rw[P];exact E.other y _ P (n b6)) (by rw[i5];exact E.other J _ i5 (n a0))
    refine⟨(b',s',J,m5,hz),⟨rfl,rfl,rfl,a6,_,Q++a5,u++(g V.1).take li.toNat,a9,?_,λx i e=>?_,L.app c4,rk.step U C a3 a1⟩,?_,rfl,rfl,rfl,rfl,rfl,trivial⟩
    .rw[cv];exact E.row
    .rcases E.fresh x i e with h5|⟨j,h5⟩
     .cases e6:F x with
      |none=>rfl
      |some o=>
       by_cases b0:x=J
       .obtain⟨es,c,d,B,c0,P,i2,i3,i4,i5,_⟩:=O.it.ex
        grind
       .rw[M.other x b0,R x o e6 b0]at h5;cases h5
     grind
    .show leftOf m5 J<leftOf mz J;rw[lK.left_ a9,lK.left_ C,a1];simp
def ZE:Vc.Spec:=λc m h K=>∃(n d e f:Nat)(v:QV)(od:dr)(g s:Sl)(rs:dl)(r:dn)(w:Nat),c=[cI n,.val (.func (.func 276) #[] #[.pointer (some ⟨d,0,none⟩),.pointer (some ⟨e,0,none⟩),.pointer (some ⟨f,0,none⟩)])]/\
 m d=some (.cells ⟨QV.enc v⟩ 38 (0,0))/\m e=some (.cells #[Sl.val g] 53 (0,0))/\m f=some (.cells #[Sl.val s] 94 (0,0))/\jU h v.order od/\Rows h g rs/\bI h s r/\rs.length=n/\sX od rs/\(∀x∈rs,x.length=w)/\r.length=w/\
 K (cI ((rs.countP λy=>decide (iZ od y r<0):Nat):Int)) m h
noncomputable def aMQ:Ctx:=SS [(275,Tm),(271,a9J),(126,ZE)] [] [(2,{A:=Sl×Nat×Nat×MH×PH,st:=λ⟨t,b,c,m,h⟩=>bK 38 40 [(1,sv t),(2,vv (.pointer (some ⟨b,0,none⟩))),(5,vv (.pointer (some ⟨c,0,none⟩)))] [] m h}),
 (6,{A:=Nat×Nat×Nat×Nat×MH×PH,st:=λ⟨b,o,e,g,m,h⟩=>bK 38 40 [(2,vv (.pointer (some ⟨b,0,none⟩))),(6,vv (.pointer (some ⟨o,0,none⟩))),(7,vv (.pointer (some ⟨e,0,none⟩))),(8,vv (.pointer (some ⟨g,0,none⟩)))] [] m h})] [200002,200005,200006,200007,200008,1053,400000,0]
noncomputable abbrev yP(a:Sl×Nat×Nat×MH×PH):Nat:=a.2.2.1
abbrev Du(a:MH)(b:Nat)(c:Value)(d:MH->(Nat×Nat×Nat×Nat×MH×PH)->Prop):Prop:=gE (λx e=>aA (sK a b (fC x e 0)) (fE 0 x) (∀(f:MH),bL a f b (jC c 1 x) e->∃(g:Nat×Nat×Nat×Nat×MH×PH),d f g))
noncomputable abbrev lM(a:Nat×Nat×Nat×Nat×MH×PH):Nat×MH×PH:=mV a.2
abbrev DB(a:Nat×Nat×Nat×Nat×MH×PH->Prop)(b:Nat×Nat×Nat×Nat×MH×PH)(c:Sl×Nat×Nat×MH×PH)(d e g:Nat)(i:MH)(j:PH):Prop:=aA (a b) (fO c.2.1 b.1) (aA (fO d b.2.1) (fO e b.2.2.1) (bG (fO g (lM b).1) (cW i (lM b).2) (j=dO (lM b))))
abbrev sQ(a:dl)(b:dn->Prop):Prop:=∀(x:dn),List.Mem x a->b x
attribute [push_cast] yP Du lM DB sQ
def KB(v:QV)(t:Sl)(m:MH)(h:PH)(K:dk):Prop:=
  ∀(b:Nat)(R:MH),aT (dZ m h b) (bL m R b v.enc 38) (∃(I:Sl×Nat×Nat×MH×PH->Prop),(∃(y:QV),aK R h b 0 y.enc/\bT (λJ o=>aA (bX t.a J o) ((0:Int)<=1) (1<aH t/\∃(C:Nat),aA (aK R h J (cE o) (vY C)) (∃(M:QV)(u:Nat),Fa (λg U=>∃(l:dl)(w:Nat),aA (bJ (dE y) (rD C)=bJ (dE M) (rD u)) (Ints h M.group g) (aA (jU h M.order U) (Pp h u l) (Mq w l g R (λD=>D) (λz=>z) (λO=>O) (λD O d k W=>dD h d (tM eF O d D g U l k W) (aA (aK O d b 0 y.enc) (aK O d J (cE o) (vY C)) (DS O d 173 (λz F=>gE (λc E=>aA (sK F z (fC c E 0)) (fE 0 c) (∀(P:MH),bL F P z (jC (Value.map (Option.some D)) 1 c) E->∃(x:Sl×Nat×Nat×MH×PH),aA (I
 x) (bF t x.1) (aA (fO b x.2.1) (fO z x.2.2.1) (bE (cW P x.2.2.2) d (dO x.2.2))))))))))))) (aA (aK R h b 0 y.enc) (aK R h J (cE o) (vY C)) (DS R h 173 (λz O=>∃(M:QV)(u:Nat),Fa (λg U=>∃(l:dl)(w:Nat),aA (bJ (dE y) (rD C)=bJ (dE M) (rD u)) (Ints h M.group g) (aA (jU h M.order U) (Pp h u l) (Mq w l g O (λD=>D) (λA=>A) (λF=>F) (λD F d k W=>dD h d (tM eF F d D g U l k W) (gE (λc E=>aA (sK F z (fC c E 0)) (fE 0 c) (∀(P:MH),bL F P z (jC (Value.map (Option.some D)) 1 c) E->∃(x:Sl×Nat×Nat×MH×PH),aA (I x) (bF t x.1) (aA (fO b x.2.1) (fO z x.2.2.1) (bE (cW P x.2.2.2) d (dO x.2.2))))))))))))))))/\∀(x:Sl×Nat×Nat×MH×PH),I x->
 Dv (fV x.2.2) (dO x.2.2) x.1 (λJ O y S=>tZ S (dO x.2.2) y O (λI1 k e F d=>I1 k F d->∀(z:Nat)(P:MH),aT (dZ F d z) (bL F P z iA 94) (gE (λc E=>aA (sK P z (fC c E 0)) (fE 0 c) (∀(j:MH),bL P j z (jC (fF e) 1 c) E->∃(I2:Nat×Nat×Nat×Nat×MH×PH->Prop),(∃(C:Nat),aK j d (yP x) 0 (qW C)/\kW j d z 0 (λD=>∃(G:Sl),aA (aK j d x.2.1 17 (aM G)) (aK j d (yP x) 0 (qW C)/\∃(s:Sl),Br (λV r L=>aA (fN D G=fN s V) (bI d s r) (aA (Ints d V L) (Pq r) (aA (lW r L) (jV j) (aA (dP j d (yP x) C) (aA (aK j d z 0 (aM D)) (aK j d x.2.1 17 (aM G)) (Az j C r L (aA (dP j d (yP x) C) (aK j d z 0 (aM D)) (aK j d x.2.1 17
 (aM G)/\∀(A:Nat)(B:MH),aT (dZ j d A) (bL j B A iA 53) (Du B A sJ (λH f=>DB I2 f x J z A H d)))) (λQ=>aA (dP j d (yP x) C) (aK j d z 0 (aM D)) (aK j d x.2.1 17 (aM G)/\∀(A:Nat)(B:MH),aT (dZ j d A) (bL j B A iA 53) (Du B A (fF Q) (λH f=>DB I2 f x J z A H d)))))) (aA (dP j d (yP x) C) (aK j d z 0 (aM D)) (aK j d x.2.1 17 (aM G)/\∀(A:Nat)(B:MH),aT (dZ j d A) (bL j B A iA 53) (aA (aK B d z 0 (aM D)) (aK B d x.2.1 17 (aM G)) (Az B C r L (Du B A sJ (λH f=>DB I2 f x J z A H d)) (λQ=>Du B A (fF Q) (λH f=>DB I2 f x J z A H d))))))))))) (aA (dP j d (yP x) C) (aK j d z 0 (aM
 D)) (aK j d x.2.1 17 (aM G)/\∀(A:Nat)(B:MH),aT (dZ j d A) (bL j B A iA 53) (aK B d (yP x) 0 (qW C)/\∃(s:Sl),Br (λV r L=>aA (fN D G=fN s V) (bI d s r) (aA (Ints d V L) (Pq r) (aA (lW r L) (jV B) (aA (dP B d (yP x) C) (aK B d z 0 (aM D)) (aK B d x.2.1 17 (aM G)/\Az B C r L (Du B A sJ (λH f=>DB I2 f x J z A H d)) (λQ=>Du B A (fF Q) (λH f=>DB I2 f x J z A H d))))))))))))/\∀(f:Nat×Nat×Nat×Nat×MH×PH),I2 f->kW (fV (lM f)) (dO (lM f)) (lM f).1 0 (λC=>bT (λn A=>bT (λY Z=>∃(M:QV)(o:dr),kQ (λg s=>∃(r:dl)(X:dn)(w:Nat),aA (bJ (fQ (aH C)) (CV.val (Value.func
 (Fn.func 276) vG (Array.mk (a8 (vQp f.1 0) (vQp (lM f).1 0) (nT (vQp f.2.2.1 0))))))=bJ (fQ (↑n:Int)) (CV.val (Value.func (Fn.func 276) vG (Array.mk (a8 (vQp A 0) (vQp Y 0) (nT (vQp Z 0))))))) ((lM f).2.1 A=Option.some (fC (Array.mk M.enc) 38 0)) (aA ((lM f).2.1 Y=Option.some (fC (Array.mk (aM g)) 53 0)) ((lM f).2.1 Z=Option.some (fC (Array.mk (aM s)) 94 0)) (aA (jU (dO (lM f)) M.order o) (Rows (dO (lM f)) g r) (aA (bI (dO (lM f)) s X) (r.length=n) (aA (sX o r) (sQ r (λT=>T.length=w)) (X.length=w/\sP (fV (lM f)) (dO (lM f)) f.1 19 (λD=>aR (↑(countP (fun(G:dn)=>decide (iZ o G X<0)) r):Int) D (kW (fV (lM f)) (dO (lM f)) f.2.1 0 (λG=>∃(Q:Sl),aK (fV (lM
 f)) (dO (lM f)) f.2.2.1 0 (aM Q)/\∃(T:List dj),aA (cM (fV (lM f)) (bD G) 94 1 T) (iS T) (dH T/\fX (λs1 B=>bV (fV (lM f)) B (bD G) s1 94 1 (dY T (aM Q))->gE (λL E1=>aA (sK B f.2.1 (fC L E1 0)) (fE 0 L) (∀(H:MH),bL B H f.2.1 (jC (fF s1) 1 L) E1->I1 (cE k) H (dO (lM f)))))))) (I1 (cE k) (fV (lM f)) (dO (lM f))))))))))))))))) (λF d=>kW F d J 0 (λC=>K (fD C) F d))))
theorem Jk{w:World}{q:Nat}{c:Array Obj}(d:b<w.heap.size):(Sort.grow (w.drewN q) c).heap[b]? =w.heap[b]? :=by
 show((w.drewN q).heap++c)[b]? =_;rw[Array.getElem?_append_left (show b<(w.drewN q).heap.size from d)];rfl
theorem VK{P:Program}{g:Nat}{cs:dj}{m:MH}{h:PH}{S:Vc.Spec}{r:CV}{u:Value}(I:Sound P g S)(J:S (cs.map .val) m h λr' m' h'=>r'=r/\m'=m/\h'=h)(L:∀w u',C5 w r u'->u'=u){w:World}
 (M:∀b o v,h b o=some v->w.cell? ⟨b,o,none⟩=some v)(V:∀b o,m b=some o->w.heap[b]? =some o)(O:∀b o,m b=some o->∀i,h b i=none)(C:Nat)(D:Array Obj):
 Calls P g cs.toArray (Sort.grow (w.drewN C) D) λe w'=>e= .returned u/\∃q E,w'=Sort.grow ((Sort.grow (w.drewN C) D).drewN q) E:=by
 obtain⟨W,hW⟩:∃W,Sort.grow (w.drewN C) D=W:=⟨_,rfl⟩
 rw[hW];have F:∀b,b<w.heap.size->W.heap[b]? =w.heap[b]? :=λb f=>by rw[<-hW];exact Jk f
 have y:∀(l:dj)(w:World),CG w (l.map .val) l:=λl w=>by
  induction l with
  |nil=>trivial
  |cons a l Q=>exact⟨rfl,Q⟩
 have A:∀(l:dj)(i:Nat)(c:CV)(u:Value)(b:Nat),(l.map CV.val)[i]? =some c->gK c u=some b->False:=λl i c u b n f=>by
  rw[getElem?_map]at n;cases e:l[i]? with
  |none=>grind
  |some v=>rw[e]at n;simp at n;subst n;simp[gK]at f
 have B:zD W m h (cs.map .val) cs:=by
  refine⟨y _ _,?_,?_,O,λi j c d u v b n _ _ _ f _=>(A _ i c u b n f).elim,λi c u b n _ f=>(A _ i c u b n f).elim⟩
  .intro b o v R;have G:=M b o v R;rw[World.cell?_of_block (w:=w) (w':=W) (a:=⟨b,o,none⟩) (F b (World.block_lt_of_cell? w ⟨b,o,none⟩ G))];exact G
  grind
 refine(I.2 _ _ m h W _ J B).mono ?_;rintro e w' ⟨r',u',m',h',rfl,⟨rfl,rfl,rfl⟩,H,z,_⟩;have T:=L _ _ H;subst T;refine⟨rfl,Li z.tape z.os z.output z.drawn z.size (λb f=>?_)⟩;cases U:m' b with
 |none=>
  refine z.frame b f ?_;rintro(G|⟨i,c,u,n,_,X⟩)
  .grind
  grind
 |some o=>rw[z.msat b o U];grind
theorem Wc{g:Nat}{S R:Vc.Spec}(V:di g S)(hR:∀B m h K,R B m h K->∃(n E F G H:Nat)(od:dr)(rs:dl)(r:dn),B=[cI n,.val (.func (.func g) #[] #[.pointer (some ⟨E,0,none⟩),.pointer (some ⟨F,0,none⟩),.pointer (some ⟨G,0,none⟩)])]/\rs.length<=502633886983/\rs.length=n/\sX od rs/\(∀x∈rs,x.length=H)/\r.length=H/\
 (∀(i:Nat) x,rs[i]? =some x->S ([.int .i64 i,.pointer (some ⟨E,0,none⟩),.pointer (some ⟨F,0,none⟩),.pointer (some ⟨G,0,none⟩)].map .val) m h λr' m' h'=>r'=cB (decide (iZ od x r>=0))/\m'=m/\h'=h)/\K (cI ((rs.countP λy=>decide (iZ od y r<0):Nat):Int)) m h):di 126 R:=by
 refine⟨⟨Tryz.f126,func126,rfl,bz⟩,?_⟩;intro B W m h w K h0 d;obtain⟨n,E,F,G,H,od,rs,r,rfl,X,rfl,J,Y,f,hS,hK⟩:=hR _ _ _ _ h0
 obtain⟨v1,I,rfl⟩:∃v I,W=[v,I]:=by
  have:=(qC d.args).1
  match W,this with
  |[v,I],_=>grind
 have C:v1= .int .i64 rs.length:=d.args.1;have h2:I= .func (.func g) #[] #[.pointer (some ⟨E,0,none⟩),.pointer (some ⟨F,0,none⟩),.pointer (some ⟨G,0,none⟩)]:=d.args.2.1;subst C h2
 have eg:∀args w,(callFunc g args).run Tryz.prog w= .ok (.enter g args) w:=λargs w=>by
  obtain⟨Z,L,c,hn⟩:=V.1;have M:¬Z.body=none:=cg
  have O:¬Z.name= "runtime.NumGoroutine" :=cg
  simp[callFunc,program,Sem.run,L,O,M]
 have D:=Any.sort_Search Tryz.searchO g #[.pointer (some ⟨E,0,none⟩),.pointer (some ⟨F,0,none⟩),.pointer (some ⟨G,0,none⟩)] rs.length (λi=>decide (iZ od (rs.toArray[i]!) r>=0)) w eg aC
  (λmm P i hi=>VK (cs:=[.int .i64 i,.pointer (some ⟨E,0,none⟩),.pointer (some ⟨F,0,none⟩),.pointer (some ⟨G,0,none⟩)]) V
   (hS i _ cg) (λw u' hu=>hu) d.hsat d.msat d.disj mm P)
  (λa b Q c j=>?_)
 .refine Calls.mono D ?_;rintro e w' ⟨rfl,q,P,rfl⟩
  have u:((List.range rs.length).countP λi=> !decide (iZ od (rs.toArray[i]!) r>=0))=rs.countP λy=>decide (iZ od y r<0):=by
   have:=Go.Lib.countP_range rs.toArray (λy=> !decide (iZ od y r>=0))
   grind
  rw[u];refine⟨_,_,m,h,rfl,hK,rfl,⟨rfl,rfl,rfl,Nat.le_add_right _ _,?_,λb c _=>Jk c,λb o v T=>?_,λb o c=>?_,d.disj,λ_ _ _ e=>e,λ_ _ _=>rfl,λb o c=>.inr (.inl cg)⟩,λb c=>by cases c⟩
  .show w.heap.size<=((w.drewN q).heap++P).size;rw[Array.size_append];exact Nat.le_add_right _ _
  .have C:=d.hsat b o v T;rw[World.cell?_of_block (w:=w) (a:=⟨b,o,none⟩) (Jk (World.block_lt_of_cell? w ⟨b,o,none⟩ C))];exact C
  .have C:=d.msat b o c;rw[Jk (Array.getElem?_eq_some_iff.1 C).1];exact C
 .have j:=of_decide_eq_true j;refine decide_eq_true ?_;rcases Nat.lt_or_eq_of_le Q with U|rfl
  .have ha:a<rs.length:=by omega
   rw[getElem!_pos _ a aC]at j;rw[getElem!_pos _ b aC];simp only[getElem_toArray]at j⊢
   have z:=Y _ (getElem_mem ha);have A:=Y _ (getElem_mem c);have h5:=(pairwise_iff_getElem.1 J) a b ha c U;have h6:=CU (od:=od) z A;have h7:=CU (od:=od) z f;have h8:=CU (od:=od) A f;rw[Ch z A]at h6;have:=(JC H od).trans r rs[a] rs[b] (by rw[<-Ch f z];omega) aC;rw[<-Ch f A]at this;omega
  omega
theorem Yc:di 126 ZE:=Wc WW λy m h K⟨n,j,o,u,v,od,g,s,rs,r,z,e,A,B,C,D,c,E,F,d,G,f,H⟩=>⟨n,j,o,u,z,od,rs,r,e,by have:=c.len;omega,F,d,G,f,λi x I=>⟨i,j,o,u,v,od,g,s,rs,r,x,rfl,A,B,C,D,c,E,I,rfl,rfl,rfl⟩,H⟩
theorem tM.get2{κ:dn->ByteArray}{y:Nat}{l:dl}{j:dy}{G:ByteArray->dl}{key:ByteArray}{K0:Prop}{K:Sl->Prop}(g:tM κ m h y gr od l j G)(o:EH j key ⟨none,0,0⟩->K0)(u:∀s,EH j key s->K s):
 ∃(d:List (Value×Sl))(Ok:Value->Prop),Cp m y (d.map λp=>(p.1,fF p.2))/\KeyLaw Tryz.prog 9 Ok/\Ok (.string key)/\(∀e,List.Mem e d->Ok e.1)/\((∀e,List.Mem e d->e.1=Value.string key->False)->K0)/\∀t,List.Mem (Value.string key,t) d->K t:=by
 obtain⟨z,c,A,B,_,_⟩:=g.map_;refine⟨j.map λp=>(.string p.1,p.2),_,⟨z,c,A,by rw[B];simp⟩,C9,⟨key,rfl⟩,λe C=>?_,λD=>o (.inl ⟨rfl,λh=>?_⟩),λt E=>u t (.inr ?_)⟩
 .obtain⟨k,_,rfl⟩:=mem_map.1 (show e∈_ from C)
  grind
 .obtain⟨p,n,e⟩:=mem_map.1 h;subst e;exact D (.string p.1,p.2) (mem_map_of_mem (f:=λp:ByteArray×Sl=>(Value.string p.1,p.2)) n) rfl
 .obtain⟨p,n,e⟩:=mem_map.1 (show(Value.string key,t)∈_ from E)
  grind
theorem tM.keep{κ:dn->ByteArray}{y:Nat}{l:dl}{d:dy}{G:ByteArray->dl}(g:tM κ m h y gr od l d G)(e:∀o,m y=some o->m' y=some o)(le:PH.le h h'):tM κ m' h' y gr od l d G:=by
 obtain⟨f,c,j,n,u,z⟩:=g.map_;exact⟨⟨f,c,e _ j,n,u,z⟩,g.nodup,λp A=>aZ.mono (g.rows p A) le (λr t B=>bI.mono B le),g.none_,g.perm,g.sort⟩
theorem tM.at_{κ:dn->ByteArray}{y:Nat}{l:dl}{c:dy}{G:ByteArray->dl}{key:ByteArray}{s:Sl}(g:tM κ m h y gr od l c G)(d:EH c key s):Rows h s (G key):=by
 rcases d with⟨rfl,e⟩|f
 .rw[g.none_ key e];exact(dT.nil h).rows (bN.nil _ _) bx
 .exact g.rows _ f
structure bEJ(m5:MH)(hh:PH)(bq b9 b2:Nat)(e:Sl)(us2:dq)(Gk:dl)(c:Nat×Nat×Nat×Nat×MH×PH):Prop where
 q:c.1=bq
 o:c.2.1=b9
 b:c.2.2.1=b2
 h:c.2.2.2.2.2=hh
 sub:En m5 c.2.2.2.2.1 b9
 out:pE m5 c.2.2.2.2.1 b9 us2
 e_:c.2.2.2.2.1 b2=some (.cells #[fF e] 94 (0,0))
 g_:∃s,c.2.2.2.2.1 c.2.2.2.1=some (.cells #[fF s] 53 (0,0))/\Rows hh s Gk
def Ig(q:Query)(ls:List dl):dl:=match q with|.mk _ _ _ _ _ gr od li _=>tL gr od li (ls.getD 0 []) (ls.getD 1 [])
def CL(q:Query)(ls:List dl):Prop:=match q with|.mk _ _ _ _ _ gr _ _ _=>2<=ls.length/\∃w,jG w (ls.getD 0 [])/\jG w (ls.getD 1 [])/\gP w gr
theorem Xf:di 242 (Tx CL Ig):=by
 refine Jm func242 ?_;rintro g3 m h K ⟨v,t,q,bs,ls,rfl,hq,ha,hT,f2,hK⟩;refine⟨aMQ,rfl,aD Oi (aD Ee (aD Yc aF)),KB v t m h (eX h K),bu,?_⟩;show KB v t m h (eX h K);dsimp only[KB,push_cast];obtain⟨op,ta,w,co,on,gr,od,li,args⟩:=q;obtain⟨g4,wd,B,n,I⟩:=f2;intro b m1 f3 d';obtain⟨s1,n1⟩:=kU (Sub.refl m) f3 d';have b0:m1 b=some (.cells ⟨v.enc⟩ 38 (0,0)):=d'.at_;obtain⟨b1,off,x,ea,g5,rd,sq⟩:=ha.get (Al (i:=1) aC);obtain⟨b6,d0,x6,f4,g2,f5,d1⟩:=ha.get (Al (i:=0) aC);simp only[Ig]at hK;generalize ls.getD 1 []=l' at hK n sq;generalize ls.getD 0 []=l at hK B d1;have g6:=B.len;have b4:=hq.parts.group_;have b5:=hq.parts.order_
 refine⟨λz=>z.1=t/\z.2.1=b/\PH.le h z.2.2.2.2/\Sub m z.2.2.2.1/\z.2.2.2.1 b=some (.cells ⟨v.enc⟩ 38 (0,0))/\∃y kk G,z.2.2.2.1 z.2.2.1=some (.cells #[.map (some y)] 173 (0,0))/\tM eF z.2.2.2.1 z.2.2.2.2 y gr od l' kk G,
  ⟨v,.of_m b0 (take_length ..),b1,off,ea,aC,aC,x,.imm rd,⟨v,x,gr,od,l',wd,rfl,b4,b5,sq,n,I,hT.sub s1,λy m2 h2 kk G F H Z Y=>?_⟩,.of_m b0 (take_length ..),.imm rd,λU m2 d2 a'=>?_⟩,?_⟩
 .have yb:b≠y:=λe=>cg
  have a0:m2 b=some (.cells ⟨v.enc⟩ 38 (0,0)):=cg
  have s2:Sub m m2:=λz o e=>by rw[H z (λd=>by have:=s1 z o e;grind)];exact s1 z o e
  refine⟨.of_m a0 (take_length ..),.imm (rd.mono Z),λU m3 b7 a1=>⟨_,_,⟨a1.at_⟩,bx,λV D=>⟨(t,b,U,V,h2),⟨rfl,rfl,Z,?_,?_,y,kk,G,D.at_,?_⟩,MT⟩⟩⟩
  .obtain⟨s3,n3⟩:=kU s2 b7 a1;exact s3.upd n3 D.other
  .have:b≠U:=λe=>by have:=b7.m_;grind
   show V b=_;rw[D.other b this,a1.other b this];exact a0
  .refine Y.keep (λo e=>?_) (.refl _);have:y≠U:=λd=>by rw[d,b7.m_]at e;cases e
   show V y=_;rw[D.other y this,a1.other y this];exact e
 .obtain⟨s2,n2⟩:=kU s1 d2 a';have d3:b≠U:=λe=>by have:=d2.m_;grind
  have a0:m2 b=some (.cells ⟨v.enc⟩ 38 (0,0)):=by rw[a'.other b d3];exact b0
  refine⟨v,x,gr,od,l',wd,rfl,b4,b5,sq,n,I,hT.sub s2,λy m3 h2 kk G F H Z Y=>?_⟩;have yb:b≠y:=λe=>cg
  have yc:U≠y:=λe=>by rw[<-e,a'.at_]at F;cases F
  have s3:Sub m m3:=λz o e=>by rw[H z (λd=>by have:=s2 z o e;grind)];exact s2 z o e
  refine⟨#[.map none],173,⟨by rw[H U yc];exact a'.at_⟩,bx,λV D=>⟨(t,b,U,V,h2),⟨rfl,rfl,Z,s3.upd n2 D.other,?_,y,kk,G,D.at_,?_⟩,MT⟩⟩
  .show V b=_;rw[D.other b d3,H b yb];exact a0
  .refine Y.keep (λo e=>?_) (.refl _);show V y=_;rw[D.other y (Ne.symm yc)];exact e
 .rintro⟨t',b',U,V,hh⟩ ⟨e1,d,J,s4,P,y,kk,G,b8,Y⟩;dsimp only at e1 d J s4 P b8 Y⊢
  subst e1 d;intro S m5 d4 a2;obtain⟨s5,n9⟩:=kU s4 d4 a2
  have a3:∀{z o},V z=some o->m5 z=some o/\z≠S:=fun{z o} d=>by
   have:z≠S:=λT=>by rw[T,d4.m_]at d;cases d
   exact⟨by rw[a2.other z this];exact d,this⟩
  obtain⟨us,d5,d6⟩:=(d1.mono J).ex;have f6:=d6.len;refine⟨b6,d0,f4,aC,aC,x6,.imm (f5.mono J),xW,us,λk my F=>F=hh/\En m5 my S/\∃f,pE m5 my S f/\f.length<=k/\dT hh f (tL gr od li (l.take k) l'),wZ,⟨x6,us,rfl,d5,rfl⟩,⟨rfl,λz o e _=>e,[],pE.new a2.at_,bx,by simpa[tL]using dT.nil hh⟩,?_,?_⟩
  .rintro k e my F hk-⟨rfl,a4,f,W,c',Q⟩ b2 m6 f7 d7;obtain⟨r,hr,hv⟩:=d6.at' hk;have g8:=(cn hk);have a5:=cr hr;have d8:=B.wid r a5;have d9:gP r.length gr:=cg
   refine⟨_,_,⟨d7.at_⟩,bx,λL e'=>?_⟩
   have c0:∀{z o},my z=some o->L z=some o/\z≠b2:=fun{z o} d=>by
    have:z≠b2:=λT=>by rw[T,f7.m_]at d;cases d
    exact⟨by rw[e'.other z this,d7.other z this];exact d,this⟩
   have up:∀{z o},V z=some o->L z=some o:=fun{z o} d=>(c0 (a4 z o (a3 d).1 (a3 d).2)).1;have s7:En m5 L S:=λz o d c4=>(c0 (a4 z o d c4)).1
   have C:∀{ma mb:MH},pE m5 ma S f->(∀z o,ma z=some o->mb z=some o)->pE m5 mb S f:=fun{ma mb} ho hk=>by
    obtain⟨s,h1,h2,h3⟩:=ho.ex;refine⟨s,hk _ _ h1,cM.keep h2 λz i T=>?_,h3⟩;obtain⟨g9,h4⟩:=h2.blk T
    grind
   have o7:pE m5 L S f:=C W λz o d=>(c0 d).1;have a6:L b2=some (.cells #[fF e] 94 (0,0)):=e'.at_;have g7:=Y.keep (λo d=>up d) (.refl _);have rc:aK L F U 0 [Value.map (some y)]:=.of_m (up b8) rfl;have re:aK L F b2 0 [fF e]:=.of_m a6 rfl;have rg:aK L F b' 17 [fF v.group]:=.of_m (up P) rfl;have e0:Ints F v.group gr:=b4.mono J;have T7:jV L:=hT.sub λz o d=>up (s4 z o d)
   have fin:∀s,EH kk (eF (pick r gr)) s->∀A M,dZ L F A->gI L M A (.cells #[sJ] 53 (0,0))->∃(cs:Array Value)(E:TypeId),sK M A (.cells cs E (0,0))/\0<cs.size/\∀m9,gI M m9 A (.cells (Array.mk (fF s::cs.toList.drop 1)) E (0,0))->
    ∃c:Nat×Nat×Nat×Nat×MH×PH,bEJ m5 F b' S b2 e f (G (eF (pick r gr))) c/\sQo b' 0=sQo c.1 0/\sQo S 0=sQo c.2.1 0/\sQo b2 0=sQo c.2.2.1 0/\sQo A 0=sQo c.2.2.2.1 0/\m9=c.2.2.2.2.1/\F=c.2.2.2.2.2/\True:=λs R A M u g=>by
    refine⟨_,_,⟨g.at_⟩,bx,λm9 e5=>⟨(b',S,b2,A,m9,F),?_,MT⟩⟩
    have c5:∀z o,L z=some o->m9 z=some o:=λz o d=>by
     have:z≠A:=λT=>by rw[T,u.m_]at d;cases d
     rw[e5.other z this,g.other z this];exact d
    exact⟨rfl,rfl,rfl,rfl,λz o d c4=>c5 z o (s7 z o d c4),C o7 c5,c5 _ _ a6,s,e5.at_,Y.at_ R⟩
   have e6:∀{A M},dZ L F A->gI L M A (.cells #[sJ] 53 (0,0))->∀z o,L z=some o->M z=some o:=fun{A M} u g z o d=>by
    have:z≠A:=λT=>by rw[T,u.m_]at d;cases d
    rw[g.other z this];exact d
   refine⟨bEJ m5 F b' S b2 e f (G (eF (pick r gr))),⟨y,rc,e,re,v.group,rg,⟨rc,e,v.group,r,gr,rfl,hv,e0,B.row r a5,d9,T7,rc,⟨re,rg,g7.get2 (λR=>⟨rc,re,rg,fin _ R⟩) (λs R=>⟨rc,re,rg,fin _ R⟩)⟩,rc,re,rg,λA M u g=>?_⟩,rc,re,rg,λA M u g=>?_⟩,?_⟩
   .have u8:=e6 u g;exact⟨.of_m (u8 _ _ a6) rfl,.of_m (u8 _ _ (up P)) rfl,(g7.keep (u8 y) (.refl _)).get2 (λR=>fin _ R A M u g) (λs R=>fin _ R A M u g)⟩
   .have u8:=e6 u g;have e7:aK M F U 0 [Value.map (some y)]:=.of_m (u8 _ _ (up b8)) rfl;exact⟨e7,e,v.group,r,gr,rfl,hv,e0,B.row r a5,d9,T7.sub u8,e7,.of_m (u8 _ _ a6) rfl,.of_m (u8 _ _ (up P)) rfl,(g7.keep (u8 y) (.refl _)).get2 (λR=>fin _ R A M u g) (λs R=>fin _ R A M u g)⟩
   .rintro⟨c1,c2,c3,A,mz,hz⟩ ⟨e1,d,T,e4,a9,c6,c7,s,c8,X⟩;dsimp only at e1 d T e4 a9 c6 c7 c8⊢
    subst e1 d T e4;have e8:∀{z o},V z=some o->mz z=some o:=fun{z o} d=>a9 z o (a3 d).1 (a3 d).2;have O:=LG N0 (od:=od) n I (B.row r a5) d8;rw[<-(Y.perm _).countP_eq]at O;refine⟨s,.of_m c8 rfl,s.len,c1,A,c3,v,od,s,e,G (eF (pick r gr)),r,wd,rfl,e8 P,c8,c7,b5.mono J,X,hv,X.slen.symm,Y.sort _,λz f8=>?_,d8,v.limit,.of_m (e8 P) rfl,?_⟩
    .have:=(Y.perm _).mem_iff.1 (show z∈_ from f8);exact n.wid z (mem_filter.1 this).1
    .rw[O];have e9:v.limit=li:=hq.parts.limit_;rw[e9];refine aE (λh1=>?_) (λh1=>?_)
     .obtain⟨so,f',c9,f0⟩:=c6.ex;refine⟨so,.of_m f' rfl,e,.of_m c7 rfl,Ii ⟨_,a2.at_⟩ a9 f' c9 f0 aC λm' f9 g'=>⟨rfl,f9,f++[e],g',ce,?_⟩⟩;rw[tL,kA _ hr,if_pos (decide_eq_true h1)];exact Q.snoc hv
     .refine⟨rfl,a9,f,c6,aC,?_⟩;rw[tL,kA _ hr,if_neg cg,append_nil];exact Q
  .rintro my F-⟨rfl,a4,f,W,c',Q⟩
   rw[f6,take_length]at Q;obtain⟨s,hb,f1,g0⟩:=W.ex;refine⟨s,.of_m hb rfl,eX.row (s5.x n9 a4) J f1 (λj z e=>?_) (λh' le g1=>hK s h' (J.trans le) ((Q.mono le).rows g1 (by have:=Q.len;omega)))⟩;cases d:m z with
   |none=>rfl
   |some o=>have e1:=g0 j z e;rw[s5 z o d]at e1;cases e1
def Uf(op:Int)(q:Query)(ls:List dl):dl:=
 if op=2 then Jo q ls else if op=3 then T3 q ls else if op=4 then Ur q ls else if op=5 then TR q ls else if op=6 then R7 q ls else if op=7 then Sw q ls else if op=8 then SD q ls else if op=9 then T1 q ls else Ig q ls
def aCQ(op:Int)(q:Query)(ls:List dl):Prop:=
 if op=2 then Ex 1 q ls else if op=3 then J2 q ls else if op=4 then J3 q ls else if op=5 then Nz q ls else if op=6 then Ex 2 q ls else if op=7 then zY q ls else if op=8 then zY q ls else if op=9 then J1 q ls else CL q ls
mutual
def eD(ls:List dl):Query->Nat->dl×Nat
 |.mk op ta w co on gr od li args,k=>if op=1 then(ls.getD k [],k+1)else(Uf op (.mk op ta w co on gr od li args) (eG ls args k).1,(eG ls args k).2)
def eG(ls:List dl):dt->Nat->List dl×Nat
 |[],k=>([],k)
 |q::qs,k=>((eD ls q k).1::(eG ls qs (eD ls q k).2).1,(eG ls qs (eD ls q k).2).2)
end
mutual
def Wo(ls:List dl):Query->Nat->Prop
 |.mk op ta w co on gr od li args,k=>if op=1 then k<ls.length else aCQ op (.mk op ta w co on gr od li args) (eG ls args k).1/\Ug ls args k
def Ug(ls:List dl):dt->Nat->Prop
 |[],_=>True
 |q::qs,k=>Wo ls q k/\Ug ls qs (eD ls q k).2
end
def bFQ:Vc.Spec:=λc m h K=>∃op,c=[cI op]/\(op=2->K (.val (.agg #[.func (.func 234) #[] #[]])) m h)/\(op=3->K (.val (.agg #[.func (.func 235) #[] #[]])) m h)/\(op=4->K (.val (.agg #[.func (.func 236) #[] #[]])) m h)/\(op=5->K (.val (.agg #[.func (.func 237) #[] #[]])) m h)/\(op=6->K (.val (.agg #[.func (.func 238) #[] #[]])) m h)/\
 (op=7->K (.val (.agg #[.func (.func 239) #[] #[]])) m h)/\(op=8->K (.val (.agg #[.func (.func 240) #[] #[]])) m h)/\(op=9->K (.val (.agg #[.func (.func 241) #[] #[]])) m h)/\((op≠2/\op≠3/\op≠4/\op≠5/\op≠6/\op≠7/\op≠8/\op≠9)->K (.val (.agg #[.func (.func 242) #[] #[]])) m h)
def Leaves(h:PH)(s:Sl)(ls:List dl):Prop:=aZ h 1 eS (λl t=>Rows h t l) s ls
def To(N:Nat):Vc.Spec:=λe m h K=>∃c v q f d k,e=[cP c,aQ v]/\bR h q v/\SizeOf.sizeOf q<N/\c≠1/\m c=some (.cells #[Sl.val f,.int .i64 (k:Nat)] 157 (0,0))/\Leaves h f d/\jV m/\Wo d q k/\
 ∀g m' h',PH.le h h'->Rows h' g (eD d q k).1->gI m m' c (.cells #[Sl.val f,.int .i64 ((eD d q k).2:Nat)] 157 (0,0))->K (cS g) m' h'
noncomputable def aZQ(N:Nat)(c:Nat)(v:QV):Ctx:=vM [(104,To N),(178,RQ),(179,bFQ),(234,Tx (Ex 1) Jo),(235,Tx J2 T3),(236,Tx J3 Ur),(237,Tx Nz TR),(238,Tx (Ex 2) R7),(239,Tx zY Sw),(240,Tx zY SD),(241,Tx J1 T1),(242,Tx CL Ig)] [(7,{A:=Nat×dj×MH×PH,st:=λ⟨i,l,m,h⟩=>bK 57 59 [(0,pv c),(3,.at (.ptr 3 0)),(6,.at (.lst 33)),(35,sv v.args),(36,iv v.args.len),(37,iv i)] [(3,.cells 38 (v.enc.map .val)),(33,.lst 226 1 (l.map λx=>[x]))] m h})] [] [] [] [] false
abbrev yQ(a:dk)(b:Nat)(c:MH)(d:PH):Prop:=a (CV.val (Value.agg (Array.mk (nT (Value.func (Fn.func b) vG vG))))) c d
attribute [push_cast] yQ
def apZ(op:Int)(m:MH)(h:PH)(K:dk):Prop:=
  cH (op==2) (yQ K 234 m h) (op==3) (yQ K 235 m h) (cH (op==4) (yQ K 236 m h) (op==5) (yQ K 237 m h) (cH (op==6) (yQ K 238 m h) (op==7) (yQ K 239 m h) (cH (op==8) (yQ K 240 m h) (op==9) (yQ K 241 m h) (yQ K 242 m h))))
noncomputable abbrev wQ:Value->dj:=fun(x:Value)=>nT x
noncomputable abbrev Gb(a:Nat×dj×MH×PH):List dj:=List.map wQ a.2.1
noncomputable abbrev oD(a:Nat×dj×MH×PH):Nat->Nat->Option Value:=a.2.2.2
noncomputable abbrev mQ(a:Nat×dj×MH×PH):Nat->Option Obj:=a.2.2.1
abbrev xO(a:Sl->(List dl)->Prop):Prop:=∃(x:Sl)(c:List dl),a x c
abbrev Bq(a:Sl->Query->Prop):Prop:=∃(x:Sl)(c:Query),a x c
attribute [push_cast] wQ Gb oD mQ xO Bq
def RB(N:Nat)(g:Nat)(v:QV)(m:MH)(h:PH)(K:dk):Prop:=
  dJ v.op 1 (kW m h g 0 (λy=>sP m h g 1 (λB=>cK y.a B y (λb o C=>aK m h b (cF o B 1) (aM C)/\sP m h g 1 (λH=>gE (λc E=>aA (sK m g (fC c E 0)) (fE 1 c) (∀(n:MH),bL m n g (nR c 1 (cO (iJ (H+1)))) E->K (fD C) n h))))))) (aA (cC (aH v.args)) (aH v.args<=aH v.args) (aA (sA (aH v.args*8)) (sA (aH v.args)) (∃(I:Nat×dj×MH×PH->Prop)(n:Nat×dj×MH×PH->Nat),(∃(x:Nat×dj×MH×PH),aA (I x) (dN g) (aA cA (eL 33) (aA (aG v.args) (rP v) (aA (aY x.1) (cG v) (bG (cD 226 1 (B6 (aH v.args) MP)=cD 226 1 (Gb x)) (cW m x.2.2) (h=oD x))))))/\∀(x:Nat×dj×MH×PH),I x->aR (↑x.1:Int) (aH v.args) (bT (λb o=>aA (bX
 v.args.a b o) (0<=(↑x.1:Int)) ((↑x.1:Int)<aH v.args/\∃(y:QV),aK (mQ x) (oD x) b (bC o x.1 21) y.enc/\∃(u:Nat),jD (λf q=>xO (λl z=>∃(k:Nat),aA (bJ (bY g) (dE y)=bJ (bY u) (dE f)) (bR (oD x) q f) (aA (lX q N) (kF (u=1)) (aA (x.2.2.1 u=Option.some (fC (Array.mk (kR (fF l) (fB (↑k:Int)))) 157 0)) (Leaves (oD x) l z) (aA (jV (mQ x)) (Wo z q k) (∀(s:Sl),gU (λD d=>dD (oD x) d (Rows d s (eD z q k).1) (bL (mQ x) D u (kR (fF l) (fB (↑(eD z q k).2:Int))) 157->∃(F:Sl),mD (p9 s F) (λG=>∀(A:PH),dD d A (jB A G 0 F) (BZ (↑x.1:Int) (jY (Gb x)) (λe=>aA (uN (Gb x) (sU x.1) e) (0<e.length) (∃(j:Nat×dj×MH×PH),aA (I j) (n
 j<n x) (aA (dN g) cA (aA (eL 33) (aG v.args) (aA (rP v) (aU (aW x.1 1) j.1) (Aa (cG v) (cD 226 1 (List.set (Gb x) (sU x.1) (Value.func (Fn.func 233) vG (Dm G)::List.drop 1 e))=cD 226 1 (Gb j)) (cW D j.2.2) A (oD j)))))))))))))))))))) (∃(o:Int),aA (rQ v.op o) (o=2->bU (oD x) 1 (List.map wQ x.2.1) (λs d=>∃(f:QV),Bq (λt q=>Af (λb l=>aA (jW v s=jW f t) (bR d q f) (aA (tN d t b l) (jV (mQ x)) (Ex 1 q l/\qP d (Jo q l) K (mQ x))))))) (aA (o=3->bU (oD x) 1 (List.map wQ x.2.1) (λs d=>∃(f:QV),Bq (λt q=>Af (λb l=>aA (jW v s=jW f t) (bR d q f) (aA (tN d t b l) (jV (mQ x)) (J2 q l/\qP d (T3 q l) K (mQ x))))))) (o=
 4->bU (oD x) 1 (List.map wQ x.2.1) (λs d=>∃(f:QV),Bq (λt q=>Af (λb l=>aA (jW v s=jW f t) (bR d q f) (aA (tN d t b l) (jV (mQ x)) (J3 q l/\qP d (Ur q l) K (mQ x))))))) (aA (o=5->bU (oD x) 1 (List.map wQ x.2.1) (λs d=>∃(f:QV),Bq (λt q=>Af (λb l=>aA (jW v s=jW f t) (bR d q f) (aA (tN d t b l) (jV (mQ x)) (Nz q l/\qP d (TR q l) K (mQ x))))))) (o=6->bU (oD x) 1 (List.map wQ x.2.1) (λs d=>∃(f:QV),Bq (λt q=>Af (λb l=>aA (jW v s=jW f t) (bR d q f) (aA (tN d t b l) (jV (mQ x)) (Ex 2 q l/\qP d (R7 q l) K (mQ x))))))) (aA (o=7->bU (oD x) 1 (List.map wQ x.2.1) (λs d=>∃(f:QV),Bq (λt
 q=>Af (λb l=>aA (jW v s=jW f t) (bR d q f) (aA (tN d t b l) (jV (mQ x)) (zY q l/\qP d (Sw q l) K (mQ x))))))) (o=8->bU (oD x) 1 (List.map wQ x.2.1) (λs d=>∃(f:QV),Bq (λt q=>Af (λb l=>aA (jW v s=jW f t) (bR d q f) (aA (tN d t b l) (jV (mQ x)) (zY q l/\qP d (SD q l) K (mQ x))))))) ((o=9->bU (oD x) 1 (List.map wQ x.2.1) (λs d=>∃(f:QV),Bq (λt q=>Af (λb l=>aA (jW v s=jW f t) (bR d q f) (aA (tN d t b l) (jV (mQ x)) (J1 q l/\qP d (T1 q l) K (mQ x)))))))/\(aA (kF (o=2)) (kF (o=3)) (aA (kF (o=4)) (kF (o=5)) (aA (kF (o=6)) (kF (o=7)) (kF (o=8)/\kF (o=9))))->bU (oD x) 1 (List.map
 wQ x.2.1) (λs d=>∃(f:QV),Bq (λt q=>Af (λb l=>aA (jW v s=jW f t) (bR d q f) (aA (tN d t b l) (jV (mQ x)) (CL q l/\qP d (Ig q l) K (mQ x)))))))))))))))
theorem XV:di 179 bFQ:=by
 refine gO func179 ?_;rintro c m h K ⟨op,rfl,d,f,g,j,n,o,u,y,z⟩;refine⟨dG [] [] [] [] false,rfl,aF,apZ op m h K,bu,?_⟩;exact(aB (λe=>d (cm e)) λA=>aB (λe=>f (cm e)) λB=>aB (λe=>g (cm e)) λC=>aB (λe=>j (cm e)) λD=>aB (λe=>n (cm e)) λE=>aB (λe=>o (cm e)) λF=>aB (λe=>u (cm e)) λG=>aB (λe=>y (cm e)) λH=>z ⟨cg,cg,cg,cg,cg,cg,cg,cg⟩)
theorem LK{ls:List dl}{q:Query}:∀{a:dt}{k:Nat},eG ls (a++[q]) k=((eG ls a k).1++[(eD ls q (eG ls a k).2).1],(eD ls q (eG ls a k).2).2)
 |[],k=>by simp[eG]
 |p::a,k=>by
  rw[cons_append,eG,LK];simp[eG]
theorem Y3{ls:List dl}{q:Query}{b:dt}:∀{a:dt}{k:Nat},Ug ls (a++q::b) k->Wo ls q (eG ls a k).2
 |[],k,h=>by rw[nil_append,Ug]at h;simpa[eG]using h.1
 |p::a,k,h=>by
  rw[cons_append,Ug]at h;rw[eG];exact Y3 h.2
theorem HD{ls:List dl}:∀{a:dt}{k:Nat},(eG ls a k).1.length=a.length
 |[],k=>by simp[eG]
 |p::a,k=>by rw[eG];simp[HD]
theorem Vy:∀N,di 104 (To N)
 |0=>by
  refine eC (fn:=Tryz.f104) (c:=cL Tryz.f104) func104 rfl bz ?_;rintro b0 m h K ⟨P,v,q,W,d,k,rfl,_,hN,_⟩;omega
 |N+1=>by
  refine gO func104 ?_;rintro b0 m h K ⟨P,v,q,W,d,k,rfl,hq,hN,X,H,I,hT,C,Y⟩;refine⟨aZQ N P v,rfl,aD (Vy N) (aD XW (aD XV (aD Xn (aD Xm (aD Xl (aD Xk (aD Xj (aD Xi (aD Xh (aD Xg (aD Xf aF))))))))))),RB N P v m h K,bu,?_⟩;dsimp only[RB,push_cast];obtain⟨op,ta,w,co,on,gr,od,li,args⟩:=q;have xq:=hq.parts;rw[eD]at Y;rw[Wo]at C;have Z:v.op=op:=xq.op_;refine aB (λe=>?_) (λe=>?_)
  .have e:op=1:=cg
   rw[if_pos e]at C;simp only[if_pos e]at Y;have c2:=aZ.slen I;obtain⟨b,o,s,ea,rd,hr⟩:=aZ.at I (cq C);have r0:aK m h P 0 [fF W]:=.of_m H rfl;have r1:aK m h P 1 [fB (k:Nat)]:=.of_m H rfl;have c6:=I.len;refine⟨W,r0,k,r1,b,o,ea,aC,aC,s,.imm rd,k,r1,_,_,⟨H⟩,bx,λm' J=>Y s m' h (.refl _) ?_ ?_⟩
   .grind
   .have e5:IntKind.i64.wrap ((k:Int)+1)=((k+1:Nat):Int):=by rw[fP aC]
    rw[e5]at J;exact J
  .have e:op≠1:=cg
   rw[if_neg e]at C;simp only[if_neg e]at Y;obtain⟨L,c3⟩:=C;have n:=xq.args_;have b1:=aZ.slen n;have c4:=aZ.len n
   refine⟨aC,aC,aC,aC,λz=>z.1<=args.length/\PH.le h z.2.2.2/\gI m z.2.2.1 P (.cells #[Sl.val W,.int .i64 ((eG d (args.take z.1) k).2:Nat)] 157 (0,0))/\∃D:eh,D.length=z.1/\z.2.1=D.map Pf++replicate (args.length-z.1) .nilFunc/\∀j b l,D[j]? =some b->(eG d (args.take z.1) k).1[j]? =some l->Pp z.2.2.2 b l,λz=>args.length-z.1,
    ⟨(0,replicate args.length .nilFunc,m,h),⟨bx,.refl _,⟨by dsimp only;rw[take_zero,eG];exact H,λ_ _=>rfl⟩,[],rfl,bx,λj b l h1 _=>by rw[getElem?_nil]at h1;cases h1⟩,?_⟩,?_⟩
   .rw[show((v.args.len:Int)).toNat=args.length by omega];dsimp only;rw[map_replicate];exact MT
   .rintro⟨i,l,zm,zh⟩ ⟨hi,g,J,D,Q,hl,y⟩;dsimp only at hi g J Q hl y⊢
    have a':jV zm:=by
     obtain⟨T,fz,e1⟩:=hT;exact⟨T,fz,by rw[J.other 1 (Ne.symm X)];exact e1⟩
    refine aE (λb3=>?_) (λc7=>?_)
    .obtain⟨p,hp⟩:=eN b1 b3;obtain⟨b,o,u,ea,b4,b6⟩:=aZ.at (Cn.mono n g) hp;have b7:=(cn hp)
     have b8:SizeOf.sizeOf p<N:=by
      have:=sizeOf_lt_of_mem (cr hp)
      grind
     have b':args=args.take i++p::args.drop (i+1):=by
      have A:args[i]=p:=(List.getElem?_eq_some_iff.1 hp).2;rw[<-A,getElem_cons_drop b7,take_append_drop]
     have a0:Wo d p (eG d (args.take i) k).2:=Y3 (b:=args.drop (i+1)) cg
     have a1:eG d (args.take (i+1)) k=((eG d (args.take i) k).1++[(eD d p (eG d (args.take i) k).2).1],(eD d p (eG d (args.take i) k).2).2):=by
      rw[db,hp,Option.toList_some,LK]
     refine⟨b,o,ea,aC,aC,u,.imm b4,P,u,p,W,d,(eG d (args.take i) k).2,rfl,b6,b8,X,J.at_,aZ.mono I g (λl s hr=>aZ.mono hr g λr t hv=>bI.mono hv g),a',a0,λO m' h' B a2 a3=>⟨O,rfl,λb2 h2 M a4=>?_⟩⟩;have c8:l.length=args.length:=cg
     have b9:l[i]? =some .nilFunc:=by
      grind
     refine⟨aC,ce,[.nilFunc],by simp[b9],bx,(i+1,l.set i (Pf b2),m',h2),⟨aC,g.trans (B.trans M),?_,D++[b2],by simp[Q],?_,?_⟩,aC,?_⟩
     .dsimp only;rw[a1];exact⟨a3.at_,λb5 a5=>by rw[a3.other b5 a5,J.other b5 a5]⟩
     .grind
     .dsimp only;rw[a1];intro j b5 l5 A E;have c':(eG d (args.take i) k).1.length=D.length:=by rw[HD,length_take];omega
      by_cases hj:j<D.length
      .rw[getElem?_append_left hj]at A;rw[getElem?_append_left aC]at E;exact(y j b5 l5 A E).mono (B.trans M)
      .rw[getElem?_append_right aC]at A;rw[getElem?_append_right aC]at E;have:j-D.length=0:=cg
       rw[this]at A;rw[c',this]at E;simp at A E;subst A E
       obtain⟨S,U,R⟩:=(show∃S,bN h' O 1 (S.map eS)/\dT h' S _ from by
        obtain⟨S,U,R,V⟩:=a2.ex;exact⟨S,U,R.symm,V⟩)
       exact⟨S,⟨O,a4,U.mono M,by have V:=a2.len;rw[R.len];exact V⟩,R.mono M⟩
     .dsimp only;rw[fP aC]
      have e9:((l.map λx=>[x]).set ((i:Int)).toNat (Pf b2::List.drop 1 [.nilFunc]))=(l.set i (Pf b2)).map λx=>[x]:=by
       rw[map_set];rfl
      exact⟨MT,rfl,rfl,rfl,rfl,rfl,rfl,by rw[<-e9];rfl,rfl,rfl,trivial⟩
    .have c0:i=args.length:=by omega
     subst c0;rw[take_length]at J y;rw[Nat.sub_self,replicate_zero,append_nil]at hl
     have fin:∀{okF:Query->List dl->Prop}{f:Query->List dl->dl},okF (.mk op ta w co on gr od li args) (eG d args k).1->Uf op (.mk op ta w co on gr od li args) (eG d args k).1=f (.mk op ta w co on gr od li args) (eG d args k).1->∀(s:Sl)(h':PH),zh.le h'->bN h' s 1 (l.map λx=>[x])->
      ∃(v1:QV)(t:Sl)(q:Query)(D:eh)(d:List dl),[aQ v,cS s]=[aQ v1,cS t]/\bR h' q v1/\tN h' t D d/\jV zm/\okF q d/\∀(O:Sl)(F:PH),h'.le F->Rows F O (f q d)->K (cS O) zm F:=fun{okF f} h1 h2 s h' B a6=>by
      refine⟨v,s,_,D,_,rfl,hq.mono (g.trans B),⟨?_,by rw[HD];exact Q,λj b l5 A E=>(y j b l5 A E).mono B⟩,a',h1,λO c1 a9 hr=>Y O zm c1 (g.trans (B.trans a9)) cg J⟩;rw[hl,map_map]at a6;exact a6
     have c5:=L;refine⟨op,by rw[Z],λG=>fin (okF:=Ex 1) ?_ ?_,λG=>fin (okF:=J2) ?_ ?_,λG=>fin (okF:=J3) ?_ ?_,λG=>fin (okF:=Nz) ?_ ?_,λG=>fin (okF:=Ex 2) ?_ ?_,λG=>fin (okF:=zY) ?_ ?_,λG=>fin (okF:=zY) ?_ ?_,λG=>fin (okF:=J1) ?_ ?_,λG=>fin (okF:=CL) ?_ ?_⟩
     all_goals first
      |(subst G;exact L)
      |(subst G;rfl)
      |(obtain⟨h2,h3,h4,A,E,U,R,V⟩:=G;first|(rw[aCQ,if_neg h2,if_neg h3,if_neg h4,if_neg A,if_neg E,if_neg U,if_neg R,if_neg V]at L;exact L)|(rw[Uf,if_neg h2,if_neg h3,if_neg h4,if_neg A,if_neg E,if_neg U,if_neg R,if_neg V]))
def Z2:Vc.Spec:=λc m h K=>∃s r,c=[cS s]/\bI h s r/\r.length<=1000/\∀d h',PH.le h h'->bI h' d r->K (cS d) m h'
def ZH:Vc.Spec:=λd m h K=>∃e v c q,d=[cS e,aQ v]/\Leaves h e c/\bR h q v/\Wo c q 0/\jV m/\(eD c q 0).1.length<=8000000/\(∀r∈(eD c q 0).1,r.length<=1000)/\∀f h',PH.le h h'->Rows h' f (eD c q 0).1->K (cS f) m h'
noncomputable def bpX(N:Nat):Ctx:=vM [(104,To N),(78,Z2)] [(5,{A:=Nat×dq×Sl×MH×PH,st:=λ⟨i,c,s,m,h⟩=>bK 31 33 [(7,.at (.lst 16)),(17,sv s),(18,iv s.len),(19,iv i)] [(16,.lst 94 1 (c.map eS))] m h})] [] [] [200005] [] false
def UO(a:Addr)(n c:Nat)(m:MH)(h:PH)(K:dk):Prop:=
  ∃(y:List dj),aA (cT 3 y) (bN h (Sl.mk (Option.some a) n c) 3 y) (aA (gS (Dw y*32)) (gS (Dw y)) (bU h 3 ([]++y) (λs d=>K (fD s) m d)))
theorem bPQ(a:Addr)(n c:Nat)(m:MH)(h:PH)(K:dk):UO a n c m h K=(Bx (dG [] [] [] [] false) Tryz.f78 (cL Tryz.f78) (entry Tryz.f78.ntmps [.val (.slice (some a) n c)] m h) K):=bu
def Qe(n c:Nat)(m:MH)(h:PH)(K:dk):Prop:=
  K nK m h
theorem bnJ(n c:Nat)(m:MH)(h:PH)(K:dk):Qe n c m h K=(Bx (dG [] [] [] [] false) Tryz.f78 (cL Tryz.f78) (entry Tryz.f78.ntmps [.val (.slice none n c)] m h) K):=bu
abbrev rY(a:dn):Prop:=nV a.length
attribute [push_cast] rY
def US(N:Nat)(G:Sl)(v:QV)(m:MH)(h:PH)(K:dk):Prop:=
  ∀(b:Nat)(n:MH),aT (dZ m h b) (bL m n b (kR sJ eH) 157) (gE (λc E=>aA (sK n b (fC c E 0)) (2<=c.size) (∀(f:MH),bL n f b (a8 (fF G) eH (List.drop 2 c.toList)) E->∃(g:Nat),jD (λA q=>xO (λl j=>∃(k:Nat),aA (bJ (bY b) (dE v)=bJ (bY g) (dE A)) (bR h q A) (aA (lX q N) (kF (g=1)) (aA (f g=Option.some (fC (Array.mk (kR (fF l) (fB (↑k:Int)))) 157 0)) (Leaves h l j) (aA (jV f) (Wo j q k) (∀(s:Sl),gU (λB u=>dD h u (Rows u s (eD j q k).1) (bL f B g (kR (fF l) (fB (↑(eD j q k).2:Int))) 157->aA (cC (aH s)) (aH s<=aH s) (aA (sA (aH s*24)) (sA (aH s)) (Mt (λI x=>aA (I x) (eL 16) (aA (bF s (fL x)) (dA s (fL x)) (aA (aY x.1) (cD 94 1
 (B6 (aH s) iA)=BV x) (aA (gH B x.2.2) (u=kY x) True)))) (λI C x=>I x->aR (↑x.1:Int) (aH (fL x)) (cK (fL x).a (↑x.1:Int) (fL x) (λH o y=>aK (p6 x) (kY x) H (bC o x.1 1) (aM y)/\pL (λD r=>aA (p9 y D) (bI (kY x) D r) (rY r/\jT (λF z=>dD (kY x) z (bI z F r) (BZ (↑x.1:Int) (jY (oG x)) (λe=>NN (uN (oG x) (sU x.1) e) (0<e.length) (λd=>aA (I d) (C d<C x) (aA (eL 16) (bF (fL x) (fL d)) (aA (dA (fL x) (fL d)) (aU (aW x.1 1) d.1) (aA (cD 94 1 (List.set (oG x) (sU x.1) (fF F::List.drop 1 e))=BV d) (gH (p6 x) d.2.2) (bH z (kY d))))))))))))) (oB (kY x) (oG x) K (p6 x))))))))))))))))
theorem aiQ:di 78 Z2:=by
 refine eC (fn:=Tryz.f78) (c:=cL Tryz.f78) func78 rfl bz ?_;rintro z m h K ⟨⟨a,n,c⟩,r,rfl,f,G,g⟩;refine⟨dG [] [] [] [] false,rfl,aF,?_⟩;cases a with
 |none=>
  show Bx _ Tryz.f78 (cL Tryz.f78) (entry Tryz.f78.ntmps [.val (.slice none n c)] m h) K;rw[<-bnJ n c m h K];dsimp only[Qe,push_cast];refine g ⟨none,0,0⟩ h (.refl _) ?_;cases r with
  |nil=>exact⟨⟨[],bN.nil _ _,rfl,λi x A=>by simp at A⟩,bx⟩
  |cons x r=>
   obtain⟨b,o,v,e,_⟩:=aZ.at f (i:=0) (x:=x) rfl;cases e
 |some a=>
  show Bx _ Tryz.f78 (cL Tryz.f78) (entry Tryz.f78.ntmps [.val (.slice (some a) n c)] m h) K;rw[<-bPQ a n c m h K];dsimp only[UO,push_cast];obtain⟨⟨j,B,C,D⟩,E⟩:=f;refine⟨j.map VV.enc,?_,B,cg,cg,λs h' le F=>g s h' le ⟨⟨j,cg,C,D⟩,E⟩⟩;constructor
  .intro e d;obtain⟨x,_,rfl⟩:=mem_map.1 d;rfl
  .intro e d u y;obtain⟨x,_,rfl⟩:=mem_map.1 d;simp[VV.enc]at y;rcases y with rfl|rfl|rfl<;>rfl
theorem ajZ:di 60 ZH:=by
 refine Ht func60 ?_;rintro a0 m h K ⟨U,v,V,q,rfl,F,hq,G,W,hl,X,Y⟩;refine⟨bpX (SizeOf.sizeOf q+1),rfl,aD (Vy _) (aD aiQ aF),US (SizeOf.sizeOf q+1) U v m h (lQ h K),bu,?_⟩;dsimp only[US,push_cast];intro b m1 H n;obtain⟨s1,Z⟩:=kU (Sub.refl m) H n;refine⟨_,_,⟨n.at_⟩,bx,λm2 y=>?_⟩;have s2:Sub m m2:=s1.upd Z y.other
 have A:b≠1:=λe=>by
  obtain⟨T,fz,I⟩:=W
  grind
 refine⟨b,v,q,U,V,0,rfl,hq,aC,A,y.at_,F,W.sub s2,G,λs J L B M O=>?_⟩;have s3:Sub m J:=s2.upd Z O.other;generalize (eD V q 0).1=rs at hl X Y M;have a1:=aZ.slen M;refine⟨aC,aC,aC,aC,λz=>z.1<=rs.length/\z.2.2.1=s/\z.2.2.2.1=J/\PH.le L z.2.2.2.2/\∃C,z.2.1=C++replicate (rs.length-z.1) ⟨none,0,0⟩/\dT z.2.2.2.2 C (rs.take z.1),λz=>rs.length-z.1,⟨(0,replicate rs.length ⟨none,0,0⟩,s,J,L),⟨bx,rfl,rfl,.refl _,[],bx,cm (dT.nil L)⟩,?_⟩,?_⟩
 .rw[show((s.len:Int)).toNat=rs.length by omega];dsimp only;rw[map_replicate];exact MT
 .rintro⟨i,d,s',m',hz⟩ ⟨hi,I,e2,c,C,g,f⟩;dsimp only at hi I e2 c g f⊢
  subst I e2;have P:=f.len;rw[length_take]at P;refine aE (λa2=>?_) (λa3=>?_)
  .have D:i<rs.length:=by omega
   obtain⟨b2,o,u,ea,rd,hv⟩:=aZ.at M (cq D);have a':d.length=rs.length:=cg
   have Q:d[i]? =some ⟨none,0,0⟩:=by
    grind
   refine⟨b2,o,ea,aC,aC,u,.imm ((rd.mono c)),u,rs[i],rfl,bI.mono hv c,X _ (getElem_mem _),λsc h5 E R=>⟨aC,cg,[sJ],by rw[getElem?_map,show((i:Int)).toNat=i from rfl,Q];rfl,bx,(i+1,d.set i sc,s',m',h5),⟨aC,rfl,rfl,c.trans E,C++[sc],?_,?_⟩,aC,?_⟩⟩
   .dsimp only;rw[g,set_append,if_neg aC,append_assoc];congr 1;rw[show rs.length-i=(rs.length-(i+1))+1 by omega,replicate_succ,show i-C.length=0 by omega];rfl
   .dsimp only;rw[db,cq D];exact(f.mono E).snoc R
   .dsimp only
    have e9:((d.map eS).set ((i:Int)).toNat (fF sc::List.drop 1 [sJ]))=(d.set i sc).map eS:=by
     rw[map_set];rfl
    exact⟨MT,rfl,rfl,by rw[fP aC],by rw[<-e9],rfl,rfl,trivial⟩
  .have:i=rs.length:=by omega
   subst this;rw[Nat.sub_self,replicate_zero,append_nil]at g;subst g;rw[take_length]at f;intro s6 h6 j S;exact⟨m,h6,s3,B.trans (c.trans j),.refl _,Y s6 h6 (B.trans (c.trans j)) ((f.mono j).rows S aC)⟩
mutual
def Am(h:PH):Query->QV->Nat->ez->Prop
 |.mk _ _ _ _ _ _ _ _ args,v,d,f=>∃e c,bN h v.args 21 (e.map QV.enc)/\lD h args e (d+1) c/\f=(d,v)::c
def lD(h:PH):dt->eu->Nat->ez->Prop
 |[],e,_,f=>e=[]/\f=[]
 |q::qs,e,d,f=>∃v c g j,e=v::c/\bR h q v/\Am h q v d g/\lD h qs c d j/\f=g++j
end
def byJ(e:Nat×QV):dj:=[.int .i64 (e.1:Nat),.agg e.2.enc.toArray]
def Tc(N:Nat):Vc.Spec:=λc m h K=>∃(v:QV)(q:Query)(d l f:Nat)(g xs:ez)(J:Nat->MH->PH->Prop),c=[aQ v,cI d,.val (.func (.yield l) #[] #[])]/\Am h q v d g/\SizeOf.sizeOf q<N/\d+nW q<=8000000/\(∀j e,g[j]? =some e->xs[f+j]? =some e)/\J f m h/\
 (∀k e m' h',xs[k]? =some e->PH.le h h'->J k m' h'->YDo Tryz.prog l (byJ e) m' h' (λr o n=>r=true/\PH.le h' n/\J (k+1) o n))/\
 ∀m' h',PH.le h h'->J (f+g.length) m' h'->K (cB true) m' h'
noncomputable def apJ(N:Nat)(v:QV)(d l:Nat):Ctx:=
 {dG [(173,Tc N)] [(4,{A:=Nat×MH×PH,st:=λ⟨i,m,h⟩=>bK 28 31 [(1,iv d),(2,vv (.func (.yield l) #[] #[])),(15,sv v.args),(16,iv v.args.len),(17,iv i)] [] m h})] [] [] false with yield:=some (a3X Tryz.prog)}
def Tb:PH->dj->List dj->Prop:=λh c xs=>∃b v q d,c=[.pointer (some ⟨b,0,none⟩)]/\bB h b 0 (QV.enc v)/\Am h q v 1 d/\nW q<=900000/\xs=d.map byJ
def Zy:Vc.Spec:=λc m h K=>∃v,c=[aQ v]/\∀b h',PH.le h h'->bB h' b 0 (QV.enc v)->K (.val (.func (.func 172) #[] #[.pointer (some ⟨b,0,none⟩)])) m h'
abbrev Jg(a:Nat->(Nat×QV)->Prop):Prop:=∀(x:Nat)(c:Nat×QV),a x c
abbrev D1(a:ez)(b:Nat)(c:Nat×QV):Prop:=a[b]? =Option.some c
attribute [push_cast] Jg D1
def OA(N:Nat)(v:QV)(d l:Nat)(m:MH)(h:PH)(K:dk):Prop:=
  MQ (a3X Proofs.Tryz.prog)/\∃(D:Nat)(E:dj)(R:Bool->MH->PH->Prop),aA (B8 l::bJ (fQ (↑d:Int)) (dE v)=B8 D::List.map CV.val E) (YDo Proofs.Tryz.prog D E m h R) (∀(u:Bool),gU (λz A=>hU (R u z A) (!u) (K aX z A) (∃(I:Nat×MH×PH->Prop)(F:Nat×MH×PH->Nat),(∃(x:Nat×MH×PH),aA (I x) (eQ (vK d)) (aA (D2 l) (aG v.args) (aA (rP v) (aY x.1) (aA (cW z x.2) (A=dO x) True))))/\∀(x:Nat×MH×PH),I x->aR (↑x.1:Int) (aH v.args) (bT (λb o=>aA (bX v.args.a b o) (0<=(↑x.1:Int)) ((↑x.1:Int)<aH v.args/\∃(y:QV),aK (fV x) (dO x) b (bC o x.1 21) y.enc/\jD (λG q=>bT (λB H=>∃(k:Nat)(e L:ez)(J:Nat->MH->PH->Prop),aA (AK y (aW d 1) l=AK G (↑B:
 Int) H) (Am (dO x) q G B e) (aA (lX q N) (B+nW q<=8000000) (aA (Jg (λj f=>D1 e j f->D1 L (k+j) f)) (J k (fV x) (dO x)) (Jg (λC f=>gU (λg c=>aT (D1 L C f) (PH.le (dO x) c) (J C g c->YDo Proofs.Tryz.prog H (kR (fB (↑f.1:Int)) (Value.agg (Array.mk f.2.enc))) g c (fun(r:Bool)=>fun(O:MH)=>fun(M:PH)=>aA (gG r) (PH.le c M) (J (cE C) O M)))))/\gU (λg c=>dD (dO x) c (J (k+e.length) g c) (∃(n:Nat×MH×PH),aA (I n) (F n<F x) (aA (eQ (vK d)) (D2 l) (aA (aG v.args) (a7 v.args) (aA (aU (aW x.1 1) n.1) (cW g n.2) (bH c (dO n))))))))))))))) (K eW (fV x) (dO x)))))
def XZ(N:Nat)(l z:Nat)(m:MH)(h:PH)(K:dk):Prop:=
  ∃(y:QV),aK m h z 0 y.enc/\jD (λv q=>bT (λd o=>∃(k:Nat)(e x:ez)(J:Nat->MH->PH->Prop),aA (AK y 1 l=AK v (↑d:Int) o) (Am h q v d e) (aA (lX q N) (d+nW q<=8000000) (aA (Jg (λj f=>D1 e j f->D1 x (k+j) f)) (J k m h) (Jg (λn f=>gU (λg c=>aT (D1 x n f) (PH.le h c) (J n g c->YDo Proofs.Tryz.prog o (kR (fB (↑f.1:Int)) (Value.agg (Array.mk f.2.enc))) g c (fun(r:Bool)=>fun(A:MH)=>fun(u:PH)=>aA (gG r) (PH.le c u) (J (cE n) A u)))))/\gU (λg c=>dD h c (J (k+e.length) g c) (K (CV.tup []) g c)))))))
def ab(v:QV)(m:MH)(h:PH)(K:dk):Prop:=
  ∀(b:Nat)(C:MH),aT (dZ m h b) (bL m C b iA 33) (∃(D:QV),mD (uK v D) (λF=>∀(o:PH),dD h o (bB o F 0 D.enc) (∃(S:PH->dj->List dj->Prop)(x:List (Int×QV))(I:Nat->MH->PH->Prop),aA (HP Proofs.Tryz.prog 172 S) (S o (nT (vQp F 0)) (List.map (fun(g:Int×QV)=>kR (fB g.1) (Value.agg (Array.mk g.2.enc))) x)) (aA (I 0 C o) (∀(k:Nat)(e:Int)(d:QV),gU (λj f=>aT (x[k]? =Option.some (e,d)) (PH.le o f) (I k j f->∀(u:Nat)(z:MH),aT (dZ j f u) (bL j z u zV 38) (gE (λc E=>aA (sK z u (fC c E 0)) (21<=c.size) (∀(n:MH),bL z n u (a8 (fB d.op) (fB d.table) (a8 (fB d.where_.op) (fB d.where_.cmp) (a8 (qZ (mZ d)) (rA (mZ d)) (a8 (fB (lG (mZ d))) (lZ (mZ d)) (a8
 (kZ (mZ d)) (qZ (gV d)) (a8 (rA (gV d)) (kM (gV d)) (a8 (lZ (gV d)) (kZ (gV d)) (a8 (Fb d) (Fc d) (a8 (fF d.on) (fF d.group) (a8 (fF d.order) (fB d.limit) (jC (fF d.args) 21 c))))))))))) E->sP n f u 0 (λy=>dJ y 1 (kW n f b 0 (λG=>sP n f u 1 (λJ=>∃(g:List dj),aA (cM n (bD G) 3 1 g) (yE g) (dH g/\fX (λs A=>bV n A (bD G) s 3 1 (dY g (cO J))->gE (λB E1=>aA (sK A b (fC B E1 0)) (fE 0 B) (∀(H:MH),bL A H b (jC (fF s) 1 B) E1->I (cE k) H f))))))) (I (cE k) n f)))))))) (gU (λj f=>dD o f (I x.length j f) (kW j f b 0 (λy=>K (fD y) j f))))))))
mutual
theorem Am.mono{h h':PH}(le:PH.le h h'):∀{q:Query}{v:QV}{d:Nat}{es:ez},Am h q v d es->Am h' q v d es
 |.mk _ _ _ _ _ _ _ _ args,v,d,es,w=>by
  rw[Am]at w⊢
  obtain⟨e,c,f,g,j⟩:=w;exact⟨e,c,f.mono le,lD.mono le g,j⟩
theorem lD.mono{h h':PH}(le:PH.le h h'):∀{qs:dt}{vs:eu}{d:Nat}{es:ez},lD h qs vs d es->lD h' qs vs d es
 |[],vs,d,es,w=>by rw[lD]at w⊢;exact w
 |q::qs,vs,d,es,w=>by
  rw[lD]at w⊢
  obtain⟨v,c,e,f,g,j,n,o,u⟩:=w;exact⟨v,c,e,f,g,j.mono le,Am.mono le n,lD.mono le o,u⟩
end
theorem lD.len{h:PH}:∀{qs:dt}{vs:eu}{d:Nat}{es:ez},lD h qs vs d es->vs.length=qs.length
 |[],vs,d,es,w=>by rw[lD]at w;grind
 |q::qs,vs,d,es,w=>by
  rw[lD]at w;obtain⟨v,c,g,j,e,n,o,f,u⟩:=w;rw[e,de,de,lD.len f]
mutual
theorem Am.of{h:PH}:∀{q:Query}{v:QV},bR h q v->∀d,∃es,Am h q v d es
 |.mk _ _ _ _ _ _ _ _ args,v,e,d=>by
  obtain⟨_,_,_,_,_,_,_,_,_,g,f,c⟩:=e;obtain⟨es,j⟩:=lD.of c (d+1);exact⟨(d,v)::es,by rw[Am];grind⟩
theorem lD.of{h:PH}:∀{qs:dt}{vs:eu},pD h qs vs->∀d,∃es,lD h qs vs d es
 |[],vs,c,d=>⟨[],by rw[lD];exact⟨c,rfl⟩⟩
 |q::qs,vs,c,d=>by
  obtain⟨v,e,rfl,f,g⟩:=c;obtain⟨j,o⟩:=Am.of f d;obtain⟨n,u⟩:=lD.of g d;exact⟨j++n,by rw[lD];grind⟩
end
mutual
def eE:Query->dm
 |.mk op ta _ _ _ _ _ _ args=>(if op=1 then[ta]else[])++dV args
def dV:dt->dm
 |[]=>[]
 |q::qs=>eE q++dV qs
end
def Be(es:ez):dm:=(es.filter λe=>e.2.op==1).map λe=>e.2.table
theorem JU{a b:ez}:Be (a++b)=Be a++Be b:=by simp[Be]
mutual
theorem Am.scans{h:PH}:∀{q:Query}{v:QV}{d:Nat}{es:ez},bR h q v->Am h q v d es->Be es=eE q
 |.mk op ta _ _ _ _ _ _ args,v,d,es,e,w=>by
  rw[Am]at w;obtain⟨j,c,n,f,rfl⟩:=w;obtain⟨g,o,_⟩:=e;rw[eE, <-lD.scans f,show((d,v)::c)=[(d,v)]++c from rfl,JU];congr 1;simp only[Be,filter_cons,filter_nil,g]
  grind
theorem lD.scans{h:PH}:∀{qs:dt}{vs:eu}{d:Nat}{es:ez},lD h qs vs d es->Be es=dV qs
 |[],vs,d,es,w=>by rw[lD]at w;rw[w.2];rfl
 |q::qs,vs,d,es,w=>by
  rw[lD]at w;obtain⟨v,c,j,n,o,e,f,g,rfl⟩:=w;rw[JU,dV,Am.scans e f,lD.scans g]
end
mutual
theorem Am.small{h:PH}:∀{q:Query}{v:QV}{d:Nat}{es:ez},Am h q v d es->es.length<=nW q
 |.mk op ta _ _ _ _ _ _ args,v,d,es,w=>by
  rw[Am]at w;obtain⟨f,c,g,e,rfl⟩:=w;have:=lD.small e;simp only[de,nW];omega
theorem lD.small{h:PH}:∀{qs:dt}{vs:eu}{d:Nat}{es:ez},lD h qs vs d es->es.length<=qH qs
 |[],vs,d,es,w=>by rw[lD]at w;grind
 |q::qs,vs,d,es,w=>by
  rw[lD]at w;obtain⟨v,c,g,j,n,o,e,f,rfl⟩:=w;have u:=Am.small e;have y:=lD.small f;simp only[ct,qH];omega
end
theorem bzQ:∀q:Query,1<=nW q
 |.mk _ _ _ _ _ _ _ _ _=>by rw[nW];omega
theorem Y6:∀l:dt,l.length<=qH l
 |[]=>bx
 |a::l=>by have:=Y6 l;have:=bzQ a;simp only[de,qH];omega
theorem SY:∀{l:dt}{a:Query},a∈l->nW a<=qH l
 |b::l,a,h=>by
  rw[qH];rcases mem_cons.1 h with rfl|h
  .omega
  .have:=SY h;omega
theorem Rc:∀N,di 173 (Tc N)
 |0=>by
  refine eC (fn:=Tryz.f173) (c:=cL Tryz.f173) func173 rfl bz ?_;rintro V m h K ⟨v,q,d,l,U,es,xs,J,rfl,_,hN,_⟩;omega
 |N+1=>by
  refine gO func173 ?_;rintro V m h K ⟨v,q,d,l,U,es,xs,J,rfl,hw,hN,hd,hx,h0,f,D⟩;refine⟨apJ N v d l,rfl,aD (Rc N) aF,OA N v d l m h K,bu,?_⟩;dsimp only[OA,push_cast];obtain⟨op,ta,w,co,on,gr,od,li,args⟩:=q;rw[Am]at hw;obtain⟨E,F,A,G,rfl⟩:=hw;simp only[Query.mk.sizeOf_spec]at hN;rw[nW]at hd;have a':=G.len;have W:=A.len;have a0:=Y6 args;rw[length_map]at W;refine⟨M8 _,l,byJ (d,v),_,rfl,f U (d,v) m h (hx 0 _ rfl) (.refl _) h0,?_⟩;rintro u m' h' ⟨rfl,H,hJ⟩;refine aB (λe=>by cases e) (λ_=>?_);refine⟨λz=>z.1<=args.length/\PH.le h z.2.2/\∃C X,F=C++X/\lD z.2.2 (args.drop z.1) (E.drop z.1) (d+1) X/\J (U+1+C.length) z.2.1 z.2.2,λz=>args.length-z.1,⟨(0,m',h'),⟨bx,H,[],F,rfl,G.mono H,hJ⟩,MT⟩,?_⟩;rintro⟨i,mz,hz⟩ ⟨hi,g,C,X,I,n,L⟩;dsimp only at hi g n L⊢
  refine aE (λa1=>?_) (λa2=>?_)
  .have B:i<args.length:=by omega
   rw[drop_eq_getElem_cons B,lD]at n;obtain⟨M,O,P,Y,Q,a3,Z,R,rfl⟩:=n
   have a4:E[i]? =some M:=by
    have:(E.drop i)[0]? =some M:=by rw[Q];rfl
    grind
   have S:O=E.drop (i+1):=by
    have:(E.drop i).drop 1=O:=by rw[Q];rfl
    rw[<-this,drop_drop]
   obtain⟨b,o,ea,rd⟩:=A.get (i:=i) (e:=M.enc) cg;have a5:=sizeOf_lt_of_mem (getElem_mem B);have a6:=SY (getElem_mem B);refine⟨b,o,ea,aC,aC,M,.imm (rd.mono g),M,args[i],d+1,l,U+1+C.length,P,xs,J,by rw[fP aC],Z,aC,aC,λj e hj=>?_,L,λk e m2 h2 hk y T=>f k e m2 h2 hk (g.trans y) T,λm2 h2 y T=>⟨(i+1,m2,h2),⟨aC,g.trans y,C++P,Y,cg,?_,?_⟩,aC,?_⟩⟩
   .have h5:=(cn hj)
    have:=hx (1+C.length+j) e (by
     grind)
    grind
   .dsimp only;rw[<-S];exact R.mono y
   .grind
   .dsimp only;rw[fP aC];exact MT
  .have:i=args.length:=by omega
   subst this;rw[drop_of_length_le (Nat.le_refl _),lD]at n;obtain⟨_,rfl⟩:=n;rw[append_nil]at I;subst I;exact D mz hz g cg
theorem Vk:di 172 (baJ Tryz.prog Tb):=by
 refine gO func172 ?_;rintro o m h K ⟨l,f,xs,J,rfl,⟨b,v,q,g,rfl,u,y,A,rfl⟩,z,c,d⟩;refine⟨dG [(173,Tc (SizeOf.sizeOf q+1))] [] [] [] false,rfl,aD (Rc _) aF,XZ (SizeOf.sizeOf q+1) l b m h K,bu,?_⟩;exact⟨v,.imm u,v,q,1,l,0,g,g,J,rfl,y,aC,aC,λj e B=>cg,z,λk e m' h' C le n=>c k (byJ e) m' h' cg le n,λm' h' le n=>d _ m' h' le cg⟩
theorem bjZ:HP Tryz.prog 172 Tb:=⟨Vk⟩
theorem WG:di 97 Zy:=by
 refine bkZ func97 ?_;rintro g m h K ⟨v,rfl,j⟩;refine⟨dG [] [] [] [] false,rfl,aF,Ob v m h (eX h K),bu,?_⟩;dsimp only[Ob,push_cast];intro b m' c d _;have sub:Sub m m':=(kU (Sub.refl m) c d).1;refine⟨m,kP h b (QV.enc v),sub,Cd c.h_,λn i o e=>?_,j b _ (Cd c.h_) Za⟩;by_cases f:n=b
 .subst f;simp only[kP,if_true]at e;exact .inr ⟨_,_,_,d.at_,cg,c.m_⟩
 .simp only[kP,if_neg f]at e;exact .inl e
structure auX(T E:TypeId)(m mx:MH)(b:Nat)(vs:dj):Prop where
 ex:∃s:Sl,mx b=some (.cells #[.slice s.a s.len s.cap] T (0,0))/\cM mx s E 1 (vs.map λv=>[v])/\∀i x,s.a=some ⟨x,i,none⟩->m x=none
theorem auX.new{T E:TypeId}(d:m' b=some (.cells #[sJ] T (0,0))):auX T E m m' b []:=⟨⟨none,0,0⟩,d,⟨⟨λe c=>by simp at c,λe c=>by simp at c⟩,.inl ⟨rfl,rfl⟩⟩,λi x e=>by cases e⟩
theorem aAJ{T E:TypeId}{u:MH}{s:Sl}{vs:dj}{e:Value}{Q:MH->Prop}(c:∃o,m b=some o)(B:En m u b)(D:u b=some (.cells #[.slice s.a s.len s.cap] T (0,0)))(C:cM u s E 1 (vs.map λv=>[v]))(F:∀i x,s.a=some ⟨x,i,none⟩->m x=none)(G:∀m',En m m' b->auX T E m m' b (vs++[e])->Q m'):
 ∀(y:Sl)(m':MH),bV u m' (Sl.mk s.a s.len s.cap) y E 1 ((vs.map λv=>[v])++[[e]])->
  ∃(cs:Array Value)(E:TypeId),sK m' b (.cells cs E (0,0))/\0<cs.size/\∀m2:MH,gI m' m2 b (.cells (Array.mk (fF y::cs.toList.drop 1)) E (0,0))->Q m2:=by
 obtain⟨O,c⟩:=c;have z:∀i,s.a≠some ⟨b,i,none⟩:=λi d=>cg
 refineλy m' f=>⟨_,_,⟨f.other b _ D z⟩,bx,λm2 A=>G m2 ?_ ⟨y,A.at_,?_,?_⟩⟩
 .intro x o H g;rw[A.other x g];exact f.other x o (B x o H g) (λi d=>cg)
 .have I:(vs++[e]).map (λv=>[v])=vs.map (λv=>[v])++[[e]]:=bx
  rw[I];refine cM.keep f.row (λx i d=>A.other x (λJ=>?_));subst J;rcases f.fresh x i d with n|⟨j,n⟩
  .grind
  grind
 .intro i x d;rcases f.fresh x i d with n|⟨j,n⟩
  .cases L:m x with
   |none=>rfl
   |some o=>
    by_cases M:x=b
    .grind
    .rw[B x o L M]at n;cases n
  grind
theorem eX.rowG{E:TypeId}{hx:PH}{s:Sl}{vs:dj}(sub:Sub m m')(le:PH.le h hx)(C:cM m' s E 1 (vs.map λv=>[v]))(M:∀i b,s.a=some ⟨b,i,none⟩->m b=none)(o:∀h',PH.le hx h'->bN h' s 1 (vs.map λv=>[v])->K (cS s) m h'):eX h K (cS s) m' hx:=by
 intro D;rcases C.ex with⟨rfl,f⟩|⟨b,F,g,rfl,G,O,P,Q,y⟩
 .refine⟨m,hx,sub,le,λb i v e=>.inl e,o hx (.refl _) ?_⟩;rw[f];exact bN.nil _ _
 .have z:∀i,hx b i=none:=D b _ G;refine⟨m,kP hx b g.toList,sub,le.trans (Cd z),λH i v e=>?_,o _ (Cd z) ⟨?_,?_,?_⟩⟩
  .by_cases A:H=b
   .subst A;simp only[kP,if_true]at e
    grind
   .simp only[kP,if_neg A]at e;exact .inl e
  .simp
  .by_cases I:vs.map (λv=>[v])=[]
   .exact .inl I
   .refine .inr ⟨b,0,rfl,λi e d=>⟨λj v B=>?_⟩⟩;rw[getElem?_map]at d;cases c:vs[i]? with
    |none=>grind
    |some u=>
     rw[c]at d;simp at d;subst d;have J:j=0:=cg
     subst J;have B:u=v:=cg
     subst B;have L:=(cn c)
     have n:∀l:dj,(l.map λv=>[v]).flatten=l:=λl=>by
      induction l with
      |nil=>rfl
      |cons a l R=>grind
     rw[n]at y;rw[<-y,getElem?_take,length_map,if_pos aC]at c;simp only[kP,if_true]
     grind
  omega
def a5J:Vc.Spec:=λc m h K=>∃v q,c=[aQ v]/\bR h q v/\nW q<=900000/\∀d h',PH.le h h'->Ints h' d (eE q)->K (cS d) m h'
theorem bh:di 59 a5J:=by
 refine Jm func59 ?_;rintro a1 m h K ⟨v,q,rfl,hq,hs,hK⟩;refine⟨{vM [(97,Zy)] [] [] [] [200003,200005,1033,0] [] false with elemT:=[3,38]},rfl,aD WG aF,ab v m h (eX h K),bu,?_⟩;show ab v m h (eX h K);dsimp only[ab,push_cast];intro b Q T A;obtain⟨s1,n1⟩:=kU (Sub.refl m) T A;refine⟨v,rfl,λbw h1 u U=>?_⟩;obtain⟨g,V⟩:=Am.of (hq.mono u) 1;have a2:=V.small;have F:=Am.scans (hq.mono u) V;refine⟨Tb,g.map λe=>((e.1:Int),e.2),λk G W=>W=h1/\En Q G b/\auX 33 3 Q G b ((Be (g.take k)).map λn=>.int .i64 n),bjZ,⟨bw,v,q,g,rfl,U,V,hs,?_⟩,⟨rfl,λx o e _=>e,auX.new A.at_⟩,?_,?_⟩
 .rw[map_map];rfl
 .rintro k d e' G W R-⟨rfl,B,c⟩ X m2 Y H;rw[getElem?_map]at R;cases I:g[k]? with
  |none=>grind
  |some e=>
   rw[I]at R;simp only[Option.map_some,cw,Prod.mk.injEq]at R;obtain⟨rfl,rfl⟩:=R;refine⟨_,_,⟨H.at_⟩,bx,λS J=>?_⟩
   have up:∀{z o},G z=some o->S z=some o/\z≠X:=fun{z o} C=>by
    have:z≠X:=λZ=>by rw[Z,Y.m_]at C;cases C
    exact⟨by rw[J.other z this,H.other z this];exact C,this⟩
   have L:S X=some (.cells ⟨e.2.enc⟩ 38 (0,0)):=J.at_;have M:En Q S b:=λx o C a'=>(up (B x o C a')).1
   have D:auX 33 3 Q S b ((Be (g.take k)).map λn=>.int .i64 n):=by
    obtain⟨s,h5,h6,h7⟩:=c.ex;refine⟨s,(up h5).1,cM.keep h6 λz i Z=>?_,h7⟩;obtain⟨a3,h8⟩:=h6.blk Z
    grind
   have a4:Be (g.take (k+1))=Be (g.take k)++(if e.2.op==1 then[e.2.table]else[]):=by
    rw[db,I,Option.toList_some,JU];congr 1;simp only[Be,filter_cons,filter_nil];split<;>rfl
   refine⟨e.2.op,.of_m L rfl,aB (λh5=>?_) (λh5=>⟨rfl,M,cg⟩)⟩;obtain⟨s,y,f,E⟩:=D.ex
   have O:(Be (g.take k)).length<=g.length:=by
    simp only[Be,length_map]
    grind
   refine⟨s,.of_m y rfl,e.2.table,.of_m L rfl,_,f,ce,ce,aAJ ⟨_,A.at_⟩ M y f E λm' a0 a5=>⟨rfl,a0,?_⟩⟩
   grind
 .rintro G W-⟨rfl,B,c⟩
  rw[length_map,take_length,F]at c;obtain⟨s,y,f,E⟩:=c.ex
  have O:(eE q).length<=g.length:=by
   rw[<-F];simp only[Be,length_map]
   grind
  refine⟨s,.of_m y rfl,eX.rowG (s1.x n1 B) u f (λj z e=>?_) (λh' le P=>hK s h' (u.trans le) ⟨by rw[map_map]at P;exact P,aC⟩)⟩;cases C:m z with
  |none=>rfl
  |some o=>have e1:=E j z e;rw[s1 z o C]at e1;cases e1
structure xY(s:oL)(c:Nat)(ls:List dl)(k:Nat)(ts:dm):Prop where
 at_:∀(j:Nat)(t:Int),ts[j]? =some t->∃l,ls[k+j]? =some l/\jG (jS s t).length l/\l.length<=c
theorem xY.left{c k:Nat}{ls:List dl}{b:dm}(x:xY s c ls k (a++b)):xY s c ls k a:=
 ⟨λj t h=>x.at_ j t cg⟩
theorem xY.right{c k:Nat}{ls:List dl}{b:dm}(x:xY s c ls k (a++b)):xY s c ls (k+a.length) b:=
 ⟨λj t h=>by
  have:=x.at_ (a.length+j) t cg
  grind⟩
theorem Bu{op:Int}{on:dp}{args:dt}{ks:dm}(h:bZ s ps (.mk op ta w co on gr od li args)=(ks,0)):
 ∃c,fG s ps args=(c,0)/\(c.length:Int)=arity op/\iE s ps (.mk op ta w co on gr od li args) (c.getD 0 []) (c.getD 1 [])=(ks,0):=by
 rw[bZ]at h;generalize fG s ps args=r at h;obtain⟨c,e⟩:=r;dsimp only at h;split at h
 .rename_i d;subst d;split at h
  .grind
  .simp[hX]at h
 .rename_i d;simp only[hX,Prod.mk.injEq]at h;omega
theorem nF{qs:dt}{d:List dm}(h:fG s ps (q::qs)=(d,0)):∃k c,bZ s ps q=(k,0)/\fG s ps qs=(c,0)/\d=k::c:=by
 rw[fG]at h
 grind
theorem tR{ks:dm}(h:xB l=(ks,0)):ks=l/\l.length<=12:=by
 unfold xB at h
 grind
theorem Yu{op:Int}(h:arity op=0):op=1:=by
 unfold arity at h
 grind
mutual
theorem VO{s:oL}{ps:dm}{c:Nat}(f:1<=c):∀{q:Query}{ks:dm},bZ s ps q=(ks,0)->1<=mI c q
 |.mk op ta w co on gr od li args,ks,h=>by
  obtain⟨j,d,g,o⟩:=Bu h;have e:=Yv f d;rw[mI];split
  .exact f
  .rename_i n;split
   .exact e.1
   .match args,d,e with
    |[],d,_=>rw[fG]at d;simp only[Prod.mk.injEq,and_true]at d;rw[<-d]at g;exact absurd (Yu g.symm) n
    |q::qs,d,e=>grind
theorem Yv{s:oL}{ps:dm}{c:Nat}(e:1<=c):∀{qs:dt}{d:List dm},fG s ps qs=(d,0)->1<=uS c qs/\(qs≠[]->1<=xC c qs)
 |[],d,h=>by simp[uS]
 |q::qs,d,h=>by
  obtain⟨k,f,g,j,u⟩:=nF h;have n:=VO e g;have o:=Yv e j;rw[uS,xC];exact⟨Nat.mul_pos n o.1,λ_=>by omega⟩
end
def R0(c:Nat):dt->List dm->List dl->Prop
 |[],[],[]=>True
 |q::qs,k::ks,l::ls=>jG k.length l/\l.length<=mI c q/\R0 c qs ks ls
 |_,_,_=>False
theorem SB{α:Type}:∀{l:List α},l.length=2->∃a b,l=[a,b]
 |[a,b],_=>⟨a,b,rfl⟩
theorem R0.len{c:Nat}{qs:dt}{ls:List dl}(h:R0 c qs ks ls):qs.length=ks.length/\ls.length=ks.length:=by
 induction qs generalizing ks ls with
 |nil=>
  match ks,ls,h with
  |[],[],_=>omega
  |_::_,[],h=>exact h.elim
  |[],_::_,h=>exact h.elim
  |_::_,_::_,h=>exact h.elim
 |cons q qs d=>
  match ks,ls,h with
  |[],[],h=>exact h.elim
  |_::_,[],h=>exact h.elim
  |[],_::_,h=>exact h.elim
  |k::ks,l::ls,h=>
   obtain⟨e,f⟩:=d h.2.2
   grind
theorem jG.filter{w:Nat}{l:dl}(x:jG w l)(p:dn->Bool):jG w (l.filter p):=
 ⟨λr h=>x.row r (mem_filter.1 h).1,λr h=>x.wid r (mem_filter.1 h).1,x.srt.filter p,dg (length_filter_le _ _) x.len⟩
theorem Uu(x:dn):∀l:dl,(Kl x l).length<=l.length+1
 |[]=>by simp[Kl]
 |y::l=>by
  have:=Uu x l;simp only[Kl]
  grind
theorem H3:∀l:dl,(uR l).length<=l.length
 |[]=>by simp[uR]
 |x::l=>by
  have c:=H3 l;have d:=Uu x (uR l);show(Kl x (uR l)).length<=(x::l).length
  grind
theorem jG.set{w:Nat}{l:dl}(c:∀r∈l,Pq r)(d:∀r∈l,r.length=w)(e:l.length<=8000000):jG w (uR l):=
 ⟨λr h=>c r (EU.1 h),λr h=>d r (EU.1 h),BJ l,dg (H3 l) e⟩
theorem JG:∀{x y u v:dn},x.length=y.length->eJ (x++u) (y++v)=if eJ x y≠0 then eJ x y else eJ u v
 |[],[],u,v,_=>by simp[eJ]
 |a::x,b::y,u,v,h=>by
  simp only[de,Nat.add_right_cancel_iff]at h;simp only[cons_append,eJ];by_cases e:jL a b=0
  .simp only[e,ne_eq,not_true_eq_false,if_false];exact JG h
  omega
 |[],_::_,_,_,h=>by simp at h
 |_::_,[],_,_,h=>by simp at h
theorem Cb{on:dp}{b:dl}{x z:dn}(h:z∈jO on b x):∃y∈b,z=x++y:=by
 unfold jO at h
 grind
theorem jG.join{w w':Nat}{a b:dl}{on:dp}(d:jG w a)(g:jG w' b)(A:w+w'<=12)(j:a.length*b.length<=8000000):jG (w+w') (a.flatMap (jO on b)):=by
 refine⟨λr h=>?_,λr h=>?_,?_,dg (vI λx _=>zG) j⟩
 .obtain⟨x,c,h⟩:=mem_flatMap.1 h;obtain⟨y,e,rfl⟩:=Cb h;have B:=d.wid x c;have C:=g.wid y e;refine⟨cg,λv f=>?_⟩;rcases mem_append.1 f with f|f
  .exact(d.row x c).val v f
  .exact(g.row y e).val v f
 .obtain⟨x,c,h⟩:=mem_flatMap.1 h;obtain⟨y,e,rfl⟩:=Cb h;rw[ct,d.wid x c,g.wid y e]
 .refine pairwise_flatMap.2 ⟨λx c=>?_,?_⟩
  .unfold jO;split
   .refine pairwise_map.2 ((g.srt.filter _).imp fun{y z} h=>?_);rw[JG rfl,if_neg (by rw[i7.2 rfl];simp)];exact h
   .exact List.Pairwise.nil
  .refine d.srt.imp_of_mem fun{x y} c e h z n u o=>?_;obtain⟨D,_,rfl⟩:=Cb n;obtain⟨E,_,rfl⟩:=Cb o;rw[JG (by rw[d.wid x c,d.wid y e]),if_pos aC];exact h
theorem SF{c:Int}(h:HQ a c=true):0<=c/\c<a.length:=by
 simp only[HQ,cz,dc]at h;exact h
theorem Jl{α:Type}{T:List α->α->Prop}{l:List α}(h:Good T l){x:α}(hx:x∈l):∃c,T c x:=by
 obtain⟨i,d,e⟩:=mem_iff_getElem.1 hx;exact⟨_,h i x cg⟩
theorem Ik:∀(n:Nat)(l:dm),l.Nodup->(∀x∈l,0<=x/\x<n)->l.length<=n
 |0,[],_,_=>bx
 |0,x::l,_,h=>by have:=h x (mem_cons_self ..);omega
 |n+1,l,c,h=>by
  by_cases e:(n:Int)∈l
  .have f:=Ik n (l.erase n) (c.erase _) (λx d=>by
    grind)
   grind
  .have:=Ik n l c (λx d=>by
    grind)
   omega
theorem N6{α:Type}{T:List α->α->Prop}{l:List α}(f:α->Int)(d:∀c x,T c x->f x∉c.map f)(h:Good T l):(l.map f).Nodup:=by
 rw[nodup_iff_pairwise_ne,pairwise_map,pairwise_iff_getElem];intro i j o g n e;refine d _ _ (h j l[j] (cq g)) (mem_map.2 ⟨l[i],?_,e⟩);rw[mem_take_iff_getElem]
 grind
theorem N5(h:Good (Lh a) gr)(j:a.length<=12):gP a.length gr:=by
 have f:∀c∈gr,0<=c/\c<a.length:=λc g=>by obtain⟨_,d⟩:=Jl h g;exact SF d.1
 have d:=N6 id (λe x(h:Lh a e x)=>cm h.2) h;rw[map_id]at d;exact⟨f,by have:=Ik _ _ d f;omega⟩
theorem PR{b:dm}{on:dp}(h:Good (Au a b) on)(B:a.length<=12)(C:b.length<=12):gP a.length (fZ on)/\gP b.length (fU on):=by
 have n:∀c∈fZ on,0<=c/\c<a.length:=λc f=>by
  obtain⟨p,g,rfl⟩:=mem_map.1 f;obtain⟨_,d⟩:=Jl h g;exact SF d.1
 have d:∀c∈fU on,0<=c/\c<b.length:=λc f=>by
  obtain⟨p,g,rfl⟩:=mem_map.1 f;obtain⟨_,d⟩:=Jl h g;exact SF d.2.1
 have o:(fZ on).Nodup:=N6 Prod.fst (λj x(h:Au a b j x) u=>by
  obtain⟨y,z,e⟩:=mem_map.1 u;exact(h.2.2.2 y z).1 e) h
 have A:=Ik _ _ o n;exact⟨⟨n,aC⟩,⟨d,by simp only[fZ,fU,length_map]at A⊢;omega⟩⟩
theorem T6{w:Nat}{r:dn}(c:Pq r)(e:r.length=w)(f:gP w co)(d:co.length<=12):Pq (pick r co)/\(pick r co).length=co.length:=
 ⟨⟨by simpa[pick]using d,Ih c cg⟩,by simp[pick]⟩
theorem HY{c:Nat}{p:Query}:xC c [q,p]=mI c q+mI c p:=by simp[xC]
theorem Sc{c:Nat}:xC c [q]=mI c q:=by simp[xC]
theorem azJ{c:Nat}{p:Query}:uS c [q,p]=mI c q*mI c p:=by simp[uS]
theorem biX{c:Nat}{op:Int}{on:dp}{args:dt}{ks:dm}{u:List dm}{L:List dl}(P:op≠1)
 (O:(u.length:Int)=arity op)(G:∀k∈u,k.length<=12)(f:iE s ps (.mk op ta w co on gr od li args) (u.getD 0 []) (u.getD 1 [])=(ks,0))(E:R0 c args u L)(n:mI c (.mk op ta w co on gr od li args)<=8000000):
 aCQ op (.mk op ta w co on gr od li args) L/\jG ks.length (Uf op (.mk op ta w co on gr od li args) L)/\(Uf op (.mk op ta w co on gr od li args) L).length<=mI c (.mk op ta w co on gr od li args):=by
 rw[mI,if_neg P]at n⊢
 unfold iE at f;dsimp only at f;split at f
 .simp[hX]at f
 have one:arity op=1->∃q k l,args=[q]/\u=[k]/\L=[l]/\jG k.length l/\l.length<=mI c q/\k.length<=12:=λe=>by
  obtain⟨Q,R⟩:=E.len;obtain⟨k,rfl⟩:=length_eq_one_iff.1 (show u.length=1 by omega);obtain⟨q,rfl⟩:=length_eq_one_iff.1 (show args.length=1 by omega);obtain⟨l,rfl⟩:=length_eq_one_iff.1 (show L.length=1 by omega);exact⟨q,k,l,rfl,rfl,rfl,E.1,E.2.1,G k bx⟩
 have two:arity op=2->∃q p k y l B,args=[q,p]/\u=[k,y]/\L=[l,B]/\jG k.length l/\l.length<=mI c q/\jG y.length B/\B.length<=mI c p/\k.length<=12/\y.length<=12:=λe=>by
  obtain⟨Q,R⟩:=E.len;obtain⟨k,y,rfl⟩:=SB (show u.length=2 by omega);obtain⟨q,p,rfl⟩:=SB (show args.length=2 by omega);obtain⟨l,B,rfl⟩:=SB (show L.length=2 by omega);exact⟨q,p,k,y,l,B,rfl,rfl,rfl,E.1,E.2.1,E.2.2.1,E.2.2.2.1,G k bx,G y bx⟩
 have S:op=2\/op=3\/op=9\/op=4\/op=5\/op=6\/op=7\/op=8\/op=10:=by
  have:0<=arity op:=by omega
  unfold arity at this
  grind
 rcases S with rfl|rfl|rfl|rfl|rfl|rfl|rfl|rfl|rfl
 .obtain⟨q,k,l,rfl,rfl,rfl,j,F,C⟩:=one rfl;simp only[show((2:Int)=4)=False by decide,if_false,if_true]at f n⊢
  split at f
  .obtain⟨rfl,_⟩:=tR f;refine⟨⟨bx,λx z=>cg⟩,j.filter _,dg (length_filter_le _ _) ?_⟩;rw[Sc];exact F
  .rename_i e;simp only[hX,Prod.mk.injEq]at f;omega
 .obtain⟨q,k,l,rfl,rfl,rfl,j,F,C⟩:=one rfl;simp only[show((3:Int)=4)=False by decide,show((3:Int)=2)=False by decide,if_false,if_true]at f n⊢
  split at f
  .rename_i g;obtain⟨rfl,d⟩:=tR f;rw[length_map]at d⊢
   have A:gP k.length co:=⟨λc A=>by obtain⟨_,O⟩:=Jl g.2 A;exact SF O,aC⟩
   rw[Sc]at n⊢
   refine⟨⟨bx,d,_,j,A⟩,jG.set (λr h=>?_) (λr h=>?_) cg,dg (H3 _) cg⟩
   .obtain⟨x,z,rfl⟩:=mem_map.1 h;exact(T6 (j.row x z) (j.wid x z) A d).1
   .obtain⟨x,z,rfl⟩:=mem_map.1 h;exact(T6 (j.row x z) (j.wid x z) A d).2
  .simp[hX]at f
 .obtain⟨q,k,l,rfl,rfl,rfl,j,F,C⟩:=one rfl;simp only[show((9:Int)=4)=False by decide,show((9:Int)=2)=False by decide,show((9:Int)=3)=False by decide,show((9:Int)=5)=False by decide,if_false,if_true]at f n⊢
  split at f
  .rename_i g;obtain⟨rfl,d⟩:=tR f;rw[Sc]at n⊢
   exact⟨⟨bx,⟨_,j,N5 g.group_ C⟩,g.low⟩,j.filter _,dg (length_filter_le _ _) F⟩
  .simp[hX]at f
 .obtain⟨q,p,k,y,l,B,rfl,rfl,rfl,j,F,o,H,C,D⟩:=two rfl;simp only[show((4:Int)=2)=False by decide,show((4:Int)=3)=False by decide,if_false,if_true]at f n⊢
  split at f
  .rename_i g;obtain⟨rfl,d⟩:=tR f;rw[azJ]at n⊢
   have A:=PR g C D;have J:l.length*B.length<=mI c q*mI c p:=Nat.mul_le_mul F H;rw[ct]at d⊢
   exact⟨⟨⟨bx,_,_,j,o,A.1,A.2⟩,dg J n⟩,j.join o d (dg J n),dg (vI λx _=>zG) J⟩
  .simp[hX]at f
 .obtain⟨q,p,k,y,l,B,rfl,rfl,rfl,j,F,o,H,C,D⟩:=two rfl;simp only[show((5:Int)=2)=False by decide,show((5:Int)=3)=False by decide,show((5:Int)=4)=False by decide,if_false,if_true]at f n⊢
  split at f
  .rename_i g;obtain⟨rfl,d⟩:=tR f;rw[HY]at n⊢
   have A:=PR g C D;exact⟨⟨bx,_,_,j,o,A.1,A.2⟩,j.filter _,dg (length_filter_le _ _) cg⟩
  .simp[hX]at f
 all_goals
  obtain⟨q,p,k,y,l,B,rfl,rfl,rfl,j,F,o,H,C,D⟩:=two rfl
 .simp only[show((6:Int)=2)=False by decide,show((6:Int)=3)=False by decide,show((6:Int)=4)=False by decide,show((6:Int)=5)=False by decide,show((6:Int)=9)=False by decide,show((6:Int)=10)=False by decide,if_false,if_true]at f n⊢
  split at f
  .rename_i g;have g:k=y:=g;subst g;obtain⟨rfl,d⟩:=tR f;rw[HY]at n⊢
   have I:(l++B).length<=mI c q+mI c p:=cg
   refine⟨⟨bx,λx z=>cg⟩,jG.set (λr h=>?_) (λr h=>?_) (dg I n),dg (H3 _) I⟩
   .rcases mem_append.1 h with h|h
    .exact j.row r h
    .exact o.row r h
   .rcases mem_append.1 h with h|h
    .exact j.wid r h
    .exact o.wid r h
  .simp[hX]at f
 .simp only[show((7:Int)=2)=False by decide,show((7:Int)=3)=False by decide,show((7:Int)=4)=False by decide,show((7:Int)=5)=False by decide,show((7:Int)=9)=False by decide,show((7:Int)=10)=False by decide,if_false,if_true]at f n⊢
  split at f
  .rename_i g;have g:k=y:=g;subst g;obtain⟨rfl,d⟩:=tR f;rw[HY]at n⊢
   exact⟨⟨bx,_,λx z=>by simp at z;rcases z with rfl|rfl;exact j;exact o⟩,j.filter _,dg (length_filter_le _ _) cg⟩
  .simp[hX]at f
 .simp only[show((8:Int)=2)=False by decide,show((8:Int)=3)=False by decide,show((8:Int)=4)=False by decide,show((8:Int)=5)=False by decide,show((8:Int)=9)=False by decide,show((8:Int)=10)=False by decide,if_false,if_true]at f n⊢
  split at f
  .rename_i g;have g:k=y:=g;subst g;obtain⟨rfl,d⟩:=tR f;rw[HY]at n⊢
   exact⟨⟨bx,_,λx z=>by simp at z;rcases z with rfl|rfl;exact j;exact o⟩,j.filter _,dg (length_filter_le _ _) cg⟩
  .simp[hX]at f
 .simp only[show((10:Int)=2)=False by decide,show((10:Int)=3)=False by decide,show((10:Int)=4)=False by decide,show((10:Int)=5)=False by decide,show((10:Int)=9)=False by decide,if_false,if_true]at f n⊢
  split at f
  .rename_i g;obtain⟨g,M⟩:=g;have g:k=y:=g;subst g;obtain⟨rfl,d⟩:=tR f;rw[HY]at n⊢
   exact⟨⟨bx,_,j,o,N5 M.group_ C⟩,j.filter _,dg (length_filter_le _ _) cg⟩
  .simp[hX]at f
theorem OO{s:oL}{ps:dm}{c:Nat}(f:1<=c):∀{qs:dt}{d:List dm},fG s ps qs=(d,0)->∀q∈qs,mI c q<=xC c qs/\mI c q<=uS c qs
 |[],_,_,q,e=>by simp at e
 |p::qs,d,h,q,e=>by
  obtain⟨k,g,n,j,y⟩:=nF h;have o:=VO f n;have u:=(Yv f j).1;rw[xC,uS];rcases mem_cons.1 e with rfl|e
  .exact⟨aC,Nat.le_mul_of_pos_right _ u⟩
  .have:=OO f j q e;exact⟨aC,dg this.2 (Nat.le_mul_of_pos_left _ o)⟩
theorem NY{s:oL}{ps:dm}:∀{qs:dt}{c:List dm},fG s ps qs=(c,0)->∀k∈c,k.length<=12
 |[],c,h,k,d=>by rw[fG]at h;grind
 |q::qs,c,h,k,d=>by
  obtain⟨g,e,j,f,rfl⟩:=nF h;rcases mem_cons.1 d with rfl|d
  .have:=D6 s ps q;grind
  .exact NY f k d
structure b3Q(c:Nat)(ls:List dl)(q:Query)(k:Nat)(ks:dm):Prop where
 ok:Wo ls q k
 rel:jG ks.length (eD ls q k).1
 bnd:(eD ls q k).1.length<=mI c q
 nxt:(eD ls q k).2=k+(eE q).length
mutual
theorem Fw{s:oL}{ps:dm}{c:Nat}{ls:List dl}(o:1<=c):∀{q:Query}{ks:dm}{k:Nat},bZ s ps q=(ks,0)->xY s c ls k (eE q)->mI c q<=8000000->b3Q c ls q k ks
 |.mk op ta w co on gr od li args,ks,k,h,f,u=>by
  obtain⟨B,g,y,d⟩:=Bu h;by_cases e:op=1
  .subst e
   have C:args=[]:=by
    cases args with
    |nil=>rfl
    |cons q qs=>obtain⟨_,_,_,_,rfl⟩:=nF g;simp[arity]at y;omega
   subst C;have j:eE (.mk 1 ta w co on gr od li [])=[ta]:=by simp[eE,dV]
   unfold iE at d;dsimp only at d;split at d
   .simp[hX]at d
   try rw[if_pos rfl]at d
   split at d
   .obtain⟨rfl,_⟩:=tR d;rw[j]at f;obtain⟨l,z,G,D⟩:=f.at_ 0 ta rfl;rw[Nat.add_zero]at z;have A:(eD ls (.mk 1 ta w co on gr od li []) k)=(l,k+1):=by rw[eD,if_pos rfl,getD_eq_getElem?_getD,z];rfl
    refine⟨by rw[Wo,if_pos rfl];grind,cg,by rw[A,mI,if_pos rfl];exact D,cg⟩
   .simp[hX]at d
  .have j:eE (.mk op ta w co on gr od li args)=dV args:=by simp[eE,e]
   rw[j]at f
   have n:∀q∈args,mI c q<=8000000:=λq E=>by
    have H:=OO o g q E;rw[mI,if_neg e]at u
    grind
   obtain⟨I,F,J⟩:=RF o g f n;obtain⟨L,M,O⟩:=biX e y (NY g) d F u;have A:eD ls (.mk op ta w co on gr od li args) k=(Uf op (.mk op ta w co on gr od li args) (eG ls args k).1,(eG ls args k).2):=by rw[eD,if_neg e]
   exact⟨by rw[Wo,if_neg e];grind,cg,cg,cg⟩
theorem RF{s:oL}{ps:dm}{c:Nat}{ls:List dl}(j:1<=c):∀{qs:dt}{d:List dm}{k:Nat},fG s ps qs=(d,0)->xY s c ls k (dV qs)->(∀q∈qs,mI c q<=8000000)->Ug ls qs k/\R0 c qs d (eG ls qs k).1/\(eG ls qs k).2=k+(dV qs).length
 |[],d,k,h,_,_=>by
  rw[fG]at h;simp only[Prod.mk.injEq,and_true]at h;subst h;simp[Ug,eG,R0,dV]
 |q::qs,d,k,h,g,n=>by
  obtain⟨A,o,u,y,rfl⟩:=nF h;rw[dV]at g;have e:=Fw j u g.left (n q (mem_cons_self ..));have f:=RF j y g.right (λp z=>n p (mem_cons_of_mem _ z));rw[<-e.nxt]at f;rw[Ug,eG,dV];refine⟨⟨e.ok,f.1⟩,⟨e.rel,e.bnd,f.2.1⟩,?_⟩;rw[f.2.2,e.nxt,ct];omega
end
end Go.Ps
