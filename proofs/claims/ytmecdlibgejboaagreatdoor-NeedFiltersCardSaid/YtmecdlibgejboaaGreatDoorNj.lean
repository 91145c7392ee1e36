/-
  Part 10 of a proof that a law of the given program returns true: a condition generator that is proved sound, and contracts of functions. No condition of its own. Own work, joined by a program (pack2.py).
-/
import Derived.Test.YtmecdlibgejboaaGreatDoorNi
set_option linter.unusedVariables false
set_option linter.unusedSimpArgs false
namespace Go.Ps
open Go Go.Vc Go.Proofs List Tryz
variable{K:bu}{m:MH}{h:PH}{s:iJ}{ps:bt}{ts:ck}{cb:Nat}{sc:cN}{v:QV}{t:Step}{p:Pred}{l:bt}{i:Nat}{N:Nat}{m':MH}{h':PH}{co:bt}{gr:bt}{od:ca}{ta:Int}{li:Int}{xs:List bw}{sz:Nat}{ks:List bt}{rs:bt}{r:Sl}{a:bt}{b:Nat}
def XV:Vc.Spec:=λc m h K=>∃s r,c=[cS s]/\cA h s r/\r.length<=1000/\∀d h',PH.le h h'->cA h' d r->K (cS d) m h'
def aXJ:Vc.Spec:=λc m h K=>∃v s t d r,c=[aS v,cI t,cS d]/\gA h s v/\cA h d r/\r.length<=1000/\∀e h',PH.le h h'->cA h' e (Jh s t r)->K (cS e) m h'
def SG(key:Int)(ks:bt)(r:cd):Prop:=r.length=ks.length/\(∀v∈r,K7 v)/\∀(i:Nat) v k,r[i]? =some v->ks[i]? =some k->A9 key k i v=true
def alZ(m:MH)(d:Nat)(us:ce):Prop:=∃c:Array Value,m d=some (.cells c 68 (0,0))/\us.length<=c.size/\c.toList.take us.length=us.map Sl.val
def bQQ:Vc.Spec:=λg m h K=>∃v s c n d f u,∃t:Nat,∃e rs j o x row,g=[aS v,aSt ⟨some ⟨c,0,none⟩,n,d⟩,cI t,cS j,cS x]/\gA h s v/\s.tables[t]? =some e/\alZ m c f/\n=f.length/\f[t]? =some u/\Rows h u rs/\rs.length<=1000/\(∀r∈rs,r.length<=1000)/\cA h j o/\cA h x row/\0<row.length/\row.length<=1000/\
 ∀y m' h',PH.le h h'->Rows h' y (Br e o row false rs)->alZ m' c (f.set t y)->bM m m' c->K (aSt ⟨some ⟨c,0,none⟩,n,d⟩) m' h'
noncomputable def beZ(v:cN)(sl:Sl)(t:Nat)(f g:Sl)(m:MH):Ctx:=cW [(61,aXJ),(72,Hh),(112,XV)] [(4,{A:=Nat×ce×Bool×Sl×PH,st:=λ⟨i,e,d,u,h⟩=>bY 66 71 [(2,iv t),(3,sv f),(4,sv g),(5,.at (.ptr 5 0)),(6,.at (.ptr 6 0)),(10,.at (.ptr 10 0)),(11,.at (.lst 45)),(12,bv d),(23,sv u),(24,iv u.len),(25,iv i)] [(5,.cells 40 (v.enc.map .val)),(6,.cells 63 [.val sl.val]),(10,.cells 63 [.val bW.val]),(45,.lst 100 1 (e.map eS))] m h})] [(9,{A:=Nat×ce×Bool×Sl×Sl×Int×PH,st:=λ⟨i,e,d,u,r,c,h⟩=>bY 66 71 [(2,iv t),(3,sv f),(4,sv g),(5,.at (.ptr 5 0)),(6,.at (.ptr 6 0)),(10,.at (.ptr 10 0)),(11,.at (.lst 45)),(12,bv d),(14,sv r),(15,iv c),(23,sv u),(24,iv u.len),(25,iv i)] [(5,.cells 40 (v.enc.map .val)),(6,.cells 63 [.val sl.val]),(10,.cells 63 [.val bW.val]),(45,.lst 100 1 (e.map eS))] m h}),
 (14,{A:=ce×PH,st:=λ⟨e,h⟩=>bY 66 71 [(2,iv t),(6,.at (.ptr 6 0)),(10,.at (.ptr 10 0)),(11,.at (.lst 45))] [(6,.cells 63 [.val sl.val]),(10,.cells 63 [.val bW.val]),(45,.lst 100 1 (e.map eS))] m h})] [] false
def QQ(s:Sl)(m:MH)(h:PH)(K:bu):Prop:=
  ∃(y:List bw),aA (eW 3 y) (dK h (Sl.mk s.a s.len s.cap) 3 y) (aA (iF y.length 32) (oL y.length) (cG h 3 y (λc d=>K (dN c) m d)))
def Uo(v:cN)(t:Int)(s:Sl)(m:MH)(h:PH)(K:bu):Prop:=
  bA t 0 (K CZ m h) (fQ t (i6 v) (K CZ m h) (aW (λb o=>aI (aX (tX v) b o) (0<=t) (t<aG v.tables) (∃(y:Int),aI (aU m h b (gC o t 5+2) (bJ y)) (0<=ite (oU s y>0) (oU s y) 0) (ite (oU s y>0) (oU s y) 0<=(↑s.cap:Int)) (oK (λd r=>aI (oF (CV.val (Value.slice s.a (ite (oU s y>0) (oU s y) 0).toNat s.cap))=iN d) (cA h d r) (lR r.length) (∀(e:Sl)(c:PH),cD h c (cA c e r) (K (dN e) m c))))))))
noncomputable abbrev Ck(a:Nat×ce×Bool×Sl×PH):Bool:=a.2.2.1
noncomputable abbrev oV(a:Nat×ce×Bool×Sl×PH):Sl:=a.2.2.2.1
abbrev tG:Prop:=xT FM
noncomputable abbrev zD(a:Nat×ce×Bool×Sl×PH):Nat->Nat->Option Value:=a.2.2.2.2
abbrev Mw(a:(Nat×ce×Bool×Sl×Sl×Int×PH)->Prop)(b:Nat)(c d:Sl)(e:(Nat×ce×Bool×Sl×Sl×Int×PH)->Prop):Prop:=∃(x:Nat×ce×Bool×Sl×Sl×Int×PH),aA (a x) (eQ (bP b)) (aA (aJ c) (aJ d) (aA dL (eP 6) (aA lN (eL 45) (e x))))
noncomputable abbrev wV(a:Nat×ce×Bool×Sl×Sl×Int×PH):Sl:=a.2.2.2.1
noncomputable abbrev Gw(a:Nat×ce×Bool×Sl×Sl×Int×PH):Nat->Nat->Option Value:=a.2.2.2.2.2.2
attribute [push_cast] Ck oV tG zD Mw wV Gw
def Up(v:cN)(f n d t:Nat)(u j:Sl)(m:MH)(h:PH)(K:bu):Prop:=
  aW (λb o=>aI (aX (mG f) b o) (0<=(↑t:Int)) ((↑t:Int)<(↑n:Int)) (∃(y:Sl),aU m h b (bN o t 1) (aY y)/\∃(I:Nat×ce×Bool×Sl×PH->Prop)(D:Nat×ce×Bool×Sl×PH->Nat),(∃(x:Nat×ce×Bool×Sl×PH),aA (I x) (eQ (bP t)) (aA (aJ u) (aJ j) (aA dL (eP 6) (aA lN (eL 45) (aA (i7 (aG j==0) (Ck x)) (bH y (oV x)) (aA (cF y (oV x)) (bF x.1) (aA (cE v) (xT (Aq (mG f) n d)) (aA tG (AH x.2.1) (bS (m=m) h (zD x))))))))))/\∀(x:Nat×ce×Bool×Sl×PH),I x->bA (↑x.1:Int) (aG (oV x)) (aW (λz A=>aI (aX (oV x).a z A) (0<=(↑x.1:Int)) ((↑x.1:Int)<aG (oV x)) (∃(B:Sl),aU m (zD x) z (bN A x.1 1) (aY B)/\oG (λE s=>∃(F:Int),
 oK (λG r=>aA (bQ v::bK (eG (↑t:Int)) (dN B)=bQ E::bK (eG F) (dN G)) (gA (zD x) s E) (aA (cA (zD x) G r) (lR r.length) (∀(H:Sl)(g:PH),cD (zD x) g (cA g H (Jh s F r)) (∃(J:Sl),oK (λL a=>∃(C:cd),aI (dX H u=dX J L) (cA g J a) (cA g L C) (∃(I1:Nat×ce×Bool×Sl×Sl×Int×PH->Prop),fQ (dP a C) 0 (qB (Ck x) (IC j g (λM O=>jZ (fP x.2.1) 24 (Mw (λc=>I1 c) t u j (λc=>aA (wF c.2.2.1) (bH B c.2.2.2.2.1) (aA (dA (dP a C) c.2.2.2.2.2.1) (bH (oV x) (wV c)) (aA (cF (oV x) (wV c)) (cJ x.1 c.1) (aA (cE v) (xT (Aq (mG f) n d)) (mA tG (qL 1 (fK (fP x.2.1) (aY M)) c.2.1) (m=m) O (Gw
 c))))))))) (Mw (λc=>I1 c) t u j (λc=>aA (i7 (Ck x) c.2.2.1) (bH B c.2.2.2.2.1) (aA (dA (dP a C) c.2.2.2.2.2.1) (bH (oV x) (wV c)) (aA (cF (oV x) (wV c)) (cJ x.1 c.1) (aA (cE v) (xT (Aq (mG f) n d)) (mA tG (qM x.2.1 c.2.1) (m=m) g (Gw c)))))))) (Mw (λc=>I1 c) t u j (λc=>aA (i7 (Ck x) c.2.2.1) (bH B c.2.2.2.2.1) (aA (dA (dP a C) c.2.2.2.2.2.1) (bH (oV x) (wV c)) (aA (cF (oV x) (wV c)) (cJ x.1 c.1) (aA (cE v) (xT (Aq (mG f) n d)) (mA tG (qM x.2.1 c.2.1) (m=m) g (Gw c)))))))/\∀(c:Nat×ce×Bool×Sl×Sl×Int×PH),I1 c->dC c.2.2.2.2.2.1 0 (jZ (fP c.2.1) 24 (∃(e:Nat×ce×Bool×Sl×PH),aA (I
 e) (D e<D x) (aA (eQ (bP t)) (aJ u) (aA (aJ j) dL (aA (eP 6) lN (aA (eL 45) (i7 c.2.2.1 (Ck e)) (aA (bH (wV c) (oV e)) (cF (wV c) (oV e)) (aA (fU (bG c.1 1)=bP e.1) (cE v) (aA (xT (Aq (mG f) n d)) tG (aI (qL 1 (fK (fP c.2.1) (aY c.2.2.2.2.1)) e.2.1) (m=m) (Gw c=zD e) True)))))))))) (∃(e:Nat×ce×Bool×Sl×PH),aA (I e) (D e<D x) (aA (eQ (bP t)) (aJ u) (aA (aJ j) dL (aA (eP 6) lN (aA (eL 45) (i7 c.2.2.1 (Ck e)) (aA (bH (wV c) (oV e)) (cF (wV c) (oV e)) (aA (fU (bG c.1 1)=bP e.1) (cE v) (aA (xT (Aq (mG f) n d)) tG (aI (qM c.2.1 e.2.1) (m=m) (Gw c=zD e) True))))))))))))))))))) (∃(I1:
 ce×PH->Prop),qB (Ck x) (IC j (zD x) (λs g=>jZ (fP x.2.1) 24 (∃(c:ce×PH),aA (I1 c) (eQ (bP t)) (aA (eP 6) lN (aA (eL 45) (xT (Aq (mG f) n d)) (aA tG (qL 1 (fK (fP x.2.1) (aY s)) c.1) (bS (m=m) g c.2))))))) (∃(c:ce×PH),aA (I1 c) (eQ (bP t)) (aA (eP 6) lN (aA (eL 45) (xT (Aq (mG f) n d)) (aA tG (qM x.2.1 c.1) (bS (m=m) (zD x) c.2)))))/\∀(c:ce×PH),I1 c->aW (λz A=>aI (aX (mG f) z A) (0<=(↑t:Int)) ((↑t:Int)<(↑n:Int)) (cG c.2 1 (fP c.1) (λs g=>rO m z (bN A t 1) (aY s) (λP=>K (lG (kL (Value.slice (mG f) n d))) P g)))))))
theorem On:br 112 XV:=by
 refine hJ func112 ?_;rintro e m h K ⟨s,r,rfl,f,y,g⟩;refine⟨cW [] [] [] [] false,rfl,aH,QQ s m h K,bi,?_⟩;dsimp only[QQ,push_cast];obtain⟨⟨c,j,n,o⟩,u⟩:=f;exact⟨c.map VV.enc,Nc c,j,by rw[length_map];omega,by rw[length_map];omega,λx h' le d=>g x h' le ⟨⟨c,d,n,o⟩,u⟩⟩
theorem PQ:br 61 aXJ:=by
 refine hJ func61 ?_;rintro C m h K ⟨v,s,t,z,r,rfl,A,n,M,u⟩;refine⟨cW [(112,XV)] [] [] [] false,rfl,aE On aH,Uo v t z m h K,bi,?_⟩;dsimp only[Uo,push_cast];have D:=A.tables.slen;have d:=bV.slen n;have c:xY s t=false->K CZ m h:=λe=>u ⟨none,0,0⟩ h (.refl _) (by simp only[Jh,e];exact bV.nil _ _ _ _);refine aF (λE=>c (by simp[xY];omega)) (λE=>aF (λF=>c (by simp[xY];omega)) (λF=>?_));have e:xY s t=true:=by simp[xY];omega
 obtain⟨f,g⟩:∃f,s.tables[t.toNat]? =some f:=⟨_,getElem?_eq_getElem aD⟩
 obtain⟨b,o,y,G,rd,H⟩:=bV.at A.tables g;have I:=H.key;obtain⟨a,len,j⟩:=z;have B:len<=j:=by obtain⟨O,J,_⟩:=n.ex;exact J.cap
 have d:len=r.length:=d
 have x:(if(if(len:Int)<y.key then(len:Int)else y.key)>0 then(if(len:Int)<y.key then(len:Int)else y.key)else 0)=max 0 (min f.key r.length):=by
  rw[<-I];split<;>split<;>omega
 refine⟨b,o,G,aD,aD,y.key,.imm (bO.part rd 2 1),?_⟩;dsimp only;rw[x];have L:Jh s t r=r.take (max 0 (min f.key r.length)).toNat:=by simp only[Jh,e,if_true,g];rfl
 rw[L]at u;exact⟨aD,aD,⟨a,(max 0 (min f.key r.length)).toNat,j⟩,_,rfl,n.cut aD,by rw[length_take];omega,u⟩
theorem SG.snoc{key:Int}{ks:bt}{l:cd}{k:Int}{v:VV}(x:SG key (ks.take i) l)(e:ks[i]? =some k)(f:K7 v)(g:A9 key k i v=true):SG key (ks.take (i+1)) (l++[v]):=by
 obtain⟨n,o,y⟩:=x;have C:=(List.getElem?_eq_some_iff.1 e).1;have z:l.length=i:=by rw[n,length_take];omega
 refine⟨by rw[length_append,length_take];simp;omega,λu d=>?_,λj u A d c=>?_⟩
 .rcases mem_append.1 d with d|d
  .exact o u d
  .simp at d;subst d;exact f
 .rw[getElem?_take]at c;split at c
  .by_cases B:j<l.length
   .rw[getElem?_append_left B]at d;exact y j u A d (by rw[getElem?_take,if_pos aD];exact c)
   .have:j=i:=by omega
    subst this;rw[getElem?_append_right aD,z,Nat.sub_self]at d;simp at d;subst d;rw[e]at c;cases c;exact g
  .cases c
theorem azZ{key k c:Int}(d:c=1\/c=2)(e:(i:Int)>=key):A9 key k i ⟨c,0,⟨#[]⟩⟩=true:=by
 rcases d with rfl|rfl<;>simp[A9,kY,Hv]<;>omega
theorem Kq{key k:Int}{v:VV}(c:KOk k)(d:YT k v):A9 key k i v=true:=by
 obtain⟨e,f⟩:=d c;simp[A9,e,f]
theorem anJ(c:Int):K7 ⟨c,0,⟨#[]⟩⟩:=⟨⟨bj,bj⟩,by show(ByteArray.mk #[]).size<=64;decide⟩
theorem Z4:br 60 bQQ:=by
 refine hJ func60 ?_;rintro b5 m h K ⟨v,s,tb,n,W,us,u,t,B,rs,sk,M,X,row,rfl,hs,Y,hT,hn,hu,Z,b6,a3,a4,D,h0,h1,hK⟩;refine⟨beZ v ⟨some ⟨tb,0,none⟩,n,W⟩ t sk X m,rfl,aE PQ (aE Kt (aE On aH)),Up v tb n W t sk X m h K,bi,?_⟩;dsimp only[Up,push_cast];obtain⟨y,O,a5,a'⟩:=hT;have a6:t<us.length:=(List.getElem?_eq_some_iff.1 hu).1;have a7:=bV.slen Z;have b4:=bV.slen D;have a8:((X.len:Int)==0)=false:=by simp;omega
 have a9:(y.toList.drop (0+t*1)).take [gU u].length=[gU u]:=by
  have E:y.toList[t]? =some (Sl.val u):=by
   have e:(y.toList.take us.length)[t]? =some (Sl.val u):=by rw[a',getElem?_map,hu];rfl
   rwa [getElem?_take,if_pos a6]at e
  have Q:=(List.getElem?_eq_some_iff.1 E).1;rw[Nat.zero_add,Nat.mul_one,drop_eq_getElem_cons Q,(List.getElem?_eq_some_iff.1 E).2];rfl
 refine⟨tb,0,rfl,aD,aD,u,.lent y 68 (0,0) O a9,λz=>z.2.2.2.1=u/\z.1<=rs.length/\PH.le h z.2.2.2.2/\∃out,gS z.2.2.2.2 z.2.1 out/\out.length<=2*z.1/\out++Br B M row z.2.2.1 (rs.drop z.1)=Br B M row false rs,λz=>rs.length-z.1,⟨(0,[],false,u,h),⟨rfl,bj,.refl _,[],gS.nil _,bj,bj⟩,by rw[a8];exact MT⟩,?_⟩;rintro⟨i,G,d,u',hx⟩ ⟨e1,hi,x,out,g,H,f⟩;dsimp only at e1 hi x g H f⊢
 subst e1;have a0:=g.len;refine aF (λQ=>?_) (λb7=>?_)
 .obtain⟨r,I⟩:=eF a7 Q;have b':=(List.getElem?_eq_some_iff.1 I).1;obtain⟨b,o,w,ea,rd,hv⟩:=bV.at Z I;have R:rs.drop i=r::rs.drop (i+1):=by rw[drop_eq_getElem_cons b',(List.getElem?_eq_some_iff.1 I).2]
  rw[R,Br]at f;refine⟨b,o,ea,aD,aD,w,.imm (rd.mono x),v,s,t,w,r,rfl,hs.mono x,cA.mono hv x,a3 r (mem_of_getElem? I),λs' h2 A b0=>⟨s',sk,_,M,rfl,b0,cA.mono a4 (x.trans A),?_⟩⟩;rw[GI Y];generalize hc:dP (lH B r) M=c at f⊢
  refine⟨λz=>z.1=i/\z.2.2.2.1=u'/\z.2.2.2.2.1=w/\z.2.2.2.2.2.1=c/\PH.le hx z.2.2.2.2.2.2/\∃out,gS z.2.2.2.2.2.2 z.2.1 out/\out.length<=2*i+1/\out++((if c≠0 then[r]else[])++Br B M row z.2.2.1 (rs.drop (i+1)))=Br B M row false rs,aF (λJ=>aC (λC=>?_) (λC=>?_)) (λJ=>?_),?_⟩
  .have C:d=false:=bo C
   subst C;rw[if_pos ⟨J,rfl⟩,show(false||decide (0<=c))=true by simp;omega]at f;refine⟨X,row,rfl,cA.mono D (x.trans A),h1,λL S j T=>⟨by rw[length_map];omega,by rw[length_map];omega,(i,G++[L],true,u',w,c,S),⟨rfl,rfl,rfl,rfl,A.trans j,out++[row],(g.mono (A.trans j)).snoc T,by rw[length_append];simp;omega,?_⟩,?_⟩⟩
   .rw[append_assoc];exact f
   .rw[map_append];exact MT
  .have C:d=true:=bo C
   subst C;rw[if_neg bj,Bool.true_or,nil_append]at f;exact⟨(i,G,true,u',w,c,h2),⟨rfl,rfl,rfl,rfl,A,out,g.mono A,aD,f⟩,MT⟩
  .rw[if_neg (λh=>J h.1),show(d||decide (0<=c))=d by rw[decide_eq_false J,Bool.or_false],nil_append]at f;exact⟨(i,G,d,u',w,c,h2),⟨rfl,rfl,rfl,rfl,A,out,g.mono A,aD,f⟩,MT⟩
  clear f g H a0 out G;rintro⟨F,G,d,u2,w2,c2,S⟩ ⟨e2,e3,e4,e5,j,out,g,H,f⟩;dsimp only at e2 e3 e4 e5 j g H f⊢
  subst e2 e3 e4 e5;have a0:=g.len;have hw:IntKind.i64.wrap ((F:Int)+1)=((F+1:Nat):Int):=kA aD;refine aC (λU=>?_) (λU=>?_)
  .rw[if_pos (bo U)]at f;refine⟨by rw[length_map];omega,by rw[length_map];omega,(F+1,G++[w2],d,u2,S),⟨rfl,by show F+1<=rs.length;omega,x.trans j,out++[r],g.snoc (cA.mono hv (x.trans j)),by rw[length_append];simp;omega,by rw[append_assoc];exact f⟩,by show rs.length-(F+1)<rs.length-F;omega,?_⟩;rw[hw,map_append];exact MT
  .rw[if_neg (bo U),nil_append]at f;refine⟨(F+1,G,d,u2,S),⟨rfl,by show F+1<=rs.length;omega,x.trans j,out,g,by show out.length<=2*(F+1);omega,f⟩,by show rs.length-(F+1)<rs.length-F;omega,?_⟩;rw[hw];exact MT
 .have b1:i=rs.length:=by omega
  rw[b1,drop_length,Br]at f;refine⟨λz=>PH.le h z.2/\gS z.2 z.1 (Br B M row false rs),aC (λC=>?_) (λC=>?_),?_⟩
  .have C:d=false:=bo C
   rw[C,if_neg bj]at f;refine⟨X,row,rfl,cA.mono D x,h1,λL S j T=>⟨by rw[length_map];omega,by rw[length_map];omega,(G++[L],S),⟨x.trans j,by rw[<-f];exact(g.mono j).snoc T⟩,?_⟩⟩;rw[map_append];exact MT
  .have C:d=true:=bo C
   rw[C,if_pos rfl,append_nil]at f;exact⟨(G,hx),⟨x,by rw[<-f];exact g⟩,MT⟩
  rintro⟨b8,S⟩ ⟨j,P⟩;dsimp only at j P⊢
  have b2:=Mc (t:=B) (key:=M) (row:=row) (l:=rs) (d:=false);refine⟨tb,0,rfl,aD,aD,λL h4 a1 b3=>⟨y,68,⟨O⟩,?_,λm' a2=>hK L m' h4 (j.trans a1) ((P.mono a1).rows b3 (by simp at b2;omega)) ⟨_,a2.at_,?_,?_⟩ ⟨λb hb=>(a2.other b hb).symm▸rfl⟩⟩⟩
  .omega
  .have V:splice y.toList (0+((t:Int)).toNat*1) [gU L]=y.toList.set t (Sl.val L):=by
    rw[set_eq_take_append_cons_drop,if_pos (by rw[Array.length_toList];omega)];simp only[splice,Int.toNat_natCast,Nat.zero_add,Nat.mul_one,length_singleton,append_assoc];rfl
   rw[V];simp only[length_set,size_toArray,Array.length_toList];exact a5
  .have V:splice y.toList (0+((t:Int)).toNat*1) [gU L]=y.toList.set t (Sl.val L):=by
    rw[set_eq_take_append_cons_drop,if_pos (by rw[Array.length_toList];omega)];simp only[splice,Int.toNat_natCast,Nat.zero_add,Nat.mul_one,length_singleton,append_assoc];rfl
   rw[V,length_set,map_set, <-a',take_set]
def OO{α:Type}(T:List α->α->Prop):List α->List α->Prop
 |_,[]=>True
 |pre,x::r=>T pre x/\OO T (pre++[x]) r
theorem TX{α:Type}{T:List α->α->Prop}:∀{l c:List α},OO T c l->∀(j:Nat) x,l[j]? =some x->T (c++l.take j) x
 |[],_,_,j,x,e=>by simp at e
 |y::r,c,h,0,x,e=>by simp at e;subst e;simpa using h.1
 |y::r,c,h,j+1,x,e=>by
  have:=TX h.2 j x (bo e);simpa using this
theorem zR{α:Type}{T:List α->α->Prop}{l:List α}(h:OO T [] l):Good T l:=λj x e=>bo (TX h j x e)
theorem Zy{α:Type}{T:List α->α->Prop}{l:List α}(h:Good T l)(n:Nat):Good T (l.take n):=λj x e=>by
 rw[getElem?_take]at e;split at e
 .rename_i c;rw[take_take,Nat.min_eq_left aD];exact h j x e
 .cases e
theorem apQ(u:s.tables.length<=8)(g:∀t∈s.tables,t.columns.length<=8/\t.refs=[]/\t.checks=[])(y:0<=s.version)(z:s.version<=1000)(A:Good Di s.tables):cX s=0:=by
 have n:CW s:=⟨u,λj t e=>by
  obtain⟨o,d,f⟩:=g t (mem_of_getElem? e);exact⟨o,by simp[d],by simp[f]⟩⟩
 have ok:JK s:=⟨y,z,A,λj t e=>by
  obtain⟨o,d,f⟩:=g t (mem_of_getElem? e);unfold ES;rw[d];intro i x B;simp at B⟩
 rw[JZ n ok];refine CS _ λe c=>?_;obtain⟨i,_,c⟩:=mem_flatMap.1 c;unfold vX at c;split at c
 .rename_i t C;obtain⟨o,d,f⟩:=g t (mem_of_getElem? C);rw[f]at c;simp at c
 .simp at c
theorem VD{id:Int}(h:id=4\/id=5):Good Di (mV id):=by
 have c:eD id=true:=by rcases h with rfl|rfl<;>rfl
 refine zR ⟨⟨?_,?_,?_,?_,zR ⟨⟨?_,?_,?_⟩,⟨?_,?_,?_⟩,trivial⟩⟩,⟨?_,?_,?_,?_,zR ⟨⟨?_,?_,?_⟩,⟨?_,?_,?_⟩,⟨?_,?_,?_⟩,⟨?_,?_,?_⟩,trivial⟩⟩,⟨?_,?_,?_,?_,zR ⟨⟨?_,?_,?_⟩,⟨?_,?_,?_⟩,trivial⟩⟩,⟨?_,?_,?_,?_,zR ⟨⟨?_,?_,?_⟩,trivial⟩⟩,trivial⟩
 all_goals first|exact c|rfl|(simp;done)|decide
theorem Nn(h:xF s):cX s=0/\s.tables≠[]:=by
 obtain⟨d,n,id,g,j,o,u,f,rfl⟩:=h.ex;refine⟨apQ (by simp[mV];omega) (λt c=>?_) g (by show d<=1000;omega) (Zy (VD f) n),λe=>?_⟩
 .have c:=mem_of_mem_take c;simp only[mV,mem_cons,not_mem_nil,or_false]at c;rcases c with rfl|rfl|rfl|rfl<;>exact⟨bj,rfl,rfl⟩
 .have:=congrArg List.length e;simp[mV]at this;omega
theorem J7(h:xF s){t:yB}(e:t∈s.tables):1<=t.key/\1<=t.columns.length/\t.columns.length<=4/\∀c∈t.columns,KOk c.kind:=by
 obtain⟨j,n,id,o,u,x,y,f,rfl⟩:=h.ex;have g:KOk id:=by rcases f with rfl|rfl;exact .inr (.inl rfl);exact .inr (.inr rfl)
 have e:=mem_of_mem_take e;simp only[mV,mem_cons,not_mem_nil,or_false]at e;rcases e with rfl|rfl|rfl|rfl
 all_goals
  refine⟨bj,bj,bj,λc d=>?_⟩;simp only[mem_cons,not_mem_nil,or_false]at d
 .rcases d with rfl|rfl<;>exact .inr (.inl rfl)
 .rcases d with rfl|rfl|rfl|rfl
  .exact g
  .exact .inr (.inl rfl)
  .exact .inr (.inr rfl)
  .exact .inl rfl
 .rcases d with rfl|rfl<;>exact .inr (.inl rfl)
 .subst d;exact g
theorem VB(h:xF s):aTJ s:=λt k d=>by
 unfold iA at d;split at d
 .simp at d
 .split at d
  .simp at d
  .rename_i g e;obtain⟨c,f,rfl⟩:=mem_map.1 d;exact(J7 h (mem_of_getElem? e)).2.2.2 c f
structure FN(s:iJ)(st:List bx):Prop where
 len:st.length=s.tables.length
 few:∀l∈st,l.length<=4
 ok:MZ s st
 val:StV st
theorem fW.iceB{y:MH}{n:PH}{r:CV}{c:Nat}{d:Array Value}{E:TypeId}(f:y c=some (.cells d E (0,0)))(le:PH.le h n)(B:∀z,PH.le n z->(∀i,z c i=d[i]?)->K r (λb=>if b=c then none else y b) z):fW h K r y n:=by
 intro u;have A:∀i,n c i=none:=u c _ f
 have g:PH.le n (λx i=>if x=c then d[i]? else n x i):=⟨λx i v e=>by
  have:x≠c:=λj=>by rw[j,A i]at e;cases e
  simp[this,e]⟩
 refine⟨_,_,λb o e=>?_,le.trans g,λx i v e=>?_,B _ g (λi=>bj)⟩
 .by_cases j:b=c
  .simp[j]at e
  .simpa[j]using e
 .by_cases j:x=c
  .subst j;simp at e;exact .inr ⟨d,E,(0,0),f,e,bj⟩
  .simp[j]at e;exact .inl e
structure TSt(h:PH)(s:iJ)(m:MH)(tb:Nat)(us:ce)(st:List bx):Prop where
 tbl:alZ m tb us
 ulen:us.length=s.tables.length
 slen:st.length=s.tables.length
 rows:∀(j:Nat) u l,us[j]? =some u->st[j]? =some l->Rows h u l
 ok:MZ s st
 val:StV st
 few:∀l∈st,l.length<=4
theorem TSt.mono{c:Nat}{us:ce}{st:List bx}(x:TSt h s m c us st)(le:PH.le h h')(e:m' c=m c):TSt h' s m' c us st:=by
 obtain⟨d,f,g,n⟩:=x.tbl;exact⟨⟨d,by rw[e];exact f,g,n⟩,x.ulen,x.slen,λj u l a b=>bV.mono (x.rows j u l a b) le λr t o=>cA.mono o le,x.ok,x.val,x.few⟩
theorem a6J{t:yB}{r:cd}(h:SG t.key (t.columns.map nP.kind) r):EV t r=true:=by
 obtain⟨c,_,d⟩:=h;rw[length_map]at c;refine FF.2 ⟨c,λi e=>?_⟩;have f:r[i]? =some (r.getD i zeroV):=by rw[getD_eq_getElem?_getD,getElem?_eq_getElem e];rfl
 refine d i _ _ f ?_;rw[getElem?_map,getD_eq_getElem?_getD,getElem?_eq_getElem aD];rfl
theorem azJ{key k:Int}{v:VV}(h:A9 key k i v=true)(c:K7 v):tN v.kind/\tN v.int:=by
 simp only[A9,Bool.and_eq_true]at h;have:=Lh h.1;exact⟨⟨aD,aD⟩,c.int_⟩
theorem TSt.put{D t:Nat}{us:ce}{st:List bx}{E:Sl}{f:yB}{l:bx}{row:cd}(x:TSt h s m D us st)(le:PH.le h h')(J:s.tables[t]? =some f)(F:st[t]? =some l)(M:alZ m' D (us.set t E))(g:Rows h' E (Br f (lH f row) row false l))(B:SG f.key (f.columns.map nP.kind) row)(S:l.length<=3):
 TSt h' s m' D (us.set t E) (st.set t (Br f (lH f row) row false l)):=by
 have G:=a6J B;have n:=(List.getElem?_eq_some_iff.1 F).1;have z:=x.ok t f l J F;refine⟨M,by rw[length_set];exact x.ulen,by rw[length_set];exact x.slen,λj u o C c=>?_,λj O o y c=>?_,λo c=>?_,λo c=>?_⟩
 .by_cases e:t=j
  .subst e;rw[getElem?_set_self (by rw[x.ulen, <-x.slen];exact n)]at C;rw[getElem?_set_self n]at c;cases C;cases c;exact g
  .rw[getElem?_set_ne e]at C c;exact bV.mono (x.rows j u o C c) le λr t A=>cA.mono A le
 .by_cases e:t=j
  .subst e;rw[getElem?_set_self n]at c;rw[J]at y;cases c;cases y;refine⟨λr g=>?_,λi r P Q R=>(Ni (O9.of z.2)).adj i r P Q R⟩;rcases Mb g with rfl|g
   .exact G
   .exact z.1 r g
  .rw[getElem?_set_ne e]at c;exact x.ok j O o y c
 .rcases mem_or_eq_of_mem_set c with H|rfl
  .exact x.val o H
  .intro r g v A;rcases Mb g with rfl|g
   .obtain⟨i,L,rfl⟩:=mem_iff_getElem.1 A;have I:i<(f.columns.map nP.kind).length:=by rw[<-B.1];exact L
    exact azJ (B.2.2 i _ _ (getElem?_eq_getElem L) (getElem?_eq_getElem I)) (B.2.1 _ A)
   .exact x.val l (mem_of_getElem? F) r g v A
 .rcases mem_or_eq_of_mem_set c with H|rfl
  .exact x.few o H
  .have:=Mc (t:=f) (key:=lH f row) (row:=row) (l:=l) (d:=false);simp at this;omega
def buQ:Vc.Spec:=λc m h K=>∃cb s key ks,c=[cP cb,cS s,cI key,cI 2]/\bC m h cb/\Ints h s ks/\ks.length<=1000/\(∀k∈ks,k=3\/k=4\/k=5)/\∀d r m' h',PH.le h h'->cA h' d r->SG key ks r->bM m m' cb->bC m' h' cb->K (cS d) m' h'
def YF:Vc.Spec:=λc m h K=>∃cb v s,c=[cP cb,aS v,cI 2]/\bC m h cb/\gA h s v/\xF s/\∀d e m' h',PH.le h h'->EW h' e d->FN s d->bM m m' cb->bC m' h' cb->K (aSt e) m' h'
noncomputable def f58m_ctx(cb:Nat)(key:Int)(s:Sl):Ctx:=cW [(36,Rs),(108,Sw)] [(3,{A:=Nat×cd×MH×PH,st:=λ⟨i,l,m,h⟩=>bY 59 63 [(0,pv cb),(2,iv key),(3,iv 2),(9,.at (.lst 24)),(12,sv s),(13,iv s.len),(14,iv i)] [(24,.lst 24 3 (l.map VV.enc))] m h})] [] [] false
noncomputable def aEX(cb:Nat)(v:cN):Ctx:=uC [(30,Lb),(59,uK),(58,buQ),(61,aXJ),(60,bQQ)] [(3,{A:=Nat×Sl×MH×PH,st:=λ⟨i,s,m,h⟩=>bY 51 54 [(0,pv cb),(2,iv 2),(4,.at (.ptr 4 0)),(6,.at (.ptr 6 0)),(7,.at (.ptr 7 0)),(18,iv v.tables.len),(19,iv i)] [(4,.cells 40 (v.enc.map .val)),(6,.cells 63 [.val bW.val]),(7,.cells 63 [.val (.slice s.a s.len s.cap)])] m h}),
 (6,{A:=Nat×Int×Sl×MH×PH,st:=λ⟨i,n,s,m,h⟩=>bY 51 54 [(0,pv cb),(2,iv 2),(4,.at (.ptr 4 0)),(6,.at (.ptr 6 0)),(7,.at (.ptr 7 0)),(8,iv i),(9,iv n),(18,iv v.tables.len),(19,iv i)] [(4,.cells 40 (v.enc.map .val)),(6,.cells 63 [.val bW.val]),(7,.cells 63 [.val (.slice s.a s.len s.cap)])] m h})] [] [] [2061] [] false
noncomputable abbrev u7(a:Nat×cd×MH×PH):List bw:=DO a.2.1
noncomputable abbrev pG(a:Nat×cd×MH×PH):Nat->Nat->Option Value:=a.2.2.2
abbrev F8(a:Nat×cd×MH×PH)(b:Nat×cd×MH×PH->Prop)(c:Nat×cd×MH×PH->Nat)(d:Nat)(e:Int)(g:Sl)(i:(Nat×cd×MH×PH)->Prop):Prop:=aA (iF (jJ (u7 a) 1) 32) (lO (u7 a)) (∃(x:Nat×cd×MH×PH),aA (b x) (c x<c a) (aA (cQ d) (dO e) (aA (dO 2) (eL 24) (aA (aJ g) (bI g) (i x)))))
attribute [push_cast] u7 pG F8
def au(cb:Nat)(s:Sl)(key:Int)(m:MH)(h:PH)(K:bu):Prop:=
  ∃(I:Nat×cd×MH×PH->Prop)(f:Nat×cd×MH×PH->Nat),(∃(x:Nat×cd×MH×PH),aA (I x) (cQ cb) (aA (dO key) (dO 2) (aA (eL 24) (aJ s) (aA (bI s) (bF x.1) (aI (tY 24 3 (u7 x)) (cV m x.2.2) (h=pG x) True)))))/\∀(x:Nat×cd×MH×PH),I x->bA (↑x.1:Int) (aG s) (aW (λb o=>aI (aX s.a b o) (0<=(↑x.1:Int)) ((↑x.1:Int)<aG s) (∃(y:Int),aU x.2.2.1 (pG x) b (bN o x.1 1) (bJ y)/\dJ (decide ((↑x.1:Int)>=key)) (oP cb 5 x.2.2.1 (pG x) (λc r=>∀(e:MH),bM x.2.2.1 e c->bC e (pG x) c->dJ r (F8 x I f cb key s (λd=>mA (fU (bG x.1 1)=bP d.1) (cH 24 3 (fK (u7 x) (aR (dY 2) bL (kL E8)))=cH 24 3 (u7 d)) (cV e d.2.2) (pG x) (pG d))) (decide ((↑x.1:
 Int)>=key)) (DS cb y e (pG x) (λv g=>F8 x I f cb key s (λd=>mA (fU (bG x.1 1)=bP d.1) (cH 24 3 (fK (u7 x) v.enc)=cH 24 3 (u7 d)) (cV g d.2.2) (pG x) (pG d)))) (DS cb y e (pG x) (λv g=>F8 x I f cb key s (λd=>mA (fU (bG x.1 1)=bP d.1) (cH 24 3 (fK (u7 x) v.enc)=cH 24 3 (u7 d)) (cV g d.2.2) (pG x) (pG d)))))) (decide ((↑x.1:Int)>=key)) (DS cb y x.2.2.1 (pG x) (λv e=>F8 x I f cb key s (λd=>mA (fU (bG x.1 1)=bP d.1) (cH 24 3 (fK (u7 x) v.enc)=cH 24 3 (u7 d)) (cV e d.2.2) (pG x) (pG d)))) (DS cb y x.2.2.1 (pG x) (λv e=>F8 x I f cb key s (λd=>mA (fU (bG x.1 1)=bP d.1) (cH 24 3 (fK (u7 x) v.enc)=cH 24 3 (u7
 d)) (cV e d.2.2) (pG x) (pG d))))))) (cG (pG x) 3 (u7 x) (λj n=>K (dN j) x.2.2.1 n))
abbrev ID(a:cr)(b:Sl):Prop:=oQ 63 a=oQ 63 (rI (oM b))
noncomputable abbrev Ep(a:Nat×Int×Sl×MH×PH):Nat->Nat->Option Value:=a.2.2.2.2
attribute [push_cast] ID Ep
def KA(cb:Nat)(v:cN)(m:MH)(h:PH)(K:bu):Prop:=
  aA (bZ (i6 v)) (i6 v<=i6 v) (aA (rF (i6 v*24)) (rF (i6 v)) (oD (λs M=>pM m M h s 68 1 (wC (i6 v) iT)->Mx (λI x=>aA (I x) (cQ cb) (aA (dO 2) (eP 4) (aA (eP 6) iR (aA (iU v) (bF x.1) (aA (cE v) tG (aA (ID (rI (oM s)) (p9 x)) (cV M x.2.2) (bD h (nY x)))))))) (λI O x=>I x->bA (↑x.1:Int) (aG v.tables) (kO cb 5 (tI x) (nY x) (λk m3=>∃(I1:Nat×Int×Sl×MH×PH->Prop)(P:Nat×Int×Sl×MH×PH->Nat),(∃(d:Nat×Int×Sl×MH×PH),aA (I1 d) (cQ cb) (aA (dO 2) (eP 4) (aA (eP 6) iR (aA (cJ x.1 d.1) (dA k d.2.1) (aA (iU v) (cJ x.1 d.1) (aA (cE v) tG (aI (ID (rI (oM (p9 x))) d.2.2.1) (cV m3 d.2.2.2) (nY x=Ep d)
 True)))))))/\∀(d:Nat×Int×Sl×MH×PH),I1 d->gM d.2.1 0 (aW (λb o=>aI (aX (tX v) b o) (0<=(↑d.1:Int)) ((↑d.1:Int)<aG v.tables) (∃(y:Int),aA (aU d.2.2.2.1 (Ep d) b (bN o d.1 5+2) (bJ y)) (bO (Ep d) b (bN o d.1 5+2) (bJ y)) (AK (bT (bQ v) (↑d.1:Int)) (Ep d) (λs1 F=>Kd (λc Q=>∃(R:Int)(A:bt),aA (gP cb (dN s1::bT (eG y) 2)=gP c (dN Q::bT (eG R) 2)) (bC d.2.2.2.1 F c) (aA (Ints F Q A) (iO A) ((∀(f:Int),List.Mem f A->f=3\/f=4\/f=5)/\∀(G:Sl)(r:cd),eX (λB j=>cD F j (cA j G r) (SG R A r->bM d.2.2.2.1 B c->jN B j c (oG (λS T=>∃(t:Int),oK (λU H=>aA (bQ v::bK (eG (↑d.1:Int)) (dN G)=bQ S::
 bK (eG t) (dN U)) (gA j T S) (aA (cA j U H) (lR H.length) (∀(V:Sl)(g:PH),cD j g (cA g V (Jh T t H)) (oG (λW X=>aW (λz n=>∃(Y:Nat)(u:ce)(Z:Sl)(C:Nat)(t3:yB)(D:bx),oK (λs8 f=>oK (λs9 E=>aA (bQ v::lG (aY d.2.2.1)::eG (↑d.1:Int)::bK (dN V) (dN G)=bQ W::lG (kL (Value.slice (mG z) n Y))::eG (↑C:Int)::bK (dN s8) (dN s9)) (gA g X W) (aA (MA X C t3) (alZ B z u) (aA (n=u.length) (u[C]? =Option.some Z) (aA (Rows g Z D) (lR D.length) (aA (∀(r4:cd),List.Mem r4 D->lR r4.length) (cA g s8 f) (aA (cA g s9 E) (0<E.length) (lR E.length/\∀(u2:Sl),eX (λJ L=>cD g L (Rows L u2 (Br t3 f E false D)) (alZ J z (List.set u C u2)->bM
 B J z->∃(e:Nat×Int×Sl×MH×PH),aA (I1 e) (P e<P d) (aA (cQ cb) (dO 2) (aA (eP 4) (eP 6) (aA iR (cJ d.1 e.1) (aA (dA (iE (d.2.1-1)) e.2.1) (iU v) (aA (cJ d.1 e.1) (cE v) (aA tG (ID (rI (Aq (mG z) n Y)) e.2.2.1) (aA (cV J e.2.2.2) (L=Ep e) True))))))))))))))))))))))))))))))))))) (∃(e:Nat×Sl×MH×PH),aA (I e) (O e<O x) (aA (cQ cb) (dO 2) (aA (eP 4) (eP 6) (aA iR (iU v) (aA (fU (bG d.1 1)=bP e.1) (cE v) (aA tG (ID (rI (oM d.2.2.1)) (p9 e)) (bS (fO d.2.2.2 e.2.2) (Ep d) (nY e)))))))))) (K (lG (aY (p9 x))) (tI x) (nY x))))))
theorem bg:br 58 buQ:=by
 refine hJ func58 ?_;rintro V m h K ⟨cb,s,key,ks,rfl,W,R,hl,X,Y⟩;refine⟨f58m_ctx cb key s,rfl,aE Dc (aE HJ aH),au cb s key m h K,bi,?_⟩;dsimp only[au,push_cast];have J:=R.slen;refine⟨λz=>z.2.2.2=h/\z.1<=ks.length/\SG key (ks.take z.1) z.2.1/\bM m z.2.2.1 cb/\bC z.2.2.1 h cb,λz=>ks.length-z.1,⟨(0,[],m,h),⟨rfl,bj,⟨bj,bj,λj u k h=>by simp at h⟩,.refl _ _,W⟩,MT⟩,?_⟩;rintro⟨i,l,S,h'⟩ ⟨T,Z,d,L,G⟩;dsimp only at T Z d L G⊢
 subst T;have a':l.length=i:=by rw[d.1,length_take];omega
 refine aF (λM=>?_) (λa0 s' h2 B O=>?_)
 .obtain⟨k,C⟩:=eF J M;obtain⟨b,o,ea,rd⟩:=R.at' C;have n:=X k (mem_of_getElem? C);have H:∀(u:VV)(m':MH),K7 u->A9 key k i u=true->bM S m' cb->bC m' h' cb->h'=h'/\i+1<=ks.length/\SG key (ks.take (i+1)) (l++[u])/\bM m m' cb/\bC m' h' cb:=λu m' y hf o c=>⟨rfl,aD,d.snoc C y hf,L.trans o,c⟩
  have f:ks.length-(i+1)<ks.length-i:=by omega
  have I:IntKind.i64.wrap ((i:Int)+1)=((i+1:Nat):Int):=kA aD;refine⟨b,o,ea,aD,aD,k,.imm rd,aF (λA=>⟨cb,5,rfl,aD,aD,G,λr U P Q=>aC (λ_=>?_) (λ_=>aF (λ_=>⟨cb,k,rfl,Q,λu g y e D E=>?_⟩) (λ_=>⟨cb,k,rfl,Q,λu g y e D E=>?_⟩))⟩) (λA=>aF (λF=>absurd F A) (λ_=>⟨cb,k,rfl,G,λu g y e D E=>?_⟩))⟩
  .refine⟨by rw[length_map];omega,by rw[length_map];omega,(i+1,l++[⟨2,0,⟨#[]⟩⟩],U,h'),H _ U (anJ 2) (azZ (.inr rfl) A) P Q,f,?_⟩;rw[I,map_append];exact MT
  .refine⟨by rw[length_map];omega,by rw[length_map];omega,(i+1,l++[u],g,h'),H _ g y (Kq n e) (P.trans D) E,f,?_⟩;rw[I,map_append];exact MT
  .refine⟨by rw[length_map];omega,by rw[length_map];omega,(i+1,l++[u],g,h'),H _ g y (Kq n e) (P.trans D) E,f,?_⟩;rw[I,map_append];exact MT
  .refine⟨by rw[length_map];omega,by rw[length_map];omega,(i+1,l++[u],g,h'),H _ g y (Kq n e) D E,f,?_⟩;rw[I,map_append];exact MT
 .rw[take_of_length_le aD]at d;exact Y s' l S h2 B ⟨⟨l,O,rfl,λi x C=>⟨x,C,rfl⟩⟩,aD⟩ d L (G.mono B)
theorem Wi:br 19 YF:=by
 refine TZ func19 ?_;rintro d0 m h K ⟨cb,v,s,rfl,hc,hs,hp,hK⟩;refine⟨aEX cb v,rfl,aE L3 (aE aa (aE bg (aE PQ (aE Z4 aH)))),KA cb v m h (fW h K),bi,?_⟩;show KA cb v m h (fW h K);dsimp only[KA,push_cast];have b5:=hs.tables.slen;obtain⟨a8,b6⟩:=Nn hp;have h8:=Hn a8;have b7:=Dr a8;have d1:0<s.tables.length:=length_pos_iff.2 b6;refine⟨aD,aD,aD,aD,λY m1 L=>?_⟩;rw[show((v.tables.len:Int)).toNat=s.tables.length by omega]at L
 obtain⟨M,D,C,I,O,_,_,a9,U⟩:∃b D C,Y=⟨some ⟨b,0,none⟩,s.tables.length,D⟩/\m1 b=some (.cells C 68 (0,0))/\s.tables.length<=D/\D<=maxLen/\C.size=D*1/\C.toList.take (s.tables.length*1)=(replicate s.tables.length [pO]).flatten:=by
  rcases L.row.ex with⟨_,e⟩|⟨b,D,C,P,V,e3,e4,e5,e6⟩
  .have:=congrArg List.length e;rw[length_replicate,length_nil]at this;omega
  .rw[length_replicate]at P e3 e6;exact⟨b,D,C,P,V,e3,e4,e5,e6⟩
 have a3:s.tables.length<=D:=by assumption
 have Z:fC m h M:=L.fresh M 0 (by rw[I])
 have G:M≠cb:=λe=>by
  obtain⟨cs,V⟩:=hc.blk;rw[<-e,Z.m_]at V;cases V
 have a':∀b,b≠M->m1 b=m b:=λb hb=>L.other b λi e=>by
  rw[I]at e;injection e with e;injection e with P V;exact hb P.symm
 have b':bC m1 h cb:=hc.keep (a' cb (Ne.symm G)) (.refl _)
 have b0:TSt h s m1 M (replicate s.tables.length ⟨none,0,0⟩) (replicate s.tables.length []):=by
  refine⟨⟨C,O,by rw[length_replicate];omega,?_⟩,bj,bj,λj u l Q E=>?_,λj t l ht E=>?_,λl E=>?_,λl E=>?_⟩
  .rw[length_replicate, <-Nat.mul_one s.tables.length,U,Nat.mul_one,map_replicate];generalize s.tables.length=k
   induction k with
   |zero=>rfl
   |succ k ih=>rw[replicate_succ,flatten_cons,ih,replicate_succ];rfl
  .have Q:=mem_of_getElem? Q;have E:=mem_of_getElem? E;rw[eq_of_mem_replicate Q,eq_of_mem_replicate E];exact bV.nil _ _ _ _
  .rw[eq_of_mem_replicate (mem_of_getElem? E)];exact⟨λr hr=>by simp at hr,λi r r' e=>by simp at e⟩
  .rw[eq_of_mem_replicate E];intro r hr;simp at hr
  .rw[eq_of_mem_replicate E];simp
 clear U a9 O C;refine⟨λz=>z.1<=s.tables.length/\z.2.1=Y/\PH.le h z.2.2.2/\bC z.2.2.1 z.2.2.2 cb/\(∀b,b≠M->b≠cb->z.2.2.1 b=m b)/\∃H J,TSt z.2.2.2 s z.2.2.1 M H J/\∀j l,z.1<=j->J[j]? =some l->l=[],λz=>s.tables.length-z.1,⟨(0,Y,m1,h),⟨bj,rfl,.refl _,b',λb h1 _=>a' b h1,_,_,b0,λj l _ e=>eq_of_mem_replicate (mem_of_getElem? e)⟩,MT⟩,?_⟩;clear b0 b';rintro⟨i,a4,m2,h2⟩ ⟨hi,P,W,c2,o2,H,J,f,g⟩;dsimp only at hi P W c2 o2 f g⊢
 rw[P];clear P a4;refine aF (λb8=>?_) (λd2=>?_)
 .obtain⟨F,A⟩:=eF b5 b8;have a5:=mem_of_getElem? A;obtain⟨tk,tc,d3,b9⟩:=J7 hp a5;have b1:=(List.getElem?_eq_some_iff.1 A).1
  have R:J[i]? =some []:=by
   have:=getElem?_eq_getElem (l:=J) (i:=i) (by rw[f.slen];exact b1);rw[this,g i _ (Nat.le_refl _) this]
  refine⟨cb,5,rfl,c2,λk m3 k0 k1 o3 c3=>?_⟩;refine⟨λz=>z.1=i/\z.2.2.1=Y/\z.2.1<=4/\PH.le h z.2.2.2.2/\bC z.2.2.2.1 z.2.2.2.2 cb/\(∀b,b≠M->b≠cb->z.2.2.2.1 b=m b)/\∃H J l,TSt z.2.2.2.2 s z.2.2.2.1 M H J/\J[i]? =some l/\((l.length:Int)<=4-z.2.1)/\0<=z.2.1/\∀j l,i+1<=j->J[j]? =some l->l=[],λz=>z.2.1.toNat,⟨(i,k,Y,m3,h2),⟨rfl,rfl,by show k<=4;omega,W,c3,λb h1 h2=>by show m3 b=m b;rw[o3.other b h2];exact o2 b h1 h2,H,J,[],f.mono (.refl _) (o3.other M G),R,by simp;omega,k0,λj l hj=>g j l aD⟩,MT⟩,?_⟩;clear o3 c3 m3 k0 k1 f g R H J k o2 c2 m2;rintro⟨i',n,a4,m3,h3⟩ ⟨P,V,c',B,c3,o3,H,J,l,f,E,c0,b2,g⟩;dsimp only at P V c' B c3 o3 f E c0 b2 g⊢
  rw[P,V];clear P V i' a4;refine aF (λhn=>?_) (λhn=>?_)
  .obtain⟨b,o,y,ea,rd,hy⟩:=bV.at (hs.mono B).tables A;have c1:iA s (i:Int)=F.columns.map nP.kind:=by rw[iA,if_neg aD,Int.toNat_natCast,A]
   refine⟨b,o,ea,aD,aD,F.key,.imm (by rw[<-hy.key];exact bO.part rd 2 1),by rw[<-hy.key];exact bO.part rd 2 1,v,s,i,rfl,hs.mono B,b7,λks h4 S b3=>?_⟩;rw[c1]at b3;refine⟨cb,ks,F.key,_,rfl,c3.mono S,b3,by rw[length_map];omega,λk hk=>?_,λsr row m5 h5 X a0 a1 o5 c5=>?_⟩
   .obtain⟨c,hc,rfl⟩:=mem_map.1 hk;exact b9 c hc
   have d4:row.length=F.columns.length:=by rw[a1.1,length_map]
   refine⟨v,s,i,sr,row,rfl,hs.mono ((B.trans S).trans X),a0,aD,λsk h6 T a2=>?_⟩;rw[GI A]at a2;have a6:=f.mono ((S.trans X).trans T) (o5.other M G);obtain⟨u,Q⟩:∃u,H[i]? =some u:=⟨_,getElem?_eq_getElem (by rw[f.ulen];exact b1)⟩
   have c4:=mem_of_getElem? E;refine⟨v,s,M,s.tables.length,D,H,u,i,F,l,sk,lH F row,sr,row,by rw[I],hs.mono (((B.trans S).trans X).trans T),A,a6.tbl,f.ulen.symm,Q,a6.rows i u l Q E,by have:=f.few l c4;omega,λr hr=>?_,a2,cA.mono a0 T,aD,aD,λu' m7 h7 a7 c6 c7 o7=>?_⟩
   .have:=(Sb ((f.ok i F l A E).1 r hr)).1;omega
   have hw:IntKind.i64.wrap (n-1)=n-1:=dT aD aD;have c8:=Mc (t:=F) (key:=lH F row) (row:=row) (l:=l) (d:=false);simp at c8;refine⟨(i,n-1,Y,m7,h7),⟨rfl,rfl,by show n-1<=4;omega,(((B.trans S).trans X).trans T).trans a7,(c5.mono (T.trans a7)).keep (o7.other cb (Ne.symm G)) (.refl _),λb h1 h2=>by show m7 b=m b;rw[o7.other b h1,o5.other b h2];exact o3 b h1 h2,H.set i u',J.set i _,_,a6.put a7 A E c7 c6 a1 aD,getElem?_set_self (List.getElem?_eq_some_iff.1 E).1,by show(_:Int)<=4-(n-1);omega,by show 0<=n-1;omega,λj l' hj e=>?_⟩,by show(n-1).toNat<n.toNat;omega,?_⟩
   .rw[getElem?_set_ne aD]at e;exact g j l' hj e
   .rw[hw,I];exact MT
  .refine⟨(i+1,Y,m3,h3),⟨by show i+1<=s.tables.length;omega,rfl,B,c3,o3,H,J,f,g⟩,by show s.tables.length-(i+1)<s.tables.length-i;omega,?_⟩;rw[kA aD];exact MT
 .obtain⟨C,O,a9,U⟩:=f.tbl;refine fW.iceB O W λh3 B b4=>hK J Y _ h3 (W.trans B) ⟨⟨⟨H,⟨by rw[I,length_map];exact f.ulen.symm,.inr ⟨M,0,by rw[I],λj e hj=>⟨λn x hx=>?_⟩⟩,by rw[I];exact a3⟩,by rw[f.slen,f.ulen],λj l E=>?_⟩,by rw[f.slen];omega⟩,by rw[f.slen];omega,f.val⟩ ⟨f.slen,f.few,f.ok,f.val⟩ ⟨λb hb=>?_⟩ ?_
  .rw[getElem?_map,Option.map_eq_some_iff]at hj;obtain⟨u,Q,rfl⟩:=hj;have hn:n=0:=by have:=(List.getElem?_eq_some_iff.1 hx).1;simp[eS]at this;omega
   subst hn
   have hx:u.val=x:=by
    simp[eS]at hx;exact hx
   subst hx;have e:(C.toList.take H.length)[j]? =some u.val:=by rw[U,getElem?_map,Q];rfl
   rw[getElem?_take,if_pos (List.getElem?_eq_some_iff.1 Q).1,Array.getElem?_toList]at e;rw[b4,show 0+j*1+0=j by omega];exact e
  .have c9:=(List.getElem?_eq_some_iff.1 E).1;have d':j<H.length:=by rw[f.ulen, <-f.slen];exact c9
   have Q:H[j]? =some H[j]:=getElem?_eq_getElem d';exact⟨_,Q,bV.mono (f.rows j _ l Q E) B λr t hv=>cA.mono hv B⟩
  .by_cases e:b=M
   .subst e;simp[Z.m_]
   .simp only[e,if_false];exact o2 b e hb
  .refine bC.keep c2 ?_ B;simp[Ne.symm G]
abbrev Rel:=bx
theorem a6X{l:Rel}{x:cd}:G6 l x=false↔x∉l:=by
 rw[<-GJ];cases G6 l x<;>simp
def bQJ:Vc.Spec:=λc m h K=>∃s t l r,c=[cS s,cS t]/\Rows h s l/\cA h t r/\j9 l/\K (cB (G6 l r)) m h
def a1Q:Vc.Spec:=λc m h K=>∃s t i l k,c=[cS s,cS t,cB i]/\Rows h s l/\Rows h t k/\j9 k/\l.length<=1000000/\∀d h',PH.le h h'->Rows h' d (l.filter λx=>G6 k x==i)->K (cS d) m h'
def bQX:Vc.Spec:=λc m h K=>∃n,c=[cI n]/\K (aV ⟨4,n,⟨#[]⟩⟩) m h
def Zk(q:Query):Int:=
 match q with
 |.mk op _ _ _ _ _ _ _ args=>match args with
  |a::_=>if Fh op=true then Zk a else op
  |[]=>op
 termination_by SizeOf.sizeOf q
def bRJ(N:Nat):Vc.Spec:=λc m h K=>∃v q s,c=[aQ v]/\eO h q v/\SizeOf.sizeOf q<N/\(aK s [] q).2=0/\∀d h',PH.le h h'->d.op=Zk q->K (aQ d) m h'
def YX:Vc.Spec:=λc m h K=>∃sc v s q,c=[aS sc,aQ v]/\gA h s sc/\eO h q v/\(dU s [] q).2=0/\∀d h',PH.le h h'->d.op=Zk q->K (.tup [aQ d,cI 0]) m h'
def bSQ:Vc.Spec:=λc m h K=>∃v q s,c=[aQ v]/\eO h q v/\(aK s [] q).2=0/\∀d h',PH.le h h'->d.op=Zk q->K (aQ d) m h'
noncomputable def bdZ(s t:Sl)(m:MH)(h:PH):Ctx:=
 cW [(72,Hh)] [(2,{A:=Nat×Nat,st:=λ⟨c,d⟩=>bY 42 44 [(0,sv s),(1,sv t),(5,iv c),(6,iv d)] [] m h})] [] [] false
noncomputable def bjX(s t:Sl)(i:Bool)(m:MH)(h:PH):Ctx:=
 cW [(65,bQJ)] [(3,{A:=Nat×ce,st:=λ⟨j,c⟩=>bY 27 30 [(1,sv t),(2,bv i),(7,.at (.lst 24)),(10,sv s),(11,iv s.len),(12,iv j)] [(24,.lst 100 1 (c.map eS))] m h})] [] [] false
noncomputable def bfZ(N:Nat)(v:QV)(m:MH):Ctx:=
 cW [(49,aUX),(40,bRJ N),(78,XW),(79,MU),(80,SJ)]
 [(5,{A:=Nat×de×PV×Sl×Sl×PH,st:=λ⟨i,c,w,s,t,h⟩=>bY 44 45 [(2,.at (.ptr 2 0)),(3,.at (.ptr 3 0)),(29,sv v.args),(30,iv v.args.len),(31,iv i)] [(2,.cells 35 zQ),(3,.cells 35 ((QV.enc ⟨v.op,v.table,w,s,t,bW,bW,0,bW⟩).take 20 |>.map .val |>.append [.lst 40])),(40,.lst 35 21 (c.map QV.enc))] m h})]
 [(4,{A:=PV×Sl×Sl×PH,st:=λ⟨w,s,t,h⟩=>bY 44 45 [(1,.at (.ptr 1 0)),(2,.at (.ptr 2 0)),(3,.at (.ptr 3 0))] [(1,.cells 35 (v.enc.map .val)),(2,.cells 35 zQ),(3,.cells 35 ((QV.enc ⟨v.op,v.table,w,s,t,bW,bW,0,bW⟩).map .val))] m h})] [] false
noncomputable abbrev F9(a:Nat×Nat):Int:=bG a.1 (iE (Int.tdiv (iE ((↑a.2:Int)-(↑a.1:Int))) 2))
attribute [push_cast] F9
def Uk(s t:Sl)(m:MH)(h:PH)(K:bu):Prop:=
  Gx (λI x=>aA (I x) (aJ s) (aA (aJ t) (bF x.1) (aI (bP s.len=bP x.2) (m=m) (h=h) True))) (λI g x=>I x->bA (↑x.1:Int) (↑x.2:Int) (GC 2/\aW (λb o=>aI (aX s.a b o) (0<=F9 x) (F9 x<aG s) (∃(y:Sl),aU m h b (gC o (F9 x) 1) (aY y)/\∃(d:Sl),oK (λe a=>∃(f:cd),aI (dX y t=dX d e) (cA h d a) (cA h e f) (bA (dP a f) 0 (∃(c:Nat×Nat),aA (I c) (g c<g x) (aA (aJ s) (aJ t) (aA (SV.at (At.val (dY (iE (F9 x+1))))=bP c.1) (cJ x.2 c.2) (aA (m=m) (h=h) True)))) (∃(c:Nat×Nat),aA (I c) (g c<g x) (aA (aJ s) (aJ t) (aA (cJ x.1 c.1) (SV.at (At.val (dY (F9 x)))=bP c.2) (aA (m=m) (h=h) True))))))))) (bA (↑x.1:Int) (aG s) (aW (λb o=>aI (aX
 s.a b o) (0<=(↑x.1:Int)) ((↑x.1:Int)<aG s) (∃(y:Sl),aU m h b (bN o x.1 1) (aY y)/\∃(d:Sl),oK (λe a=>∃(f:cd),aI (dX y t=dX d e) (cA h d a) (cA h e f) (K (xZ (dP a f==0)) m h))))) (K bB m h)))
def UF(s t:Sl)(i:Bool)(m:MH)(h:PH)(K:bu):Prop:=
  My (λI x=>aA (I x) (aJ t) (aA (eQ (sQb i)) (eL 24) (aA (aJ s) (bI s) (aA (bF x.1) (AH x.2) (bS (m=m) h h))))) (λI d x=>I x->bA (↑x.1:Int) (aG s) (aW (λb o=>aI (aX s.a b o) (0<=(↑x.1:Int)) ((↑x.1:Int)<aG s) (∃(y:Sl),aU m h b (bN o x.1 1) (aY y)/\Kb (λe f l r=>aA (dX t y=dX e f) (Rows h e l) (aA (cA h f r) (j9 l) (branch (G6 l r==i) (jZ (fP x.2) 24 (∃(c:Nat×ce),aA (I c) (d c<d x) (aA (aJ t) (eQ (sQb i)) (aA (eL 24) (aJ s) (aA (bI s) (fU (bG x.1 1)=bP c.1) (aI (qL 1 (fK (fP x.2) (aY y)) c.2) (m=m) (h=h) True)))))) (∃(c:Nat×ce),aA (I c) (d c<d x) (aA (aJ t) (eQ (sQb i)) (aA (eL 24) (aJ s) (aA (bI s) (fU (bG x.1 1)=bP c.1) (aI (qM
 x.2 c.2) (m=m) (h=h) True))))))))))) (sW h (fP x.2) K m))
noncomputable abbrev yH(a:Int):bw:=aR (dY 4) (dY a) (kL E8)
attribute [push_cast] yH
def aBZ(n:Int)(m:MH)(h:PH)(K:bu):Prop:=
  K (lG (yH n)) m h
abbrev IH(a:PH)(b:Query)(c:QV->PH->Prop):Prop:=∀(x:QV)(d:PH),cD a d (x.op=Zk b) (c x d)
abbrev IE(a:QV)(b:PH)(c:PV×Sl×Sl×PH->Prop)(d:Sl->(PV×Sl×Sl×PH)->Prop)(e:MH):Prop:=I0 a.on b (λx=>∀(j:Sl)(f:PH),cD b f (iD f j x) (∃(g:PV×Sl×Sl×PH),aA (c g) eM (aA fG dR (aA (fA a) jF (aA (d j g) (e=e) (bD f g.2.2.2))))))
noncomputable abbrev zA(a:PV×Sl×Sl×PH):Sl:=a.2.2.1
noncomputable abbrev nG(a:Nat×de×PV×Sl×Sl×PH):PV:=a.2.2.1
noncomputable abbrev GA(a:Nat×de×PV×Sl×Sl×PH):List bw:=List.map QV.enc a.2.1
noncomputable abbrev Eh(a:Nat×de×PV×Sl×Sl×PH):Nat->Nat->Option Value:=a.2.2.2.2.2
attribute [push_cast] IH IE zA nG GA Eh
def Ut(N:Nat)(v:QV)(m:MH)(h:PH)(K:bu):Prop:=
  ∃(o:Int),fB (kH v.op o) (Fh o) (aW (λb u=>aI (aX v.args.a b u) ((0:Int)<=0) (0<aG v.args) (∃(y:QV),aU m h b (u+0) y.enc/\vG (λf q=>∃(s:iJ),aA (oF (cC y)=oF (cC f)) (eO h q f) (aA (Ao q N) ((aK s [] q).2=0) (IH h q (λg d=>K (cC g) m d))))))) (∃(I:PV×Sl×Sl×PH->Prop),(qG (λf p=>oB (cZ v.where_) (cZ f) (eH h p f) (IF h p (λg d=>uO v.columns d (λl=>∀(s:Sl)(e:PH),cD d e (Ints e s l) (IE v e I (λn x=>oQ 35 (fF (iI v.op) (lC v) (qN g (oM s) (oM n) FM))=oQ 35 (fF (iI v.op) (lC v) (qN x.1 (oM x.2.1) (oM (zA x)) FM))) m/\IE v e I (λn x=>oQ 35 (fF (iI v.op) (lC v) (qN g (oM s) (oM n) FM))=oQ 35 (fF (iI v.op) (lC v)
 (qN x.1 (oM x.2.1) (oM (zA x)) FM))) m))/\uO v.columns d (λl=>∀(s:Sl)(e:PH),cD d e (Ints e s l) (IE v e I (λn x=>oQ 35 (fF (iI v.op) (lC v) (qN g (oM s) (oM n) FM))=oQ 35 (fF (iI v.op) (lC v) (qN x.1 (oM x.2.1) (oM (zA x)) FM))) m)))))/\qG (λf p=>oB (cZ v.where_) (cZ f) (eH h p f) (IF h p (λg d=>uO v.columns d (λl=>∀(s:Sl)(e:PH),cD d e (Ints e s l) (IE v e I (λn x=>oQ 35 (fF (iI v.op) (lC v) (qN g (oM s) (oM n) FM))=oQ 35 (fF (iI v.op) (lC v) (qN x.1 (oM x.2.1) (oM (zA x)) FM))) m))))))/\∀(x:PV×Sl×Sl×PH),I x->∃(I1:Nat×de×PV×Sl×Sl×PH->Prop)(z:Nat×de×PV×Sl×Sl×PH->Nat),(∃(c:Nat×de×PV×Sl×Sl×PH),aA (I1 c) fG
 (aA dR (aJ v.args) (aA (bI v.args) (bF c.1) (aA jF (oQ 35 (fF (iI v.op) (lC v) (qN x.1 (oM x.2.1) (oM (zA x)) (At.lst 40)))=oQ 35 (fF (iI v.op) (lC v) (qN (nG c) (oM c.2.2.2.1) (oM (zA c.2.2)) (At.lst 40)))) (aI (tY 35 21 (GA c)) (m=m) (x.2.2.2=Eh c) True)))))/\∀(c:Nat×de×PV×Sl×Sl×PH),I1 c->bA (↑c.1:Int) (aG v.args) (aW (λb u=>aI (aX v.args.a b u) (0<=(↑c.1:Int)) ((↑c.1:Int)<aG v.args) (∃(y:QV),aU m (Eh c) b (bN u c.1 21) y.enc/\vG (λf q=>∃(s:iJ),aA (oF (cC y)=oF (cC f)) (eO (Eh c) q f) (aA (Ao q N) ((aK s [] q).2=0) (IH (Eh c) q (λg d=>jZ (GA c) 280 (∃(j:Nat×de×PV×Sl×Sl×PH),aA (I1 j) (z j<z c) (aA
 fG dR (aA (aJ v.args) (bI v.args) (aA (fU (bG c.1 1)=bP j.1) jF (mA (oQ 35 (fF (iI v.op) (lC v) (qN (nG c) (oM c.2.2.2.1) (oM (zA c.2.2)) (At.lst 40)))=oQ 35 (fF (iI v.op) (lC v) (qN (nG j) (oM j.2.2.2.1) (oM (zA j.2.2)) (At.lst 40)))) (cH 35 21 (fK (GA c) g.enc)=cH 35 21 (GA j)) (m=m) d (Eh j))))))))))))) (cG (Eh c) 21 (GA c) (λs d=>K (lG (aR (dY v.op) (dY v.table) (aR (dY (nG c).op) (dY (nG c).cmp) (aR (kC (nG c).left) (kD (nG c).left) (aR (dY (jK (nG c).left)) (kJ (nG c).left) (aR (jW (nG c).left) (kC (nG c).right) (aR (kD (nG c).right) (dY (jK (nG c).right)) (aR (kJ (nG c).right) (jW (nG c).right) (aR (gU (nG
 c).args) (gU c.2.2.2.1) (aR (gU (zA c.2.2)) pO (aR pO bL (aY s)))))))))))) m d)))
def UR(sc:cN)(v:QV)(m:MH)(h:PH)(K:bu):Prop:=
  DW (bQ sc::bK CZ (cC v)) h (λs p q _ c=>dC (dU s p q).2 0 (K (CV.tup (bK (lG zV) (CV.val (dY (dU s p q).2)))) m c) (vG (λe d=>∃(f:iJ),aI (oF (cC v)=oF (cC e)) (eO c d e) ((aK f [] d).2=0) (IH c d (λg j=>K (CV.tup (bT (cC g) 0)) m j)))))
theorem Z3:br 65 bQJ:=by
 refine hJ func65 ?_;rintro W m h K ⟨s,t,l,r,rfl,D,U,X,G⟩;refine⟨bdZ s t m h,rfl,aE Kt aH,Uk s t m h K,bi,?_⟩;dsimp only[Uk,push_cast];have H:=bV.slen D;have Y:=D.len;refine⟨λx=>x.1<=x.2/\x.2<=l.length/\(∀(j:Nat) y,j<x.1->l[j]? =some y->dP y r<0)/\(∀(j:Nat) y,x.2<=j->l[j]? =some y->0<=dP y r),λx=>x.2-x.1,⟨(0,l.length),⟨bj,bj,λj y f=>by simp at f,λj y f g=>by have:=(List.getElem?_eq_some_iff.1 g).1;simp at f;omega⟩,by rw[H];exact MT⟩,?_⟩;rintro⟨c,d⟩ ⟨Z,V,E,I⟩;dsimp only at Z V E I⊢
 have J:∀{i j:Nat}{x y},l[i]? =some x->l[j]? =some y->i<j->dP x y<0:=fun{i j x y} hx g L=>by
  obtain⟨M,rfl⟩:=List.getElem?_eq_some_iff.1 hx;obtain⟨O,rfl⟩:=List.getElem?_eq_some_iff.1 g;exact pairwise_iff_getElem.1 X i j M O L
 refine aF (λa'=>?_) (λa0=>?_)
 .have e1:IntKind.i64.wrap ((d:Int)-(c:Int))=((d-c:Nat):Int):=by
   rw[show(d:Int)-(c:Int)=((d-c:Nat):Int)by omega];exact dT aD aD
  have C:(((d-c:Nat):Int)).tdiv 2=(((d-c)/2:Nat):Int):=by
   rw[Int.tdiv_eq_ediv_of_nonneg aD];rfl
  have e3:IntKind.i64.wrap ((((d-c)/2:Nat):Int))=(((d-c)/2:Nat):Int):=dT aD aD
  have e4:IntKind.i64.wrap ((c:Int)+(((d-c)/2:Nat):Int))=((c+(d-c)/2:Nat):Int):=by
   rw[show(c:Int)+(((d-c)/2:Nat):Int)=((c+(d-c)/2:Nat):Int)by omega];exact dT aD aD
  rw[e1,C,e3,e4];generalize F:c+(d-c)/2=k;have P:c<=k:=by omega
  have a1:k<d:=by omega
  rw[kA aD];have n:k<l.length:=by omega
  obtain⟨b,o,u,Q,rd,R⟩:=bV.at D (getElem?_eq_getElem n);refine⟨bk,b,o,Q,aD,aD,u,.imm rd,u,t,l[k],r,rfl,R,U,aF (λA=>?_) (λA=>?_)⟩
  .refine⟨(k+1,d),⟨by show k+1<=d;omega,V,λj y f g=>?_,I⟩,by show d-(k+1)<d-c;omega,MT⟩;by_cases B:j=k
   .subst B;rw[getElem?_eq_getElem n]at g;cases g;exact A
   .exact EF (J g (getElem?_eq_getElem n) (by dsimp only at f;omega)) A
  .refine⟨(c,k),⟨P,by show k<=l.length;omega,E,λj y f g=>?_⟩,by show k-c<d-c;omega,MT⟩;by_cases B:j=k
   .subst B;rw[getElem?_eq_getElem n]at g;cases g;omega
   .have S:=J (getElem?_eq_getElem n) g (by dsimp only at f;omega);refine Int.not_lt.1 λT=>?_;exact A (EF S T)
 .have e:c=d:=by omega
  subst e;refine aF (λA=>?_) (λA=>?_)
  .have z:c<l.length:=by omega
   obtain⟨b,o,u,Q,rd,R⟩:=bV.at D (getElem?_eq_getElem z);refine⟨b,o,Q,aD,A,u,.imm rd,u,t,l[c],r,rfl,R,U,?_⟩
   have C:(dP l[c] r==0)=G6 l r:=by
    rw[Bool.eq_iff_iff,beq_iff_eq,GJ,jM];refine⟨λe=>e▸getElem_mem z,λF=>?_⟩;obtain⟨j,f⟩:=getElem?_of_mem F;have hz:dP r r=0:=jM.2 rfl;by_cases S:j<c
    .have:=E j r S f;omega
    .by_cases T:j=c
     .subst T;exact(List.getElem?_eq_some_iff.1 f).2
     .have h8:=J (getElem?_eq_getElem z) f aD;have h9:=I c _ (Nat.le_refl _) (getElem?_eq_getElem z);omega
   rw[C];exact G
  .have C:G6 l r=false:=by
    rw[a6X];intro F;obtain⟨j,f⟩:=getElem?_of_mem F;have hz:dP r r=0:=jM.2 rfl;have:=E j r (by have:=(List.getElem?_eq_some_iff.1 f).1;omega) f;omega
   rw[C]at G;exact G
theorem abJ:br 22 a1Q:=by
 refine hJ func22 ?_;rintro E m h K ⟨s,t,i,l,k,rfl,B,F,G,M,H⟩;refine⟨bjX s t i m h,rfl,aE Z3 aH,UF s t i m h K,bi,?_⟩;dsimp only[UF,push_cast];have g:=bV.slen B;refine⟨λx=>x.1<=l.length/\x.2.length<=x.1/\gS h x.2 ((l.take x.1).filter λx=>G6 k x==i),λx=>l.length-x.1,⟨(0,[]),⟨bj,bj,bo (gS.nil h)⟩,MT⟩,?_⟩;rintro⟨j,n⟩ ⟨I,y,c⟩;dsimp only at I y c⊢
 refine aF (λd=>?_) (λJ=>?_)
 .obtain⟨r,C⟩:=eF g d;obtain⟨b,o,u,e,rd,D⟩:=bV.at B C;have f:=vO (λx=>G6 k x==i) C;rw[kA aD];refine⟨b,o,e,aD,d,u,.imm rd,t,u,k,r,rfl,F,D,G,aC (λz=>?_) (λz=>?_)⟩
  .rw[if_pos z]at f;exact⟨by rw[length_map];omega,by rw[length_map];omega,(j+1,n++[u]),⟨by show j+1<=_;omega,by simp;omega,by rw[f];exact c.snoc D⟩,by show l.length-(j+1)<l.length-j;omega,by rw[map_append];exact MT⟩
  .rw[if_neg (by rw[z];simp),append_nil]at f;exact⟨(j+1,n),⟨by show j+1<=_;omega,by show n.length<=j+1;omega,by rw[f];exact c⟩,by show l.length-(j+1)<l.length-j;omega,MT⟩
 .rw[take_of_length_le aD]at c
  exactλL h' le A=>H L h' le ((c.mono le).rows A (by have:=length_filter_le (λx=>G6 k x==i) l;omega))
theorem Z7:br 44 bQX:=by
 refine hJ func44 ?_;rintro c m h K ⟨n,rfl,d⟩;refine⟨cW [] [] [] [] false,rfl,aH,aBZ n m h K,bi,?_⟩;exact d
theorem bDQ{op:Int}{w:Pred}{on:bz}{args:cg}(h:Fh op=false):Zk (.mk op ta w co on gr od li args)=op:=by
 rw[Zk.eq_def];cases args with
 |nil=>rfl
 |cons a r=>dsimp only;rw[if_neg (by simp[h])]
theorem Ys:∀N,br 40 (bRJ N)
 |0=>by
  refine eV (fn:=Tryz.f40) (c:=cL Tryz.f40) func40 rfl bk ?_;rintro L m h K ⟨v,q,s,rfl,_,hN,_⟩;omega
 |N+1=>by
  refine hJ func40 ?_;rintro L m h K ⟨v,q,s,rfl,hq,hN,hk,T⟩;refine⟨bfZ N v m,rfl,aE PR (aE (Ys N) (aE PL (aE Ks (aE PK aH)))),Ut N v m h K,bi,?_⟩;dsimp only[Ut,push_cast];have f:=@zZ q;obtain⟨op,ta,w,co,on,gr,od,li,args⟩:=q;simp only[Query.args]at f;have x:=hq.parts;have A:=x.args_.slen;have a':=x.args_.len;obtain⟨B,M,_⟩:=kM hk;have j:=x.op_;refine⟨v.op,rfl,aC (λC=>?_) (λC=>⟨λz=>PH.le h z.2.2.2,?_,?_⟩)⟩
  .rw[j]at C;have O:=RQ C
   obtain⟨a,d,rfl⟩:∃a d,args=a::d:=by
    cases args with
    |nil=>
     exfalso;have:(1:Int)<=arity op:=by rcases O with rfl|rfl|rfl<;>decide
     simp only[length_nil]at M;omega
    |cons a d=>exact⟨a,d,rfl⟩
   obtain⟨b,o,u,e,r,P⟩:=x.args_.at (i:=0) (x:=a) rfl;have Q:=f (q:=a) bj;exact⟨b,o,e,aD,by rw[A];simp,u,.imm (bo r),u,a,s,rfl,P,aD,B a bj,λR h' le O=>T R h' le (by rw[O,Zk.eq_def (.mk op ta w co on gr od li (a::d))];dsimp only;rw[if_pos C])⟩
  .repeat' (first
    |(refine⟨v.where_,w,rfl,x.where_,λv1 h1 n r1=>?_⟩)
    |(refine⟨v.columns,co,rfl,x.columns_.mono n,λI h2 D r2=>?_⟩)
    |(refine⟨v.on,on,rfl,x.on_.mono (n.trans D),λJ h3 S r3=>?_⟩)
    |(exact⟨(v1,I,J,h3),(n.trans D).trans S,MT⟩)
    |apply And.intro)
  .rintro⟨U,I,J,hx⟩ E;dsimp only at E⊢
   refine⟨λz=>z.1<=args.length/\z.2.1.length=z.1/\z.2.2.1=U/\z.2.2.2.1=I/\z.2.2.2.2.1=J/\PH.le h z.2.2.2.2.2,λz=>args.length-z.1,⟨(0,[],U,I,J,hx),⟨by show 0<=_;omega,rfl,rfl,rfl,rfl,E⟩,MT⟩,?_⟩;rintro⟨i,us,V,W,X,hy⟩ ⟨hi,F,Y,Z,e3,g⟩;dsimp only at hi F Y Z e3 g⊢
   subst Y Z e3;refine aF (λG=>?_) (λa0 s4 h' le a1=>T ⟨v.op,v.table,V,W,X,bW,bW,0,s4⟩ h' (g.trans le) (by rw[bDQ (by rw[<-j];exact C)];exact j));obtain⟨q,y⟩:=eF A G;have H:=mem_of_getElem? y;obtain⟨b,o,u,e,r,P⟩:=(x.args_.mono g).at y;have Q:=f H;have a2:=(List.getElem?_eq_some_iff.1 y).1;exact⟨b,o,e,aD,G,u,.imm r,u,q,s,rfl,P,aD,B q H,λR h' le _=>⟨by rw[length_map];omega,by rw[length_map];omega,(i+1,us++[R],V,W,X,h'),⟨by show i+1<=_;omega,by simp[F],rfl,rfl,rfl,g.trans le⟩,by show args.length-(i+1)<args.length-i;omega,by rw[map_append];exact MT⟩⟩
theorem aaQ:br 40 bSQ:=lI Ys λ_ _ _ _⟨v,q,s,e,c,d,f⟩=>⟨SizeOf.sizeOf q+1,v,q,s,e,c,aD,d,f⟩
theorem bJZ{q:Query}(j:gA h s sc)(f:eO h q v)(g:(dU s [] q).2=0)(n:∀d h',PH.le h h'->d.op=Zk q->K (.tup [aQ d,cI 0]) m h'):UR sc v m h K:=
 ⟨sc,bW,v,s,[],q,rfl,j,TP h,f,λ_ u c _=>aC (λe=>by rw[g]at e;cases e) (λ_=>⟨v,q,s,rfl,f.mono c,(Lu g).1,λd h' le o=>n d h' (c.trans le) o⟩)⟩
theorem ahX:br 11 YX:=by
 refine hJ func11 ?_;rintro c m h K ⟨sc,v,s,q,rfl,d,e,f,g⟩;refine⟨cW [(39,vQ),(40,bSQ)] [] [] [] false,rfl,aE PX (aE aaQ aH),UR sc v m h K,bi,?_⟩;exact bJZ d e f g
theorem Tu{q:Query}{B:Nat}(c:cX s=0)(g:fN s q)(F:vS q<=24)(j:fE 4 q<=B)(u:B*60<=1000000):
 xO s [] [] (jV s q) (j6 (pN s) q (gI q))/\(jV s q).1.length<=200/\(jV s q).2.length<=24/\G7 (eK s q []).1/\jI (eK s q []).1=vS q:=by
 have x:=Th c;obtain⟨y,_,e,d⟩:=SR x q [] g (CX.nil s) (by simp;omega);obtain⟨z,n⟩:=aqJ _ e;rw[d]at n;have o:=e.get;rw[d]at o;obtain⟨_,A,_,f,_,_,_⟩:=o;have ev:=Dd q g;have C:=BQ s q [];simp only[length_nil,Nat.zero_add]at C;have G:2*B*jI (eK s q []).1<=2*B*24:=Nat.mul_le_mul_left _ aD;have E:=fZ (eK s q []).1 ((eK s q []).1.env:Int) (eK s q []).2 [];have D:=uB c (eK s q []).1 B (2*B) B (eK s q []).1.env (eK s q []).2 [] e y A (by rw[f,d];exact ev.2.1) (by rw[d];exact j) (Nat.le_refl _) (by rw[f];exact Nat.le_trans ev.2.2 j) aD aD;rw[d,f]at D;refine⟨D.shift (nil_prefix),?_,?_,z,n⟩
 .show(eZ _ _ _ _).1.length<=200;omega
 .show(eZ _ _ _ _).2.length<=24;simp only[length_nil,Nat.zero_add]at E;omega
structure JN(s:iJ)(q:Query):Prop where
 ok:SF s q
 valid:gR s (jV s q).1 (jV s q).2=0
 run:∀st,kN s st=0->StV st->(∀l∈st,l.length<=4)->G5 s st (jV s q).1/\(∀l∈lX st (jV s q).1,l.length<=1000000/\∀r∈l,r.length<=1000)/\J2 st (jV s q)=(j6 (pN s) q (gI q)).map (jS st)
theorem Ka{s:iJ}{q:Query}{B:Nat}(e:cX s=0)(g:fN s q)(F:vS q<=24)(G:fE 4 q<=B)(o:B*60<=1000000):JN s q:=by
 obtain⟨D,L,M,H,O⟩:=Tu e g F G o;obtain⟨P,u,z,I⟩:=D.ex;rw[nil_append]at u;refine⟨λh=>⟨Ze h,H,aD,aD⟩,Tt D.inv e aD aD λr n=>?_,λA y J C=>?_⟩
 .rw[u]at n;obtain⟨d,f,rfl⟩:=mem_map.1 n;have:=z d f;omega
 .have j:∀i,i<(jV s q).1.length->hU (aK s [] (aM (jV s q).1 i)).1.length (jS A (aM (jV s q).1 i))/\(jS A (aM (jV s q).1 i)).length<=1000000:=λi c=>by
   have x:=RL y J C aD (D.inv.good i c).k (D.inv.good i c).bnd;exact⟨x.2.2.1,x.2.2.2⟩
  refine⟨⟨D.inv.ar,D.inv.fit,λi c=>(D.inv.good i c).kinds,4,aD,C,λi c=>(D.inv.good i c).bnd⟩,λl E=>?_,?_⟩
  .unfold lX at E;obtain⟨i,c,rfl⟩:=mem_map.1 E;have c:i<(jV s q).1.length:=bo c
   refine⟨(j i c).2,λr n=>?_⟩;have Q:=(j i c).1.wid r n;have R:=jH s [] (aM (jV s q).1 i);omega
  .unfold J2;rw[u, <-I,map_map,map_map];refine map_congr_left λd f=>?_;have f:=z d f;simp only[Function.comp,Int.toNat_natCast,lX];rw[getD_eq_getElem?_getD,getElem?_map,getElem?_range f];rfl
theorem avX{st:List bx}{a b:Query}{on:bz}{x:cd}:x∈jS st (jR a b on)↔x∈jS st a/\((jS st b).any λy=>agree on x y)=true:=by
 simp only[jR,jS,BV,SL,show((5:Int)=1)=False by simp,show((5:Int)=2)=False by simp,show((5:Int)=3)=False by simp,show((5:Int)=4)=False by simp,if_false,if_true,bqX];exact mem_filter
theorem VT{st:List bx}{a b:Query}{x:cd}:x∈jS st (iB a b)↔x∈jS st a/\x∈jS st b:=by
 simp only[iB,jS,BV,SL,show((8:Int)=1)=False by simp,show((8:Int)=2)=False by simp,show((8:Int)=3)=False by simp,show((8:Int)=4)=False by simp,show((8:Int)=5)=False by simp,show((8:Int)=6)=False by simp,show((8:Int)=7)=False by simp,if_false,if_true,axZ];rw[mem_filter];show x∈jS st a/\(G6 (jS st b) x==true)=true↔_;rw[beq_iff_eq,GJ]
theorem Zp{st:List bx}{a:Query}{x:cd}:x∈jS st (BZ a co)↔∃r∈jS st a,pick r co=x:=by
 simp only[BZ,jS,BV,SL,show((3:Int)=1)=False by simp,show((3:Int)=2)=False by simp,if_false,if_true,bqJ];rw[Ff,mem_map];rfl
theorem Zq{st:List bx}{a b:Query}{x:cd}:x∈jS st (Aw a b gr od li)↔x∈jS st a/\decide ((((jS st b).countP λy=>H6 gr x y&&decide (lF od y x<0):Nat):Int)<li)=true:=by
 simp only[Aw,jS,BV,SL,show((10:Int)=1)=False by simp,show((10:Int)=2)=False by simp,show((10:Int)=3)=False by simp,show((10:Int)=4)=False by simp,show((10:Int)=5)=False by simp,show((10:Int)=6)=False by simp,show((10:Int)=7)=False by simp,show((10:Int)=8)=False by simp,show((10:Int)=9)=False by simp,if_false,X8,HD];exact mem_filter
def JJ(st:List bx)(a b:Query):Prop:=∀x∈jS st a,x∈jS st b
structure Sz(st:List bx)(l k:cg):Prop where
 len:l.length=k.length
 sub:∀(i:Nat) a b,l[i]? =some a->k[i]? =some b->JJ st a b
theorem Sz.app{st:List bx}{l k e f:cg}(x:Sz st l k)(y:Sz st e f):Sz st (l++e) (k++f):=by
 refine⟨by simp[x.len,y.len],λi a b c d=>?_⟩;by_cases g:i<l.length
 .rw[getElem?_append_left g]at c;rw[getElem?_append_left (by rw[<-x.len];exact g)]at d;exact x.sub i a b c d
 .rw[getElem?_append_right aD]at c;rw[getElem?_append_right (by rw[<-x.len];omega), <-x.len]at d;exact y.sub _ a b c d
theorem Sz.nil{st:List bx}:Sz st [] []:=⟨rfl,λi a b h=>by simp at h⟩
theorem C1{st:List bx}{a b d f:Query}{on:bz}(g:JJ st a d)(j:JJ st b f):JJ st (jR a b on) (jR d f on):=λx c=>by
 rw[avX]at c⊢
 refine⟨g x c.1,?_⟩;rw[any_eq_true]at c⊢
 obtain⟨y,n,e⟩:=c.2;exact⟨y,j y n,e⟩
theorem FY{st:List bx}{a b d e:Query}(f:JJ st a d)(g:JJ st b e):JJ st (iB a b) (iB d e):=λx c=>by
 rw[VT]at c⊢
 exact⟨f x c.1,g x c.2⟩
theorem S6{st:List bx}{a c:Query}(f:JJ st a c):JJ st (BZ a co) (BZ c co):=λx d=>by
 rw[Zp]at d⊢
 obtain⟨r,g,e⟩:=d;exact⟨r,f r g,e⟩
theorem S7{st:List bx}{a b d:Query}(e:JJ st a d):JJ st (Aw a b gr od li) (Aw d b gr od li):=λx c=>by
 rw[Zq]at c⊢
 exact⟨e x c.1,c.2⟩
theorem JJ.refl{st:List bx}(a:Query):JJ st a a:=λ_ h=>h
theorem nN{st:List bx}{c:Query->Int}:∀(q D E:Query),JJ st D E->Sz st (j6 c q D) (j6 c q E)
 |.mk op ta w co on gr od li args,D,E,h=>by
  rw[j6.eq_def c (.mk op ta w co on gr od li args) D,j6.eq_def c (.mk op ta w co on gr od li args) E]
  match args with
  |[]=>
   dsimp only;split
   .exact⟨rfl,λi a b d e=>by
     cases i with
     |zero=>simp at d e;subst d e;exact h
     |succ i=>simp at d⟩
   .exact .nil
  |[a]=>
   dsimp only;split
   .exact nN a D E h
   .split
    .exact nN a _ _ (C1 (.refl _) h)
    .split
     .exact nN a _ _ (S7 (C1 (.refl _) h))
     .exact .nil
  |a::b::r=>
   dsimp only;split
   .exact(nN a _ _ (S6 (C1 h (.refl _)))).app (nN b _ _ (S6 h))
   .split
    .exact(nN a _ _ (C1 h (.refl _))).app (nN b _ _ (C1 (.refl _) h))
    .split
     .exact(nN a _ _ (FY (.refl _) h)).app (nN b _ _ (FY (.refl _) h))
     .split
      .exact(nN a _ _ h).app (nN b _ _ (FY (FY (.refl _) h) (.refl _)))
      .split
       .exact(nN a _ _ h).app (nN b _ _ (S7 (C1 (.refl _) h)))
       .exact .nil
 termination_by q=>SizeOf.sizeOf q
def K9:Vc.Spec:=λd m h K=>∃sc e v s c q,d=[aS sc,aSt e,aQ v]/\gA h s sc/\EW h e c/\eO h q v/\fM m/\((dU s [] q).2=0->JN s q)/\kN s c=0/\(∀l∈c,l.length<=4)/\
 ∀f h',PH.le h h'->((dU s [] q).2=0->Leaves h' f ((j6 (pN s) q (gI q)).map (jS c)))->K (.tup [cS f,cI (dU s [] q).2]) m h'
theorem Oa:br 20 K9:=JU acZ λ_ m h K⟨sc,o,v,s,f,q,e,u,c,y,z,d,g,j,n⟩=>⟨sc,o,v,s,f,q,e,u,c,y,z,λh=>(d h).ok h,
 λh=>⟨(d h).valid,λ_=>let x:=(d h).run f g c.val j;⟨x.1,x.2.1⟩⟩,λh h' le=>n bW h' le (λe=>(h e).elim),λ_ h=>(h g).elim,λh _ A h' le B=>by
  have:=n A h' le (λ_=>by rw[<-((d h).run f g c.val j).2.2];exact B);rw[h]at this;exact this⟩
def a1Z:Vc.Spec:=λc m h K=>c=[]/\fM m/\K (cB true) m h
abbrev rM(a:ct)(b:PH)(c:MH)(d:iJ->Query->Sl->PH->Prop):Prop:=Em (λx o=>∃(u:QV)(e:iJ)(j:List bx)(f:Query),aA (a=bQ x::bK (lG (aY o)) (cC u)) (gA b e x) (aA (EW b o j) (eO b f u) (aA (fM c) (By e f=0->JN e f) (aA (kN e j=0) (∀(g:bx),List.Mem g j->g.length<=4) (∀(g:Sl)(n:PH),cD b n (By e f=0->Leaves n g (List.map (jS j) (j6 (pN e) f (gI f)))) (d e f g n))))))
attribute [push_cast] rM
def Oh(m:MH)(h:PH)(K:bu):Prop:=
  cG h 2 (oC (qE IX 4) (qE IG 4)) (λs Z=>cG Z 2 (oC (qE IX 4) (qE IG 4)) (λs1 h2=>∃(n:Int),kH 1 n/\∃(z:Int),kH 7 z/\∃(A:Int),kH 2 A/\∃(B:Int),kH 7 B/\∃(C:Int),kH 3 C/\∃(D:Int),kH 7 D/\cG h2 3 (oC (yH n) (yH z)) (λg h3=>cG h3 3 (oC (yH A) (yH B)) (λE h4=>cG h4 3 (oC (yH C) (yH D)) (λs4 h5=>∃(F:Int),kH 9 F/\∃(G:Int),kH 7 G/\cG h5 3 (oC (yH F) (yH G)) (λs5 h6=>cG h6 1 (aY g::zB E s4) (λs6 h7=>cG h7 1 (zB g s5) (λs7 h8=>cG h8 21 (oC (uS 1 (Ja iT)) (AI 1)) (λs8 h9=>cG h9 5 (oC (aR (Value.string (Mz 97 (vC 115))) (gU s) (aR (dY 1) pO iT)) (aR
 (Value.string (ByteArray.mk (Array.mk (eY 97 (eY 114 (eY 99 (eY 104 (eY 105 (eY 118 (eY 101 (eY 100 []))))))))))) (gU s1) (aR (dY 1) pO iT))) (λH a=>cG a 1 (zB s6 s7) (λa1 a2=>cG a2 1 (iZ (bJ 1)) (λI a4=>cG a4 21 (iZ (uS 7 (aR E8 bL (aR bL bL (aR bL E8 (aR pO pO (aR pO pO (aR pO bL (aY s8))))))))) (λJ a6=>rM (lG (nA bL (gU H))::bK (lG (aY a1)) (lG (uS 9 (aR E8 bL (aR bL bL (aR bL E8 (aR pO pO (aR pO (gU I) (aR pO (dY 1) (aY J)))))))))) a6 m (λa7 q d j=>∃(b:cN)(v:QV)(L:iJ)(u:Query),aA (bK (lG (nA bL (gU H))) (lG (uS 9 (aR E8 bL (aR bL bL (aR bL E8 (aR pO pO (aR pO (gU I) (aR pO (dY 1) (aY J)))))))))=bK (bQ b)
 (cC v)) (gA j L b) (aA (eO j u v) (By L u=0) (IH j u (λv1 e=>dZ (By a7 q) 0 (dZ v1.op 1 (dZ (aG d) 2 (aW (λM o=>aI (aX d.a M o) ((0:Int)<=0) (0<aG d) (∃(y:Sl),aU m e M (o+0) (aY y)/\cG e 1 (zB g E) (λb4 f=>lE (λO t=>HB (λP Q=>aI (dX y b4=dX O t) (Rows f O P) (Rows f t Q) (∀(r:Bool),gL (fV r (P=Q)) r (aW (λR S=>aI (aX d.a R S) ((0:Int)<=1) (1<aG d) (∃(T:Sl),aU m f R (S+1) (aY T)/\cG f 1 (iZ (aY g)) (λc x=>lE (λU V=>HB (λW X=>aI (dX T c=dX U V) (Rows x U W) (Rows x V X) (∀(Y:Bool),fV Y (W=X)->K (xZ Y) m x))))))) (K bB m f)))))))) (K bB m e)) (K bB m e)) (K bB m e))))))))))))))))))
def nV(n:Int):VV:=⟨4,n,⟨#[]⟩⟩
def Px:List nP:=[⟨⟨⟨[105,100]⟩⟩,4⟩,⟨⟨⟨[112,114,111,106,101,99,116]⟩⟩,4⟩]
def nT1:yB:=⟨⟨⟨[116,97,115,107,115]⟩⟩,Px,1,[],[]⟩
def nT2:yB:=⟨⟨⟨[97,114,99,104,105,118,101,100]⟩⟩,Px,1,[],[]⟩
def nS:iJ:=⟨0,[nT1,nT2]⟩
def nR1:bx:=[[nV 1,nV 7],[nV 2,nV 7],[nV 3,nV 7]]
def nR2:bx:=[[nV 1,nV 7],[nV 9,nV 7]]
def VQ:List bx:=[nR1,nR2]
def wA(t:Int):Query:=.mk 1 t eJ [] [] [] [] 0 []
def nM:Query:=.mk 7 0 eJ [] [] [] [] 0 [wA 0,wA 1]
def nQ:Query:=.mk 9 0 eJ [] [] [1] [] 1 [nM]
theorem auJ:cX nS=0:=apQ bk (λt c=>by simp[nS]at c;rcases c with rfl|rfl<;>exact⟨bk,rfl,rfl⟩) bk bk (by
 refine zR ⟨⟨?_,?_,?_,?_,zR ⟨⟨?_,?_,?_⟩,⟨?_,?_,?_⟩,trivial⟩⟩,⟨?_,?_,?_,?_,zR ⟨⟨?_,?_,?_⟩,⟨?_,?_,?_⟩,trivial⟩⟩,trivial⟩
 all_goals first|rfl|(simp[nT1,nT2,Px];done)|decide)
theorem LD{t:Int}(c:0<=t)(d:t<2):aK nS [] (wA t)=([4,4],0):=by
 have e:iA nS t=[4,4]:=by
  have:t=0\/t=1:=by omega
  rcases this with rfl|rfl<;>rfl
 have:=NK (s:=nS) (ps:=[]) (t:=t) c (by show t<2;exact d) (by rw[e];decide);rw[e]at this;exact this
theorem avQ:aK nS [] nM=([4,4],0):=by
 unfold nM;rw[Zt bk (LD (t:=0) bk bk) (LD (t:=1) bk bk)];unfold dQ;rw[if_neg (by simp[arity,cO])];dsimp only;rw[if_neg bk,if_neg bk,if_neg bk,if_neg bk,if_neg bk,if_neg bk,if_neg bk,if_pos rfl,Jg bk]
theorem ND:aK nS [] nQ=([4,4],0):=by
 unfold nQ;rw[Kk bk avQ];unfold dQ;rw[if_neg (by simp[arity,cO])];dsimp only;rw[if_neg bk,if_neg bk,if_neg bk,if_neg bk,if_neg bk,if_pos rfl,if_pos ⟨zR ⟨⟨bk,bj⟩,trivial⟩,zR trivial,bk,bk,bk⟩,Jg bk]
theorem bMX:dU nS [] nQ=([4,4],0):=by
 unfold dU;rw[if_pos auJ,if_pos (by rfl),if_pos (by rfl),ND]
theorem auZ(t:Int):QW (wA t):=F0 t
theorem bMQ:QW nQ:=J5.2 ⟨nR,λa c=>by
 simp at c;subst c;exact J5.2 ⟨nR,λb d=>by simp at d;rcases d with rfl|rfl<;>exact auZ _⟩⟩
theorem a5X:fN nS nQ:=⟨by rw[ND],MI (s:=nS) (ps:=[]) bj nQ (by rw[ND]) bMQ,bk⟩
theorem a5Q:JN nS nQ:=Ka (B:=8) auJ a5X bk bk bk
theorem bDX:kN nS VQ=0:=by
 unfold kN;rw[if_neg (by simp[auJ]),if_neg bk,if_neg bk,if_pos];have o:∀n,A9 1 4 0 (nV n)=true/\A9 1 4 1 (nV n)=true:=λn=>by simp[A9,nV,anZ]
 have u:∀t,t=nT1\/t=nT2->∀a b,EV t [nV a,nV b]=true:=λt e a b=>FF.2 ⟨by rcases e with rfl|rfl<;>rfl,λi j=>by
  have d:t.key=1:=by rcases e with rfl|rfl<;>rfl
  have c:t.columns=Px:=by rcases e with rfl|rfl<;>rfl
  rw[d,c]
  match i,j with
  |0,_=>exact(o _).1
  |1,_=>exact(o _).2
  |i+2,j=>simp at j;omega⟩
 intro i t l e f
 match i,e,f with
 |0,e,f=>
  simp[nS]at e;simp[VQ]at f;subst e f;refine⟨λr g=>?_,λi r x d c=>?_⟩
  .simp[nR1]at g;rcases g with rfl|rfl|rfl<;>exact u _ (.inl rfl) _ _
  .match i,d,c with
   |0,d,c=>simp[nR1]at d c;subst d c;decide
   |1,d,c=>simp[nR1]at d c;subst d c;decide
   |i+2,d,c=>simp[nR1]at c
 |1,e,f=>
  simp[nS]at e;simp[VQ]at f;subst e f;refine⟨λr g=>?_,λi r x d c=>?_⟩
  .simp[nR2]at g;rcases g with rfl|rfl<;>exact u _ (.inr rfl) _ _
  .match i,d,c with
   |0,d,c=>simp[nR2]at d c;subst d c;decide
   |i+1,d,c=>simp[nR2]at c
 |i+2,e,f=>simp[nS]at e
theorem bEX(c:Query->Int)(D:Query):j6 c nQ D=[Aw (jR (wA 0) D (rG [1])) nM [1] [] 1,iB (iB (wA 1) (Aw (jR (wA 0) D (rG [1])) nM [1] [] 1)) (wA 0)]:=by
 have d:gI nM=wA 0:=by rfl
 have e:gI (wA 1)=wA 1:=by rfl
 have s:∀t E,j6 c (wA t) E=[E]:=λt E=>by unfold wA;rw[j6.eq_def];dsimp only;rw[if_pos rfl]
 have m:∀E,j6 c nM E=j6 c (wA 0) E++j6 c (wA 1) (iB (iB (gI (wA 1)) E) (wA 0)):=λE=>by
  unfold nM;rw[j6.eq_def];dsimp only;rw[if_neg bk,if_neg bk,if_neg bk,if_pos bk]
 unfold nQ;rw[j6.eq_def];dsimp only;rw[if_neg bk,if_neg bk,if_pos rfl,m,s,s,d,e];rfl
theorem bEQ:gI nQ=wA 0:=by rfl
theorem bDZ:(j6 (pN nS) nQ (gI nQ)).map (jS VQ)=[[[nV 1,nV 7],[nV 2,nV 7]],[[nV 1,nV 7]]]:=by
 rw[bEX,bEQ];rfl
theorem bDJ:Zk nQ=1:=by
 unfold nQ nM wA;rw[Zk.eq_def];dsimp only;rw[if_pos bk,Zk.eq_def];dsimp only;rw[if_pos bk,Zk.eq_def]
theorem L8{s:Sl}{l:cd}(r:dK h s 3 (l.map VV.enc))(d:l.length<=1000):cA h s l:=⟨⟨l,r,rfl,λi x c=>⟨x,c,rfl⟩⟩,aD⟩
theorem L9{h:PH}{s:Sl}{us:ce}{l:bx}(r:dK h s 1 (us.map eS))(c:us.length=l.length)(d:∀(i:Nat)(x:cd),l[i]? =some x->∃u,us[i]? =some u/\cA h u x)(e:l.length<=1000):Rows h s l:=⟨⟨us,r,c.symm,d⟩,aD⟩
theorem afZ:br 14 a1Z:=by
 refine EU func14 ?_;rintro a3 m h K ⟨rfl,ht,hK⟩;refine⟨cW [(44,bQX),(20,K9),(11,YX),(27,btZ)] [] [] [] false,rfl,aE Z7 (aE Oa (aE ahX (aE abX aH))),Oh m h (kE h K),bi,?_⟩;show Oh m h (kE h K);dsimp only[Oh,push_cast];intro c1 h1 H r1 c2 h2 I r2;refine⟨1,rfl,7,rfl,2,rfl,7,rfl,3,rfl,7,rfl,λD h3 J r3 L h4 M r4 rc h5 O r5=>⟨9,rfl,7,rfl,?_⟩⟩;intro rd h6 P r6 ta h7 Q r7 tb h8 R r8 qs h9 S r9 tabs ha T xa E hb U xb gr hc V xc qm c F xd;have lc:=V.trans F;have lb:=U.trans lc;have la:=T.trans lb;have l9:=S.trans la;have l8:=R.trans l9;have l7:=Q.trans l8;have l6:=P.trans l7;have l5:=O.trans l6;have l4:=M.trans l5;have l3:=J.trans l4;have l2:=I.trans l3;have G:cA c D [nV 1,nV 7]:=L8 (r3.mono l4) bj;have vb:cA c L [nV 2,nV 7]:=L8 (r4.mono l5) bj;have vc:cA c rc [nV 3,nV 7]:=L8 (r5.mono l6) bj;have vd:cA c rd [nV 9,nV 7]:=L8 (r6.mono l7) bj
 have rq:eO c nQ ⟨9,0,gT,bW,bW,gr,bW,1,qm⟩:=sN.rep ⟨rfl,rfl,C0 c,nJ c,sQ c,⟨xc.mono F,bj⟩,vL c,rfl,Be (v:=⟨7,0,gT,bW,bW,bW,bW,0,qs⟩) xd (sN.rep ⟨rfl,rfl,C0 c,nJ c,sQ c,nJ c,vL c,rfl,⟨⟨[⟨1,0,gT,bW,bW,bW,bW,0,bW⟩,⟨1,1,gT,bW,bW,bW,bW,0,bW⟩],r9.mono la,rfl,λi x e=>by
  match i,e with
  |0,e=>simp at e;subst e;exact⟨_,rfl,Bq c 0⟩
  |1,e=>simp at e;subst e;exact⟨_,rfl,Bq c 1⟩
  |i+2,e=>simp at e⟩,bj⟩⟩)⟩
 have rS:gA c nS ⟨0,tabs⟩:=⟨rfl,⟨⟨[⟨nT1.name,c1,1,bW,bW⟩,⟨nT2.name,c2,1,bW,bW⟩],xa.mono lb,rfl,λi x e=>by
  match i,e with
  |0,e=>simp[nS]at e;subst e;exact⟨_,rfl,⟨rfl,G1 (l:=Px) (r1.mono l2) bk,rfl,bV.nil _ _ _ _,bV.nil _ _ _ _⟩⟩
  |1,e=>simp[nS]at e;subst e;exact⟨_,rfl,⟨rfl,G1 (l:=Px) (r2.mono l3) bk,rfl,bV.nil _ _ _ _,bV.nil _ _ _ _⟩⟩
  |i+2,e=>simp[nS]at e⟩,by simp[nS]⟩⟩
 have t1:Rows c ta nR1:=L9 (us:=[D,L,rc]) (r7.mono l8) rfl (λi x e=>by
  match i,e with
  |0,e=>simp[nR1]at e;subst e;exact⟨_,rfl,G⟩
  |1,e=>simp[nR1]at e;subst e;exact⟨_,rfl,vb⟩
  |2,e=>simp[nR1]at e;subst e;exact⟨_,rfl,vc⟩
  |i+3,e=>simp[nR1]at e) bk
 have t2:Rows c tb nR2:=L9 (us:=[D,rd]) (r8.mono l9) rfl (λi x e=>by
  match i,e with
  |0,e=>simp[nR2]at e;subst e;exact⟨_,rfl,G⟩
  |1,e=>simp[nR2]at e;subst e;exact⟨_,rfl,vd⟩
  |i+2,e=>simp[nR2]at e) bk
 have W:EW c E VQ:=⟨⟨⟨[ta,tb],xb.mono lc,rfl,λi x e=>by
  match i,e with
  |0,e=>simp[VQ]at e;subst e;exact⟨_,rfl,t1⟩
  |1,e=>simp[VQ]at e;subst e;exact⟨_,rfl,t2⟩
  |i+2,e=>simp[VQ]at e⟩,by simp[VQ]⟩,by simp[VQ],λl f r z v A=>by
   have:∃n,v=nV n:=by
    simp[VQ]at f;rcases f with rfl|rfl<;>simp[nR1,nR2]at z
    .rcases z with rfl|rfl|rfl<;>simp at A<;>rcases A with rfl|rfl<;>exact⟨_,rfl⟩
    .rcases z with rfl|rfl<;>simp at A<;>rcases A with rfl|rfl<;>exact⟨_,rfl⟩
   have hn:tN v.kind/\tN v.int:=by
    simp[VQ]at f;rcases f with rfl|rfl<;>simp[nR1,nR2]at z
    .rcases z with rfl|rfl|rfl<;>simp at A<;>rcases A with rfl|rfl<;>exact⟨by constructor<;>decide,by constructor<;>decide⟩
    .rcases z with rfl|rfl<;>simp at A<;>rcases A with rfl|rfl<;>exact⟨by constructor<;>decide,by constructor<;>decide⟩
   exact hn⟩
 have B:(dU nS [] nQ).2=0:=by rw[bMX]
 refine⟨⟨0,tabs⟩,E,⟨9,0,gT,bW,bW,gr,bW,1,qm⟩,nS,VQ,nQ,rfl,rS,W,rq,ht,λ_=>a5Q,bDX,λl f=>by
  have f:l∈VQ:=f;simp[VQ]at f;rcases f with rfl|rfl<;>decide,λs' he o f=>⟨⟨0,tabs⟩,⟨9,0,gT,bW,bW,gr,bW,1,qm⟩,nS,nQ,rfl,rS.mono o,rq.mono o,B,λv' hf g ho=>?_⟩⟩
 have f:=f B;rw[bDZ]at f;have f:=bV.mono f g λ_ _ x=>bV.mono x g λ_ _ y=>cA.mono y g;have C:=bV.slen f;have C:s'.len=2:=C;obtain⟨b1,o1,u1,X,Y,Z⟩:=bV.at f (i:=0) rfl;obtain⟨b2,o2,u2,a',a0,a1⟩:=bV.at f (i:=1) rfl;have j:=o.trans g
 refine aC (λ_=>aC (λ_=>aC (λ_=>⟨b1,o1,X,aD,aD,u1,.imm (by simpa[eS]using Y),λs1 hg d rg=>⟨u1,s1,[[nV 1,nV 7],[nV 2,nV 7]],[[nV 1,nV 7],[nV 2,nV 7]],rfl,bV.mono Z d λ_ _ y=>cA.mono y d,L9 (us:=[D,L]) rg rfl (λi x e=>by
  match i,e with
  |0,e=>simp at e;subst e;exact⟨_,rfl,G.mono (j.trans d)⟩
  |1,e=>simp at e;subst e;exact⟨_,rfl,vb.mono (j.trans d)⟩
  |i+2,e=>simp at e) bk,λr z=>aC (λ_=>⟨b2,o2,a',aD,aD,u2,.imm (by simpa[eS]using a0.mono d),λs2 hh u rh=>⟨u2,s2,[[nV 1,nV 7]],[[nV 1,nV 7]],rfl,bV.mono a1 (d.trans u) λ_ _ y=>cA.mono y (d.trans u),L9 (us:=[D]) rh rfl (λi x e=>by
   match i,e with
   |0,e=>simp at e;subst e;exact⟨_,rfl,G.mono ((j.trans d).trans u)⟩
   |i+1,e=>simp at e) bk,λr2 a2=>?_⟩⟩) (λe=>?_)⟩⟩) (λe=>?_)) (λe=>?_)) (λe=>?_)
 .rw[a2.2 rfl];exact .out (Sub.refl m) (((((H.trans l2).trans o).trans g).trans d).trans u) hK
 .rw[z.2 rfl]at e;cases e
 .rw[C]at e;cases e
 .rw[ho,bDJ]at e;cases e
 .rw[B]at e;cases e
theorem Tp{q:Query}{k:bt}(c:cX s=0)(h:uY q=true)(d:aK s [] q=(k,0)):dU s [] q=(k,0):=by
 unfold dU;rw[if_pos c,if_pos (by rfl),if_pos h,d]
def XQ(k:bt):Prop:=k≠[]/\Lc k
theorem PC{c:List bt}(h:∀k∈c,XQ k)(d:i<c.length):XQ (c.getD i []):=by
 rw[getD_eq_getElem?_getD,getElem?_eq_getElem d];exact h _ (getElem_mem d)
mutual
theorem TK{s:iJ}{ps:bt}(z:aTJ s)(A:∀t∈s.tables,t.columns≠[]):∀{q:Query}{ks:bt},aK s ps q=(ks,0)->XQ ks
 |.mk op ta w co on gr od li args,ks,h=>by
  obtain⟨j,F,J,d⟩:=sH h;have B:=PA z A F;have G:arity op=1\/arity op=2->XQ (j.getD 0 []):=λe=>PC B aD;have o:arity op=2->XQ (j.getD 1 []):=λe=>PC B aD;unfold dQ at d;dsimp only at d;split at d
  .simp[dG]at d
  rename_i H;have g:0<=arity op:=by have:¬arity op<0:=λe=>H (.inl e);omega
  split at d
  .rename_i u;subst u;split at d
   .rename_i L;obtain⟨rfl,_⟩:=mD d;refine⟨λe=>?_,z ta⟩;have C:ta.toNat<s.tables.length:=by omega
    rw[iA,if_neg aD,getElem?_eq_getElem C]at e;exact A _ (getElem_mem C) (map_eq_nil_iff.1 e)
   .simp[dG]at d
  .rename_i u
   have x:arity op=1\/arity op=2:=by
    unfold arity at g⊢
    split
    .rename_i e;simp at e;exact absurd e u
    .split
     .exact .inl rfl
     .split
      .exact .inr rfl
      .rename_i a b c;rw[if_neg a,if_neg b,if_neg c]at g;omega
   have n:=G x;split at d
   .split at d
    .obtain⟨rfl,_⟩:=mD d;exact n
    .rename_i e;simp only[dG,Prod.mk.injEq]at d;exact absurd d.2 e
   split at d
   .split at d
    .rename_i D;obtain⟨rfl,_⟩:=mD d;refine⟨λe=>D.1 (map_eq_nil_iff.1 e),λk f=>?_⟩;obtain⟨c,y,rfl⟩:=mem_map.1 f;obtain⟨_,E⟩:=FD D.2 y;have E:=NP E;rw[getD_eq_getElem?_getD,getElem?_eq_getElem aD];exact n.2 _ (getElem_mem _)
    .simp[dG]at d
   split at d
   .rename_i I;subst I;split at d
    .obtain⟨rfl,_⟩:=mD d;refine⟨λe=>n.1 (append_eq_nil_iff.1 e).1,λk f=>?_⟩;rcases mem_append.1 f with f|f
     .exact n.2 k f
     .exact(o rfl).2 k f
    .simp[dG]at d
   all_goals
    repeat' split at d
    all_goals first
     |(obtain⟨rfl,_⟩:=mD d;exact n)
     |(simp[dG]at d;done)
theorem PA{s:iJ}{ps:bt}(e:aTJ s)(f:∀t∈s.tables,t.columns≠[]):∀{g:cg}{d:List bt},dV s ps g=(d,0)->∀k∈d,XQ k
 |[],d,h,k,c=>by rw[dV]at h;simp only[Prod.mk.injEq,and_true]at h;subst h;simp at c
 |q::g,d,h,k,c=>by
  obtain⟨u,j,n,o,rfl⟩:=lS h;rcases mem_cons.1 c with rfl|c
  .exact TK e f n
  .exact PA e f o k c
end
theorem Tv(h:xF s){q:Query}{ks:bt}(c:aK s ps q=(ks,0)):XQ ks:=TK (VB h) (λt d e=>by have:=(J7 h d).2.1;rw[e]at this;simp at this) c
def CT(p:Pred)(a:Query):Query:=.mk 2 0 p [] [] [] [] 0 [a]
theorem ayX{st:List bx}(f:xF s)(h:FN s st):kN s st=0:=by
 obtain⟨c,g⟩:=Nn f;have o:=Hn c;have j:=h.len
 have d:∀l:List bx,(∀x∈l,x.length<=4)->(l.map λx=>(x.length:Int)).sum<=4*(l.length:Int):=λl=>by
  induction l with
  |nil=>intro _;simp
  |cons a l n=>
   intro e;have:=n λx h=>e x (mem_cons_of_mem _ h);have:=e a (mem_cons_self ..);simp only[map_cons,sum_cons,length_cons];omega
 have:=d st h.few;unfold kN;rw[if_neg (by simp[c]),if_neg aD,if_neg (by simp[j]),if_pos h.ok]
theorem fM.new(d:fM m)(c:m cb=none)(o:bM m m' cb):fM m':=by
 obtain⟨T,f,e⟩:=d;refine⟨T,f,?_⟩;rw[o.other 1 (λg=>by rw[<-g,e]at c;cases c)];exact e
def bUQ:Vc.Spec:=λc m h K=>∃s d,c=[cS s]/\dK h s 1 (bE d)/\s.len<=s.cap/\fM m/\∀m' h',Sub m m'->K (cB true) m' h'
noncomputable def f5_ctx:Ctx:=
 cW [(7,bQZ),(8,aVZ),(9,XN 1000),(16,vQ),(18,BJ),(19,YF),(20,K9),(21,SA),(14,a1Z),(22,a1Q)]
  [(14,{A:=Nat×Sl×Sl×MH×PH,st:=λ⟨i,a,b,m,h⟩=>bY 90 91 [(10,sv a),(12,sv b),(73,iv a.len),(74,iv i)] [] m h})] [] [] false
abbrev DV(a:Nat)(b:cN)(c:Nat)(d:MH)(e:PH)(g:iJ->(List bx)->Sl->Prop):Prop:=oG (λx f=>aA (cT a::bT (bQ b) 2=cT c::bT (bQ x) 2) (bC d e c) (aA (gA e f x) (xF f) (∀(j:List bx)(n:Sl),g f j n)))
abbrev DJ(a:CV)(b:PH)(c:MH)(d:bu)(e:iJ)(g:Query)(i:Prop):Prop:=vG (λx f=>oB a (cC x) (eO b f x) (dJ (!(uY f)) (aA (([]:ct)=[]) (fM c) (d (xZ (By e g==2)) c b)) (j8 (By e g)) (d bB c b) i))
abbrev El(a:iJ)(b:Query)(c:bu)(d:MH)(e:PH)(g i:Sl)(j:(Nat×Sl×Sl×MH×PH->Prop)->(Nat×Sl×Sl×MH×PH)->Prop)(k:(Nat×Sl×Sl×MH×PH->Prop)->(Nat×Sl×Sl×MH×PH->Nat)->(Nat×Sl×Sl×MH×PH)->Prop):Prop:=dJ (j8 (By a b)) (c bB d e) (aG g !=aG i) (c bB d e) (∃(x:Nat×Sl×Sl×MH×PH->Prop)(n:Nat×Sl×Sl×MH×PH->Nat),(∃(f:Nat×Sl×Sl×MH×PH),j x f)/\∀(f:Nat×Sl×Sl×MH×PH),k x n f)
noncomputable abbrev wG(a:Nat×Sl×Sl×MH×PH):Nat->Nat->Option Value:=(pU a.2).2
abbrev DT(a:Nat×Sl×Sl×MH×PH->Prop)(b:Nat×Sl×Sl×MH×PH)(c d:Sl)(e:MH)(g:PH):Prop:=aA (a b) (bH c b.2.1) (aA (bH d b.2.2.1) (cF c b.2.1) (aI (bF b.1) (cV e (pU b.2)) (g=wG b) True))
noncomputable abbrev Bt(a:Nat×Sl×Sl×MH×PH):Nat->Option Obj:=(pU a.2).1
abbrev DU(a:Nat×Sl×Sl×MH×PH->Prop)(b:Nat×Sl×Sl×MH×PH)(c:Sl->Prop)(d:Prop):Prop:=a b->bA (↑b.1:Int) (aG b.2.1) (aW (λx e=>aI (aX b.2.1.a x e) (0<=(↑b.1:Int)) ((↑b.1:Int)<aG b.2.1) (∃(f:Sl),aU (Bt b) (wG b) x (bN e b.1 1) (aY f)/\c f))) (aA (([]:ct)=[]) (fM (Bt b)) d)
abbrev DL(a:Nat×Sl×Sl×MH×PH)(b:Sl->Sl->Sl->Bool->bx->bx->Prop):Prop:=aW (λx c=>aI (aX a.2.2.1.a x c) (0<=(↑a.1:Int)) ((↑a.1:Int)<aG a.2.2.1) (∃(d:Sl),aU (Bt a) (wG a) x (bN c a.1 1) (aY d)/\lE (λe f=>∃(g:Bool),HB (λj n=>b d e f g j n))))
abbrev Ek(a b c d:Sl)(e:Bool)(g:Nat×Sl×Sl×MH×PH)(i j:bx)(k:Prop):Prop:=aA (dN a::bK (dN b) bB=dN c::bK (dN d) (xZ e)) (Rows (wG g) c i) (aA (Rows (wG g) d j) (j9 j) (Bv i/\k))
abbrev DK(a:Nat×Sl×Sl×MH×PH)(b:bx)(c:Bool)(d:bx)(e:bu)(g:PH->(Nat×Sl×Sl×MH×PH)->Prop):Prop:=∀(x:Sl)(f:PH),cD (wG a) f (Rows f x (filter (fun(j:cd)=>G6 b j==c) d)) (gM (aG x) 0 (e bB (Bt a) f) (∃(j:Nat×Sl×Sl×MH×PH),g f j))
abbrev Ej(a:Prop)(b c:Nat)(d e:Nat×Sl×Sl×MH×PH)(g:Prop)(i:PH):Prop:=aA a (b<c) (aA (bH d.2.1 e.2.1) (bH d.2.2.1 e.2.2.1) (aA (cF d.2.1 e.2.1) (fU (bG d.1 1)=bP e.1) (aA g (i=wG e) True)))
abbrev Ei(a b:Nat×Sl×Sl×MH×PH):Prop:=fO (pU a.2) (pU b.2)
abbrev Il(a:Nat)(b:Sl)(c:MH)(d:PH)(e:PV->MH->PH->Nat->Prop):Prop:=zC (gP a (dN b::bT CZ 2)) c d (λx o u y=>Bw (λj n=>eX (λg f=>cD d f (eH f n j) (xE o u y n->bM c g x->jN g f x (∃(z:Nat),e j g f z)))))
attribute [push_cast] DV DJ El wG DT Bt DU DL Ek DK Ej Ei Il
def av(s:Sl)(m:MH)(h:PH)(K:bu):Prop:=
  ∃(Y:Sl)(c:cn)(m1:Nat),aA (bT (dN s) 260=bT (dN Y) (↑m1:Int)) (dK h Y 1 (bE c)) (aA (Y.len<=Y.cap) (lR m1) (∀(G:Nat),eX (λZ h1=>cD h h1 (m G=Option.none) (bM m Z G->bC Z h1 G->∃(c2:Nat),oB (cT G) (cT c2) (bC Z h1 c2) (∀(s2:iJ)(v:cN),eX (λm3 U=>xF s2->gA U s2 v->cD h1 U (bM Z m3 c2) (jN m3 U c2 (∃(c3:Nat),Em (λs3 p=>Hb (λs4 p1=>∃(d:Int),aA (gP G (bQ v::bT CZ 2)=gP c3 (bQ s3::bT (dN p) d)) (bC m3 U c3) (aA (gA U s4 s3) (cX s4=0) (aA (zK (s4.tables=[])) (Ints U p p1) (aA (iO p1) (C4 (CM p1)) (aI (Int.negSucc 0<=d) (d<=1000) ((d+1).toNat<1000) (GF (λw q=>eX (λT h3=>cD U h3 (eO h3 q w) (QW q->BP d.toNat
 q->(dU s4 p1 q).2=0->bM m3 T c3->jN T h3 c3 (DW (bQ v::bK CZ (cC w)) h3 (λ_ _ _ X W=>aI (zC (gP G (dN X::bT CZ 2)) T W (λz c5 p2 d1=>Bw (λe p3=>eX (λA u=>cD W u (eH u p3 e) (xE c5 p2 d1 p3->bM T A z->jN A u z ((∃(V:Nat),DV G v V A u (λH B n=>eX (λf g=>cD u g (EW g n B) (FN H B->bM A f V->jN f g V (cG g 21 (iZ w.enc) (λC J=>rM (bQ v::bK (lG (aY n)) (lG (aR (dY 2) bL (aR (dY e.op) (dY e.cmp) (aR (kC e.left) (kD e.left) (aR (dY (jK e.left)) (kJ e.left) (nH e C))))))) J f (λa L D M=>rM (bQ v::bK (lG (aY n)) (cC w)) M f (λO P E o=>DJ (lG (aR (dY 2) bL (aR (dY e.op) (dY
 e.cmp) (aR (kC e.left) (kD e.left) (aR (dY (jK e.left)) (kJ e.left) (nH e C)))))) o f K a L (El O P K f o D E (λI x=>DT I x D E f o) (λI F x=>DU I x (λy=>DL x (λQ R t i l k=>Ek y Q R t i x l k (DK x k i l K (λS j=>Ej (I j) (F j) (F x) x j (Ei x j) S)))) (fJ K (Bt x) (wG x))))))))))))/\∃(V:Nat),DV G v V A u (λH B n=>eX (λf g=>cD u g (EW g n B) (FN H B->bM A f V->jN f g V (cG g 21 (iZ w.enc) (λC J=>rM (bQ v::bK (lG (aY n)) (lG (aR (dY 2) bL (aR (dY e.op) (dY e.cmp) (aR (kC e.left) (kD e.left) (aR (dY (jK e.left)) (kJ e.left) (nH e C))))))) J f (λa L D M=>rM (bQ v::bK (lG (aY n)) (cC w))
 M f (λO P E o=>DJ (lG (aR (dY 2) bL (aR (dY e.op) (dY e.cmp) (aR (kC e.left) (kD e.left) (aR (dY (jK e.left)) (kJ e.left) (nH e C)))))) o f K a L (El O P K f o D E (λI x=>DT I x D E f o) (λI F x=>DU I x (λy=>DL x (λQ R t i l k=>Ek y Q R t i x l k (DK x k i l K (λS j=>Ej (I j) (F j) (F x) x j (Ei x j) S)))) (fJ K (Bt x) (wG x))))))))))))))))) (Il G X T W (λe A u z=>DV G v z A u (λH B n=>eX (λf g=>cD u g (EW g n B) (FN H B->bM A f z->jN f g z (cG g 21 (iZ w.enc) (λC J=>rM (bQ v::bK (lG (aY n)) (lG (aR (dY 2) bL (aR (dY e.op) (dY e.cmp) (aR (kC e.left) (kD e.left) (aR (dY (jK e.left)) (kJ
 e.left) (nH e C))))))) J f (λa L D M=>rM (bQ v::bK (lG (aY n)) (cC w)) M f (λO P E o=>DJ (lG (aR (dY 2) bL (aR (dY e.op) (dY e.cmp) (aR (kC e.left) (kD e.left) (aR (dY (jK e.left)) (kJ e.left) (nH e C)))))) o f K a L (El O P K f o D E (λI x=>DT I x D E f o) (λI F x=>DU I x (λy=>DL x (λQ R t i l k=>Ek y Q R t i x l k (DK x k i l K (λS j=>Ej (I j) (F j) (F x) x j (Ei x j) S)))) (fJ K (Bt x) (wG x))))))))))))/\Il G X T W (λe A u z=>DV G v z A u (λH B n=>eX (λf g=>cD u g (EW g n B) (FN H B->bM A f z->jN f g z (cG g 21 (iZ w.enc) (λC J=>rM (bQ v::bK (lG (aY n)) (lG (aR (dY 2)
 bL (aR (dY e.op) (dY e.cmp) (aR (kC e.left) (kD e.left) (aR (dY (jK e.left)) (kJ e.left) (nH e C))))))) J f (λa L D M=>rM (bQ v::bK (lG (aY n)) (cC w)) M f (λO P E o=>DJ (lG (aR (dY 2) bL (aR (dY e.op) (dY e.cmp) (aR (kC e.left) (kD e.left) (aR (dY (jK e.left)) (kJ e.left) (nH e C)))))) o f K a L (El O P K f o D E (λI x=>DT I x D E f o) (λI F x=>DU I x (λy=>DL x (λQ R t i l k=>Ek y Q R t i x l k (DK x k i l K (λS j=>Ej (I j) (F j) (F x) x j (Ei x j) S)))) (fJ K (Bt x) (wG x))))))))))))) (Il G X T W (λe A u z=>DV G v z A u (λH B n=>eX (λf g=>cD u g (EW g n B) (FN H B->bM A f z->jN f g
 z (cG g 21 (iZ w.enc) (λC J=>rM (bQ v::bK (lG (aY n)) (lG (aR (dY 2) bL (aR (dY e.op) (dY e.cmp) (aR (kC e.left) (kD e.left) (aR (dY (jK e.left)) (kJ e.left) (nH e C))))))) J f (λa L D M=>rM (bQ v::bK (lG (aY n)) (cC w)) M f (λO P E o=>DJ (lG (aR (dY 2) bL (aR (dY e.op) (dY e.cmp) (aR (kC e.left) (kD e.left) (aR (dY (jK e.left)) (kJ e.left) (nH e C)))))) o f K a L (El O P K f o D E (λI x=>DT I x D E f o) (λI F x=>DU I x (λy=>DL x (λQ R t i l k=>Ek y Q R t i x l k (DK x k i l K (λS j=>Ej (I j) (F j) (F x) x j (Ei x j) S)))) (fJ K (Bt x) (wG x))))))))))))) (Il G X T W (λe A u z=>DV G v z A u (λH
 B n=>eX (λf g=>cD u g (EW g n B) (FN H B->bM A f z->jN f g z (cG g 21 (iZ w.enc) (λC J=>rM (bQ v::bK (lG (aY n)) (lG (aR (dY 2) bL (aR (dY e.op) (dY e.cmp) (aR (kC e.left) (kD e.left) (aR (dY (jK e.left)) (kJ e.left) (nH e C))))))) J f (λa L D M=>rM (bQ v::bK (lG (aY n)) (cC w)) M f (λO P E o=>DJ (lG (aR (dY 2) bL (aR (dY e.op) (dY e.cmp) (aR (kC e.left) (kD e.left) (aR (dY (jK e.left)) (kJ e.left) (nH e C)))))) o f K a L (El O P K f o D E (λI x=>DT I x D E f o) (λI F x=>DU I x (λy=>DL x (λQ R t i l k=>Ek y Q R t i x l k (DK x k i l K (λS j=>Ej (I j) (F j) (F x) x j (Ei x j) S)))) (fJ K
 (Bt x) (wG x)))))))))))))))))))))))))))))))))
theorem JN.good{s:iJ}{q:Query}{B:Nat}(c:cX s=0)(g:fN s q)(j:vS q<=24)(n:fE 4 q<=B)(e:B*60<=1000000){E:Query}(f:E∈j6 (pN s) q (gI q)):fN s E:=by
 obtain⟨D, -⟩:=Tu c g j n e;obtain⟨y,_,o,u⟩:=D.ex;rw[<-u]at f;obtain⟨d,x,rfl⟩:=mem_map.1 f;exact D.inv.good d (o d x)
theorem TW{st:List bx}{q:Query}(c:kN s st=0)(d:StV st)(e:∀l∈st,l.length<=4)(g:fN s q):j9 (jS st q)/\(jS st q).length<=1000000:=by
 have x:=RL c d e aD (Prod.ext rfl g.kinds:aK s [] q=((aK s [] q).1,0)) g.bnd;exact⟨x.2.2.1.srt,x.2.2.2⟩
theorem a7Q{st:List bx}{q:Query}:Sz st (j6 (pN s) (CT p q) (gI (CT p q))) (j6 (pN s) q (gI q)):=by
 rw[CT,j6.eq_def (pN s) (.mk 2 0 p [] [] [] [] 0 [q])];dsimp only;rw[if_pos rfl];refine nN q _ _ λx c=>?_
 have e:gI (.mk 2 0 p [] [] [] [] 0 [q])= .mk 2 0 p [] [] [] [] 0 [gI q]:=by
  rw[gI,if_neg bk,EO,EO]
 rw[e]at c;simp only[jS,BV,SL,show((2:Int)=1)=False by simp,if_false,if_true,Yk]at c;exact(mem_filter.1 c).1
theorem bh:br 5 bUQ:=by
 refine hJ func5 ?_;rintro b5 m h K ⟨s,cs,rfl,hr,P,ht,hK⟩;refine⟨f5_ctx,rfl,aE aAJ (aE aAZ (aE (aAX 1000) (aE Qf (aE GP (aE Wi (aE Oa (aE P6 (aE afZ (aE abJ aH))))))))),av s m h K,bi,?_⟩;dsimp only[av,push_cast];refine⟨s,cs,260,rfl,hr,P,aD,λcb m1 h1 b6 Q o1 c1=>⟨cb,rfl,c1,λsc v m2 h2 g R b7 o2 c2=>?_⟩⟩;obtain⟨d,a1⟩:=Nn g;refine⟨cb,v,bW,sc,[],2,rfl,c2,R,d,a1,nJ _,bj,bj,aD,aD,bk,λw q m3 h3 j rq qw S G o3 c3=>?_⟩;refine⟨v,bW,w,sc,[],q,rfl,R.mono j,nJ _,rq,λsl h4 H ik=>?_⟩;obtain⟨_,_,T,qk⟩:=BY G;have hk:aK sc [] q=((aK sc [] q).1,0):=Prod.ext rfl qk;rw[Tp d T hk]at ik;have a2:=Tv g hk;have U:=jH sc [] q;have qc:=JW T;have qb:fE 4 q<=256:=Nat.le_trans (qV.b S) bk;have gq:fN sc q:=⟨qk,MI (s:=sc) (ps:=[]) bj q qk qw,aD⟩
 have nq:JN sc q:=Ka (B:=256) d gq qc qb bk
 repeat' apply And.intro
 all_goals
  refine⟨cb,sl,bW,_,[],2,rfl,c3.mono H,ik,nJ _,Nat.le_trans U bk,bj,aD,λpv f m5 h5 V a3 W o5 c5=>?_⟩;have hf:aK sc [] (CT f q)=((aK sc [] q).1,0):=kinds_filter hk (W.valid aD a2.2 (by intro k h;simp at h)) U
  have fb:fE 4 (CT f q)<=256:=by
   rw[CT,fE,if_neg bk,if_neg bk];simpa[sB]using qb
  have gf:fN sc (CT f q):=⟨by rw[hf],MI (s:=sc) (ps:=[]) bj (CT f q) (by rw[hf]) (Nf W.vals qw),aD⟩
  have nf:(dU sc [] (CT f q)).2=0->JN sc (CT f q):=λh=>Ka (B:=256) d gf (JW (BY h).2.2.1) fb bk
  repeat' apply And.intro
 all_goals
  refine⟨cb,v,sc,rfl,c5,R.mono ((j.trans H).trans V),g,λI X m6 h6 Y Z c o6 c6 s1 h7 n r7=>?_⟩;have ho:=((((o1.trans o2).trans o3).trans o5).trans o6)
  have u:fM m6:=ht.new Q ho;have D:Sub m m6:=λb o e=>by rw[ho.other b (λe2=>by rw[e2,Q]at e;cases e)];exact e
  have l7:=((H.trans V).trans Y).trans n;have y:=ayX g c;have rf:eO h7 (CT f q) ⟨2,0,pv,bW,bW,bW,bW,0,s1⟩:=HE (a3.mono (Y.trans n)) (Be r7 (rq.mono l7));refine⟨v,X,⟨2,0,pv,bW,bW,bW,bW,0,s1⟩,sc,I,CT f q,rfl,R.mono (j.trans l7),Z.mono n,rf,u,nf,y,c.few,λa h8 z O=>?_⟩;refine⟨v,X,w,sc,I,q,rfl,R.mono ((j.trans l7).trans z),Z.mono (n.trans z),rq.mono (l7.trans z),u,λ_=>nq,y,c.few,λb h9 C lb=>?_⟩;refine⟨⟨2,0,pv,bW,bW,bW,bW,0,s1⟩,CT f q,rfl,rf.mono (z.trans C),aC (λe=>⟨rfl,u,?_⟩) (λe=>?_)⟩
  .have:(dU sc [] (CT f q)).2=2:=by
    unfold dU;rw[if_pos d,if_pos (by rfl),if_neg (bo e)];rfl
   rw[this];exact hK _ _ D
  .have J:(dU sc [] (CT f q)).2=0:=by rw[Tp d (bo e) hf]
   have O:=O J;have lb:=lb G;have sub:Sz I (j6 (pN sc) (CT f q) (gI (CT f q))) (j6 (pN sc) q (gI q)):=a7Q;have ga:∀E∈j6 (pN sc) (CT f q) (gI (CT f q)),fN sc E:=λE hE=>JN.good (B:=256) d gf (JW (BY J).2.2.1) fb bk hE;have gb:∀E∈j6 (pN sc) q (gI q),fN sc E:=λE hE=>JN.good (B:=256) d gq qc qb bk hE;generalize j6 (pN sc) (CT f q) (gI (CT f q))=A at O sub ga;generalize j6 (pN sc) q (gI q)=B at lb sub gb;have hA:a.len=A.length:=by have:=bV.slen O;simpa using this
   have hB:b.len=B.length:=by have:=bV.slen lb;simpa using this
   have a4:=sub.len;have a5:=O.len;simp only[length_map]at a5;refine aC (λe=>by rw[J]at e;cases e) (λ_=>aC (λe=>by rw[G]at e;cases e) (λ_=>aC (λe=>by rw[hA,hB,a4]at e;simp at e) (λ_=>?_)));refine⟨λx=>x.1<=A.length/\x.2.1=a/\x.2.2.1=b/\x.2.2.2.1=m6/\PH.le h9 x.2.2.2.2,λx=>A.length-x.1,⟨(0,a,b,m6,h9),⟨Nat.zero_le _,rfl,rfl,rfl,.refl _⟩,MT⟩,?_⟩;rintro⟨i,a',b',mx,hx⟩ ⟨hi,e1,e2,e3,le⟩;dsimp only at hi e1 e2 e3 le⊢
   subst e1 e2 e3;refine aF (λb8=>?_) (λb9=>⟨rfl,u,hK _ _ D⟩);have L:i<A.length:=by omega
   have M:i<B.length:=by omega
   obtain⟨b1,a6,u1,a7,a8,y1⟩:=bV.at O (i:=i) (x:=jS I A[i]) (by rw[getElem?_map,getElem?_eq_getElem L];rfl);obtain⟨b2,a9,u2,b0,b3,y2⟩:=bV.at lb (i:=i) (x:=jS I B[i]) (by rw[getElem?_map,getElem?_eq_getElem M];rfl);have x1:=TW y c.val c.few (ga A[i] (getElem_mem L));have x2:=TW y c.val c.few (gb B[i] (getElem_mem M));have hs:=sub.sub i A[i] B[i] (getElem?_eq_getElem L) (getElem?_eq_getElem M);have a0:((jS I A[i]).filter λx=>G6 (jS I B[i]) x==false)=[]:=filter_eq_nil_iff.2 λx hx=>by rw[GJ.2 (hs x hx)];simp
   rw[kA aD];refine⟨b1,a6,a7,aD,aD,u1,.imm (a8.mono (C.trans le)),b2,a9,b0,aD,aD,u2,.imm (b3.mono le),u1,u2,false,_,_,rfl,bV.mono y1 (C.trans le) (λ_ _ h=>cA.mono h (C.trans le)),bV.mono y2 le (λ_ _ h=>cA.mono h le),x2.1,x1.2,λs' h' b4 F=>?_⟩;rw[a0]at F;have hz:=F.slen;exact aC (λe=>by rw[hz]at e;simp at e) (λ_=>⟨(i+1,a',b',mx,h'),⟨by show i+1<=_;omega,rfl,rfl,rfl,le.trans b4⟩,by show A.length-(i+1)<A.length-i;omega,MT⟩)
end Go.Ps
