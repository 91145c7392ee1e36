/-
  Part 7 of a proof that a law of the given program returns true: a condition generator that is proved sound, and contracts of functions. No condition of its own. Own work, joined by a program (pack2.py).
-/
import Derived.Test.YtmecdlibgejboaaGreatDoorPf
set_option linter.unusedVariables false
set_option linter.unusedSimpArgs false
namespace Go.Ps
open Go Go.Vc Go.Proofs List Tryz
variable{K:bo}{m:MH}{h:PH}{s:mI}{ps:br}{cb:Nat}{sc:bY}{v:QV}{q:Query}{p:Pred}{l:br}{i:Nat}{N:Nat}{m':MH}{h':PH}{co:br}{gr:br}{od:bz}{w:Pred}{ta:Int}{li:Int}{xs:List bm}{sz:Nat}{k:Nat}{ks:List br}{rs:br}{r:Sl}{a:br}{b:Nat}
structure P4(h:PH)(b:Nat)(l:bt):Prop where
 ex:∃us,Hj h b us/\eE h us l
theorem P4.mono{l:bt}(x:P4 h b l)(le:PH.le h h'):P4 h' b l:=by
 obtain⟨c,d,e⟩:=x.ex;exact⟨c,d.mono le,e.mono le⟩
structure tW(h:PH)(t:Sl)(bs:ck)(ls:List bt):Prop where
 row:cZ h t 1 (bs.map λb=>[PS b])
 len:bs.length=ls.length
 at_:∀(i b:Nat)(l:bt),bs[i]? =some b->ls[i]? =some l->P4 h b l
structure gR(w:Nat)(l:bt):Prop where
 row:∀r∈l,Mq r
 wid:∀r∈l,r.length=w
 srt:nJ l
 len:l.length<=1000000
def LW(l:bt)(x:bu):Bool:=l.any λy=>eC x y==0
theorem Nb{l:bt}{x:bu}:LW l x=true↔x∈l:=by
 simp only[LW,any_eq_true,beq_iff_eq,lC];exact⟨λ⟨y,c,d⟩=>d▸c,λh=>⟨x,h,rfl⟩⟩
def TX(ok:Query->List bt->Prop)(f:Query->List bt->bt):Vc.Spec:=λc m h K=>∃v t q g d,c=[aQ v,cS t]/\dQ h q v/\tW h t g d/\dU m/\ok q d/\
 ∀e h',PH.le h h'->Rows h' e (f q d)->K (cS e) m h'
def TU:Vc.Spec:=λd m h K=>∃t i f c w,d=[cS t,cB i]/\tW h t f c/\dU m/\2<=c.length/\(∀l∈c,gR w l)/\
 ∀e h',PH.le h h'->Rows h' e ((c.getD 0 []).filter λx=>LW (c.getD 1 []) x==i)->K (cS e) m h'
noncomputable def aTJ:Ctx:=Tv [(123,baJ)] [(6,{A:=Nat×Nat×Sl×Sl×bu×MH×PH,st:=λ⟨i,b,e,c,l,m,h⟩=>bO 40 42 [(5,vv (.pointer (some ⟨b,0,none⟩))),(6,sv e),(7,.at (.lst 17)),(19,sv c),(20,iv c.len),(21,iv i)] [(17,.lst 24 3 (l.map VV.enc))] m h})] [] [200002,200005,1068]
noncomputable abbrev wA(a:Nat):bm:=jD (Value.func (Fn.func 205) Di (Array.mk (jD (WE a 0))))
abbrev Jb(a:Option Addr)(b c:Int)(d:Sl)(e:MH)(g:Nat->Nat->Option Value)(i:Nat->Nat)(j:Nat->(PH->bm->List bm->Prop)->Prop):Prop:=aK (λx f=>aA (aL a x f) (b<=c) (c<aG d/\∃(n:Nat),aJ e g x (i f) (wA n)/\∃(o:PH->bm->List bm->Prop),j n o))
abbrev DS(a:Nat->Option Obj)(b:Nat->Nat->Option Value)(c:Sl)(d:Nat->MH->Nat->(PH->bm->List bm->Prop)->Prop):Prop:=fR (λx e=>aY (bW a b x) (cM a e x gA 68) (Jb c.a 0 0 c e b (λf=>f+0) (λf g=>d x e f g)))
attribute [push_cast] wA Jb DS
def KO(v:QV)(t:Sl)(m:MH)(h:PH)(K:bo):Prop:=
  fR (λb j=>aY (bW m h b) (cM m j b v.enc 35) (DS j h t (λf A y S=>uK S h y A (λI k e d c=>I k d c->∃(n:PV),aJ d c b 2 n.enc/\Gt (λo s p r=>aA (wP n e=wP o s) (eW c p o) (bP c s r/\branch (lM r p) (∃(g:Sl),Hz d c f 0 g (λx=>aA (cR d (dJ g) 100 1 x) (iL x) (dO x/\iF (λu z=>eK d z (dJ g) u 100 1 (iN x e)->fN z f (dT u) (λB=>I (k+1) B c))))) (I (k+1) d c)))) (λx I=>D3 h I x f K))))
noncomputable abbrev zE(a:Nat×Nat×Sl×Sl×bu×MH×PH):Sl:=a.2.2.2.1
noncomputable abbrev Ee(a:Nat×Nat×Sl×Sl×bu×MH×PH):List bm:=C4 a.2.2.2.2.1
noncomputable abbrev oD(a:Nat×Nat×Sl×Sl×bu×MH×PH):MH×PH:=a.2.2.2.2.2
abbrev uU(a:PH)(b:bt)(c:bo)(d:Nat->Option Obj):Prop:=∀(x:Sl)(e:PH),dA a e (Rows e x b) (c (rC x) d e)
abbrev DW(a b:Sl)(c:Nat->Option Obj)(d:PH)(e:bo):Prop:=∃(x:ca)(f:bt),aA (gW a=gW b) (sI c d b 1 (kS x)) (aA (eE d x f) (f.length<=502633886983) (uU d (Fe f) e c))
attribute [push_cast] zE Ee oD uU DW
def KN(v:QV)(t:Sl)(m:MH)(h:PH)(K:bo):Prop:=
  fR (λb A=>aY (bW m h b) (cM m A b v.enc 35) (DS A h t (λB J y S=>uK S h y J (λI k e g f=>I k g f->∃(d:Sl),aA (aJ g f b 15 (aM d)) (cF (aG d)) (aA (aG d<=aG d) (z8 d 32) (yJ (aG d)/\∃(u:Sl),aJ g f b 15 (aM u)/\∃(I1:Nat×Nat×Sl×Sl×bu×MH×PH->Prop)(C:Nat×Nat×Sl×Sl×bu×MH×PH->Nat),(∃(x:Nat×Nat×Sl×Sl×bu×MH×PH),aA (I1 x) (cH B x.2.1) (aA (bB e x.2.2.1) (eL 17) (aA (bB u (zE x)) (bQ u (zE x)) (aA (bC x.1) (F8 (replicate (aG d).toNat wQ) (Ee x)) (gX (cT g (oD x)) (eA f (oD x)))))))/\∀(x:Nat×Nat×Sl×Sl×bu×MH×PH),I1 x->aZ (↑x.1:Int) (aG (zE x)) (aK (λD o=>aA (aL (zE x).a D o) (0<=
 (↑x.1:Int)) ((↑x.1:Int)<aG (zE x)/\∃(j:Int),aJ (oD x).1 (oD x).2 D (bK o x.1 1) (bL j)/\aK (λE F=>aA (aL x.2.2.1.a E F) (0<=j) (j<aG x.2.2.1/\∃(n:VV),aA (aJ (oD x).1 (oD x).2 E (fX F j 3) n.enc) (0<=(↑x.1:Int)) ((↑x.1:Int)<lU (Ee x)/\∃(z:bm),aA (jC (Ee x) (lK x.1) z) (3<=z.length) (∃(c:Nat×Nat×Sl×Sl×bu×MH×PH),aA (I1 c) (C c<C x) (aA (cH x.2.1 c.2.1) (bB x.2.2.1 c.2.2.1) (aA (eL 17) (bB (zE x) (zE c)) (aA (bQ (zE x) (zE c)) (bD (fP (bE x.1 1)) c.1) (aA (F8 (List.set (Ee x) (lK x.1) (bA (fD n.kind) (fD n.int) (xS (Value.string n.text) 3 z))) (Ee c)) (eU (oD x) (oD c)) (cW (oD x) (oD c)/\
 True)))))))))))) (∃(j:Sl),aJ (oD x).1 (oD x).2 x.2.1 0 (aM j)/\bZ (oD x).2 3 (Ee x) (λs L=>∃(c:List bm),aA (cR (oD x).1 (dJ j) 100 1 c) (iL c) (dO c/\iF (λG H=>eK (oD x).1 H (dJ j) G 100 1 (iN c s)->fN H x.2.1 (dT G) (λM=>I (k+1) M L)))))))) (λx I=>jQ (λg f=>dA h f (I x.length g f) (∃(d:Sl),aJ g f B 0 (aM d)/\∃(s:Sl),DW d s g f K))))))
def KK(v:QV)(t:Sl)(m:MH)(h:PH)(K:bo):Prop:=
  aK (λb o=>aA (aL t.a b o) ((0:Int)<=0) (0<aG t/\∃(y:Nat),aJ m h b (o+0) (wA y)/\aK (λe f=>aA (aL t.a e f) ((0:Int)<=1) (1<aG t/\∃(g:Nat),aA (aJ m h e (f+1) (wA g)) (bT h e (f+1) (wA g)) (Je (λz A=>aA (tT (mM 205 y)=tT (mM 205 z)) (Hj h z A) (Iw 1 A (λc x d=>m x=Option.some d->c x=Option.some d) (λs c=>(∀(x i:Nat),aL s.a x i->Et m x)->bT h b (o+0) (wA y)/\∃(j:Sl),Je (λB u=>∃(C:ca),aA (eJ s (mM 205 g)=eJ j (mM 205 B)) (cR c j 100 1 (kS u)) (aA (Hj h B C) (u.length<=502633886983) (Iw 1 (u++C) (λn x d=>aY (c x=Option.some d) (∀(i:Nat),jU (aL j.a x i)) (n x=Option.some d)) (λD n=>(∀(x i:Nat),
 aL D.a x i->Et c x\/∃(E:Nat),aL j.a x E)->aA (bT h b (o+0) (wA y)) (bT h e (f+1) (wA g)) (∃(F:Sl),DW D F n h K)))))))))))))
noncomputable abbrev CY:Value:=Value.map Option.none
noncomputable abbrev lV(a:Nat):bm:=jD (BE a)
abbrev cV(a:MH)(b:PH)(c d:Nat):Prop:=aJ a b c 0 (lV d)
abbrev oC(a:Nat->Option Obj)(b:Nat)(c:(Value->Prop)->Prop)(d:Value)(e:cd->Prop)(g:cd->Value->cd->cd)(i:cd->cd->Prop):Prop:=Ko (λx j=>aA (mH a b x) (Cd 9 j) (aA (c j) (fS (Instr.sameBits 10000 d d)) (aA (∀(f:Value×Value),List.Mem f x->j f.1) ((∀(f:Value×Value),Kk f x d)->e x) (∀(f:cd)(o:Value)(n:cd),x=g f o n->i f n))))
noncomputable abbrev Hc(a:bu):Value:=Value.string (dP a)
attribute [push_cast] CY lV cV oC Hc
def KH(t:Sl)(i:Bool)(m:MH)(h:PH)(K:bo):Prop:=
  fR (λb P=>aY (bW m h b) (cM m P b (qV i) 4) (uL P h (λU Q=>fR (λu R=>aY (bW Q h u) (cM Q R u (jD CY) 182) (fN R u (BE U) (λT=>Jb t.a 0 1 t T h (λo=>o+1) (λy S=>uK S h y T (λI k e g f=>I k g f->∃(n:Nat),aA (cV g f u n) (cV g f u n) (oA (λs r=>aA (gW e=gW s) (bP f s r) (aA (Mq r) (dU g) (aJ g f u 0 (lV n)/\oC g n (λO=>O (Hc r)) (Hc r) (λA=>∀(z:MH),aY (iH g z n) (mH z n (Ev A (Hc r))) (I (k+1) z f)) (λl v J=>fK l (Hc r) v J) (λl J=>∀(z:MH),aY (iH g z n) (mH z n (fK l (Hc r) BF J)) (I (k+1) z f))))))) (λx I=>jQ (λg f=>dA h f (I x.length g f) (DS g f t (λD z n S1=>
 uK S1 f n z (λI1 k e c d=>I1 k c d->∃(G:Nat),aJ c d u 0 (lV G)/\∃(B:Bool),aA (aJ c d b 0 (qV B)) (cV c d u G) (aJ c d b 0 (qV B)/\oA (λs r=>aA (gW e=gW s) (bP d s r) (aA (Mq r) (dU c) (aA (cV c d u G) (aJ c d b 0 (qV B)) (aJ c d b 0 (qV B)/\∃(A:de)(O:Value->Prop),aA (mJ c G (List.map (fun(p:Value×Bool)=>(p.1,Value.bool p.2)) A)) (Cd 9 O) (aA (O (Hc r)) (∀(H:Value×Bool),List.Mem H A->O H.1) (fA (∀(H:Value×Bool),Ek H A (Hc r)) (false==B) (∃(C:Sl),Hz c d D 0 C (λj=>aA (cR c (dJ C) 100 1 j) (iL j) (dO j/\iF (λE F=>eK c F (dJ C) E 100 1 (iN j e)->fN F D (dT E) (λL=>I1 (k+1) L d))))) (I1 (k+
 1) c d)/\∀(C:Bool),fA (List.Mem (Hc r,C) A) (C==B) (∃(M:Sl),Hz c d D 0 M (λj=>aA (cR c (dJ M) 100 1 j) (iL j) (dO j/\iF (λE F=>eK c F (dJ M) E 100 1 (iN j e)->fN F D (dT E) (λL=>I1 (k+1) L d))))) (I1 (k+1) c d))))))))) (λj I1=>D3 f I1 j D K))))))))))))
abbrev AK(a:ck->(List bt)->Prop):Prop:=∃(x:ck)(c:List bt),a x c
abbrev I9(a:PH)(b:bu->Bool)(c:bt)(d:bo)(e:MH):Prop:=∀(x:Sl)(f:PH),dA a f (Rows f x (filter b c)) (d (rC x) e f)
attribute [push_cast] AK I9
def auJ(v:QV)(t:Sl)(m:MH)(h:PH)(K:bo):Prop:=
  ∃(c:Sl)(i:Bool),AK (λb l=>∃(w:Nat),aA (eJ t aX=eJ c (Ah i)) (tW h c b l) (aA (dU m) (2<=l.length) ((∀(d:bt),List.Mem d l->gR w d)/\I9 h (fun(x:bu)=>LW (List.getD l 1 []) x==i) (List.getD l 0 []) K m)))
def auZ(v:QV)(t:Sl)(m:MH)(h:PH)(K:bo):Prop:=
  ∃(c:Sl)(i:Bool),AK (λb l=>∃(w:Nat),aA (eJ t gL=eJ c (Ah i)) (tW h c b l) (aA (dU m) (2<=l.length) ((∀(d:bt),List.Mem d l->gR w d)/\I9 h (fun(x:bu)=>LW (List.getD l 1 []) x==i) (List.getD l 0 []) K m)))
abbrev yI(a:Sl->bu->br->Prop):Prop:=oA (λx c=>∃(d:br),a x c d)
abbrev yH(a:bu)(b:br):Prop:=hZ a.length b
noncomputable abbrev dE(a:bu)(b:br):Value:=Hc (pick a b)
abbrev Ci(a b c:Sl)(d:PH)(e:MH)(g i:Nat)(j k:bu->br->Prop):Prop:=yI (λx f n=>aA (cA a b=cA c x) (bP d c f) (aA (Ints d x n) (Mq f) (aA (yH f n) (dU e) (aA (cV e d g i) (j f n) (k f n)))))
attribute [push_cast] yI yH dE Ci
def KL(v:QV)(t:Sl)(m:MH)(h:PH)(K:bo):Prop:=
  HD (λs o=>aA (gW v.on=gW s) (jK h s o) (∀(a b:Sl)(j:PH),dA h j (Ints j a (iD o)) (Ints j b (dV o)->fR (λE J=>aY (bW m j E) (cM m J E gA 30) (fR (λF R=>aY (bW J j F) (cM J R F gA 30) (fN R E (dT a) (λm3=>fN m3 F (dT b) (λm4=>uL m4 j (λb3 T=>fR (λz U=>aY (bW T j z) (cM T U z (jD CY) 182) (fN U z (BE b3) (λV=>Jb t.a 0 1 t V j (λo1=>o1+1) (λy S=>uK S j y V (λI k e f d=>I k f d->∃(n:Nat),aJ f d z 0 (lV n)/\∃(B:Sl),aA (aJ f d F 0 (aM B)) (cV f d z n) (∃(G:Sl),yI (λW r c=>aA (cA e B=cA G W) (bP d G r) (aA (Ints d W c) (Mq r) (aA (yH r c) (dU f) (cV f d z n/\oC f n
 (λO=>O (dE r c)) (dE r c) (λC=>∀(A:MH),aY (iH f A n) (mH A n (Ev C (dE r c))) (I (k+1) A d)) (λl v1 L=>fK l (dE r c) v1 L) (λl L=>∀(A:MH),aY (iH f A n) (mH A n (fK l (dE r c) BF L)) (I (k+1) A d)))))))) (λx I=>jQ (λf d=>dA j d (I x.length f d) (DS f d t (λM A n S1=>uK S1 d n A (λI1 k e g u=>I1 k g u->∃(B:Nat),aJ g u z 0 (lV B)/\∃(P:Sl),aA (aJ g u E 0 (aM P)) (cV g u z B) (∃(G:Sl),Ci e P G u g z B (λ_ _=>aJ g u E 0 (aM P)) (λr c=>∃(C:de)(O:Value->Prop),aA (mJ g B (List.map (fun(p:Value×Bool)=>(p.1,Value.bool p.2)) C)) (Cd 9 O) (aA (O (dE r c)) (∀(H:Value×Bool),List.Mem H C->O H.1) (((∀(H:
 Value×Bool),Ek H C (dE r c))->I1 (k+1) g u)/\∀(X:Bool),fA (List.Mem (dE r c,X) C) X (∃(Q:Sl),Hz g u M 0 Q (λD=>aA (cR g (dJ Q) 100 1 D) (iL D) (dO D/\iF (λY Z=>eK g Z (dJ Q) Y 100 1 (iN D e)->fN Z M (dT Y) (λa3=>I1 (k+1) a3 u))))) (I1 (k+1) g u)))))) (λD I1=>D3 d I1 D M K)))))))))))))))))))
def Ds(m c:MH)(b:Nat):Prop:=∀x o,m x=some o->x≠b->c x=some o
structure pD(m mx:MH)(b:Nat)(us:ca):Prop where
 ex:∃s:Sl,mx b=some (.cells #[.slice s.a s.len s.cap] 68 (0,0))/\cR mx s 100 1 (us.map eS)/\∀i x,s.a=some ⟨x,i,none⟩->m x=none
theorem pD.new(c:m' b=some (.cells #[rV] 68 (0,0))):pD m m' b []:=⟨⟨none,0,0⟩,c,⟨Ao [],.inl ⟨rfl,rfl⟩⟩,λi x e=>by cases e⟩
theorem Il{n:MH}{s:Sl}{us:ca}{e:Sl}{Q:MH->Prop}(d:∃o,m b=some o)(F:Ds m n b)(B:n b=some (.cells #[.slice s.a s.len s.cap] 68 (0,0)))(t:cR n s 100 1 (us.map eS))(g:∀i x,s.a=some ⟨x,i,none⟩->m x=none)(M:us.length<=502633886983)(H:∀m',Ds m m' b->pD m m' b (us++[e])->Q m'):
 ∃xs:List bm,cR n (Sl.mk s.a s.len s.cap) 100 1 xs/\(xs.length+1)*24<=140737488355328/\xs.length<140737488355328/\∀(A:Sl)(m':MH),eK n m' (Sl.mk s.a s.len s.cap) A 100 1 (xs++[[dT e]])->
  ∃(cs:Array Value)(E:TypeId),Lo m' b (.cells cs E (0,0))/\0<cs.size/\∀m2:MH,gG m' m2 b (.cells (Array.mk (dT A::cs.toList.drop 1)) E (0,0))->Q m2:=by
 obtain⟨O,d⟩:=d;have u:∀i,s.a≠some ⟨b,i,none⟩:=λi f=>by rw[g i b f]at d;cases d
 refine⟨us.map eS,t,by rw[length_map];omega,by rw[length_map];omega,λA m' y=>⟨_,_,⟨y.other b _ B u⟩,bg,λm2 C=>H m2 ?_ ⟨A,C.at_,?_,?_⟩⟩⟩
 .intro x o D z;rw[C.other x z];exact y.other x o (F x o D z) (λi f=>by have f:s.a=some ⟨x,i,none⟩:=f;rw[g i x f]at D;cases D)
 .have I:(us++[e]).map eS=us.map eS++[[dT e]]:=by simp[eS]
  rw[I];refine cR.keep y.row (λx i f=>C.other x (λJ=>?_));subst J;rcases y.fresh x i f with c|⟨j,c⟩
  .rw[B]at c;cases c
  .exact u j c
 .intro i x f;rcases y.fresh x i f with c|⟨j,c⟩
  .cases L:m x with
   |none=>rfl
   |some o=>
    by_cases G:x=b
    .subst G;rw[B]at c;cases c
    .rw[F x o L G]at c;cases c
  .exact g j x c
theorem pD.app{c:MH}{hx:PH}{us:ca}{e:Sl}{Q:MH->Prop}(f:∃o,m b=some o)(t:Ds m c b)(o:pD m c b us)(u:us.length<=502633886983)(z:∀m',Ds m m' b->pD m m' b (us++[e])->Q m'):
 ∃y:Sl,aJ c hx b 0 [dT y]/\∃xs:List bm,cR c (Sl.mk y.a y.len y.cap) 100 1 xs/\(xs.length+1)*24<=140737488355328/\xs.length<140737488355328/\∀(j:Sl)(m':MH),eK c m' (Sl.mk y.a y.len y.cap) j 100 1 (xs++[[dT e]])->
  ∃(cs:Array Value)(E:TypeId),Lo m' b (.cells cs E (0,0))/\0<cs.size/\∀m2:MH,gG m' m2 b (.cells (Array.mk (dT j::cs.toList.drop 1)) E (0,0))->Q m2:=by
 obtain⟨s,n,d,g⟩:=o.ex;exact⟨s,.of_m n rfl,Il f t n d g u z⟩
theorem cE.sub{hx:PH}{r:CV}(sub:Sub m m')(le:PH.le h hx)(c:K r m hx):cE h K r m' hx:=λ_=>⟨m,hx,sub,le,λ_ _ _ e=>.inl e,c⟩
theorem cE.row{hx:PH}{s:Sl}{us:ca}(sub:Sub m m')(le:PH.le h hx)(o:cR m' s 100 1 (us.map eS))(D:∀i b,s.a=some ⟨b,i,none⟩->m b=none)(t:∀h',PH.le hx h'->cZ h' s 1 (us.map eS)->K (cS s) m h'):cE h K (cS s) m' hx:=by
 intro E;rcases o.ex with⟨rfl,g⟩|⟨b,F,f,rfl,y,G,P,Q,H⟩
 .refine⟨m,hx,sub,le,λb i v e=>.inl e,t hx (.refl _) ?_⟩;rw[g];exact cZ.nil _ _
 .have z:∀i,hx b i=none:=E b _ y;refine⟨m,nG hx b f.toList,sub,le.trans (CK z),λA i v e=>?_,t _ (CK z) ⟨?_,?_,?_⟩⟩
  .by_cases B:A=b
   .subst B;simp only[nG,if_true]at e;exact .inr ⟨f,100,(0,0),y,by rw[<-Array.getElem?_toList];exact e,D 0 A rfl⟩
   .simp only[nG,if_neg B]at e;exact .inl e
  .simp
  .by_cases I:us.map eS=[]
   .exact .inl I
   .refine .inr ⟨b,0,rfl,λi e c=>⟨λj v n=>?_⟩⟩;have J:=o.rows.len e (mem_of_getElem? c);have L:j=0:=by have:=(List.getElem?_eq_some_iff.1 n).1;omega
    subst L;have M:=(List.getElem?_eq_some_iff.1 c).1
    have C:((us.map eS).flatten)[i]? =some v:=by
     rw[getElem?_map]at c;cases d:us[i]? with
     |none=>rw[d]at c;cases c
     |some u=>
      rw[d]at c;simp at c;subst c;simp[eS]at n;subst n
      have:∀l:ca,(l.map eS).flatten=l.map λu=>Value.slice u.a u.len u.cap:=λl=>by
       induction l with
       |nil=>rfl
       |cons a l O=>simp only[map_cons,flatten_cons,O];rfl
      rw[this,getElem?_map,d];rfl
    rw[<-H,getElem?_take,if_pos aC]at C;simp only[nG,if_true];rw[show 0+i*1+0=i by omega];exact C
  .exact G
structure pC(m:MH)(y:Nat)(ks:dc):Prop where
 ex:∃kk:dc,mH m y (kk.map λk=>(Value.string k,Value.bool true))/\∀k,k∈kk↔k∈ks
theorem pC.keep{y:Nat}{ks:dc}(s:pC m y ks)(d:m' y=m y):pC m' y ks:=by
 obtain⟨e,⟨f,c,g,j,n,o⟩,t⟩:=s.ex;exact⟨e,⟨f,c,by rw[d];exact g,j,n,o⟩,t⟩
theorem pC.new{y:Nat}(h:m y=some (.map #[] 0)):pC m y []:=⟨[],⟨#[],0,h,rfl,bg,bg⟩,bg⟩
theorem pC.get{y:Nat}{ks:dc}{key:ByteArray}{K:Bool->Prop}(s:pC m y ks)(g:∀t:Bool,(t=true↔key∈ks)->K t):
 ∃(d:de)(Ok:Value->Prop),mJ m y (d.map λp=>(p.1,Value.bool p.2))/\KeyLaw Tryz.prog 9 Ok/\Ok (.string key)/\(∀e,List.Mem e d->Ok e.1)/\((∀e,List.Mem e d->e.1=Value.string key->False)->K false)/\∀t,List.Mem (Value.string key,t) d->K t:=by
 obtain⟨j,⟨u,c,z,A,_,_⟩,n⟩:=s.ex;refine⟨j.map λk=>(Value.string k,true),_,⟨u,c,z,by rw[A];simp⟩,Dy,⟨key,rfl⟩,λe B=>?_,λC=>g false ⟨λe=>(by cases e),λf=>?_⟩,λt o=>g t ⟨λ_=>?_,λ_=>?_⟩⟩
 .obtain⟨k,_,rfl⟩:=mem_map.1 (show e∈_ from B);exact⟨k,rfl⟩
 .exact(C (Value.string key,true) (mem_map.2 (⟨key,(n key).2 f,rfl⟩:∃a,a∈j/\(Value.string a,true)=(Value.string key,true))) rfl).elim
 .obtain⟨k,f,e⟩:=mem_map.1 (show(Value.string key,t)∈_ from o);simp only[Prod.mk.injEq,Value.string.injEq]at e;rw[<-e.1];exact(n k).1 f
 .obtain⟨k,f,e⟩:=mem_map.1 (show(Value.string key,t)∈_ from o);simp only[Prod.mk.injEq]at e;exact e.2.symm
theorem Uj(key:ByteArray):Instr.sameBits 10000 (Value.string key) (Value.string key)=true:=by
 show(key==key)=true;cases key with
 |mk d=>exact beq_self_eq_true d
theorem pC.put{y:Nat}{ks:dc}{key:ByteArray}{Q:MH->Prop}(s:pC m y ks)(A:∀m':MH,iH m m' y->pC m' y (key::ks)->Q m'):
 ∃(c:cd)(Ok:Value->Prop),mH m y c/\KeyLaw Tryz.prog 9 Ok/\Ok (.string key)/\Instr.sameBits 10000 (Value.string key) (Value.string key)=true/\(∀e,List.Mem e c->Ok e.1)/\((∀e,List.Mem e c->e.1=Value.string key->False)->∀m':MH,iH m m' y->mH m' y (c++[(Value.string key,Value.bool true)])->Q m')/\
  ∀(n:cd)(g:Value)(o:cd),c=n++(Value.string key,g)::o->∀m':MH,iH m m' y->mH m' y (n++(Value.string key,Value.bool true)::o)->Q m':=by
 obtain⟨j,B,t⟩:=s.ex;refine⟨_,_,B,Dy,⟨key,rfl⟩,Uj key,λe C=>?_,λE m' u d=>A m' u ⟨j++[key],bj d,λk=>?_⟩,λn g o e m' u d=>A m' u ⟨j,?_,λk=>?_⟩⟩
 .obtain⟨k,_,rfl⟩:=mem_map.1 (show e∈_ from C);exact⟨k,rfl⟩
 .simp[t,or_comm]
 .have:(Value.string key,g)∈j.map λk=>(Value.string k,Value.bool true):=by rw[e];simp
  obtain⟨k,_,f⟩:=mem_map.1 this;simp only[Prod.mk.injEq]at f;rw[<-f.2]at e;rw[e];exact d
 .have:(Value.string key,g)∈j.map λk=>(Value.string k,Value.bool true):=by rw[e];simp
  obtain⟨D,z,f⟩:=mem_map.1 this;simp only[Prod.mk.injEq,Value.string.injEq]at f;rw[t];constructor
  .exact mem_cons_of_mem _
  .intro h;rcases mem_cons.1 h with rfl|h
   .rw[<-f.1];exact(t D).1 z
   .exact h
theorem tW.get{t:Sl}{d:ck}{ls:List bt}(a:tW h t d ls){l:bt}(f:ls[i]? =some l):∃b off x,t.a=some ⟨b,off,none⟩/\(i:Int)<(t.len:Int)/\bT h b (off+i) [PS x]/\P4 h x l:=by
 have g:=(List.getElem?_eq_some_iff.1 f).1;have j:d[i]? =some (d[i]'(by rw[a.len];exact g)):=getElem?_eq_getElem _;obtain⟨b,o,e,rd⟩:=a.row.get (i:=i) (e:=[PS (d[i]'(by rw[a.len];exact g))]) (by simp[j]);have c:=a.row.len;simp only[length_map]at c;have:=a.len;exact⟨b,o,_,e,aC,bj rd,a.at_ i _ l j f⟩
theorem eE.at'{us:ca}{rs:bt}(x:eE h us rs){u:Sl}(c:us[i]? =some u):∃r,rs[i]? =some r/\bP h u r:=by
 have d:=(List.getElem?_eq_some_iff.1 c).1;obtain⟨v,e,f⟩:=x.at_ i _ (getElem?_eq_getElem (by rw[<-x.len];exact d));rw[c]at e;cases e;exact⟨_,getElem?_eq_getElem (by rw[<-x.len];exact d),f⟩
theorem iG{α:Type}{l:List α}{x:α}(p:α->Bool)(hx:l[k]? =some x):(l.take (k+1)).filter p=(l.take k).filter p++(if p x then[x]else[]):=by
 rw[take_add_one,hx,Option.toList_some,filter_append];congr 1;cases e:p x<;>simp[e]
theorem Sub.x{d f:MH}(h:Sub m d)(g:m b=none)(hx:Ds d f b):Sub m f:=λx o c=>hx x o (h x o c) (λe=>by rw[e,g]at c;cases c)
def G9(n:Nat):Query->List bt->Prop:=λ_ c=>n<=c.length/\∀l∈c,∃w,gR w l
def Jr(q:Query)(ls:List bt):bt:=match q with|.mk _ _ w _ _ _ _ _ _=>(ls.getD 0 []).filter λr=>lM r w
theorem E0{ls:List bt}{i:Nat}(h:i<ls.length):ls[i]? =some (ls.getD i []):=by
 rw[getD_eq_getElem?_getD,getElem?_eq_getElem h];rfl
theorem Hg{f:FuncId}{fn:Func}(n:Tryz.prog.funcs[f]? =some fn){S:Vc.Spec}(j:∀c m h K,S c m h K->∃C:Ctx,C.P=Tryz.prog/\(∀g S,assoc C.specs g=some S->bk g S)/\∃N:Prop,N=Zz C fn (cC fn) (entry fn.ntmps c m h) (cE h K)/\N)(o:fn.body=some (cC fn):=by rfl)(d:(fn.name== "runtime.NumGoroutine")=false:=by decide):bk f S:=W6 n o d λc m h K t=>let⟨C,hC,hs,N,e,hn⟩:=j c m h K t;⟨C,hC,hs,e▸hn⟩
theorem Xx:bk 206 (TX (G9 1) Jr):=by
 refine Hg func206 ?_;rintro a' m h K ⟨v,t,q,bs,ls,rfl,hq,ha,_,A,M⟩;refine⟨Tv [(122,Y5)] [] [] [200002,200005,1068],rfl,aD O3 aF,KO v t m h (cE h K),bf,?_⟩;show KO v t m h (cE h K);dsimp only[KO,push_cast];intro b m1 O B D P E n;have g:Sub m m1:=(Sub.refl m).upd O.m_ B.other
 have F:m D=none:=by
  cases e:m D with
  |none=>rfl
  |some o=>have G:=g D o e;rw[E.m_]at G;cases G
 have j:Sub m P:=g.upd F n.other;have H:b≠D:=λe=>by have:=E.m_;rw[<-e,B.at_]at this;cases this
 obtain⟨b3,Q,x,ea,a0,rd,Y⟩:=ha.get (E0 (i:=0) (by have:=A.1;omega));obtain⟨Z,u,C⟩:=Y.ex;obtain⟨op,ta,w,co,on,gr,od,li,args⟩:=q;have xq:=hq.parts;obtain⟨wd,z⟩:=A.2 _ (mem_of_getElem? (E0 (i:=0) (by have:=A.1;omega)));simp only[Jr]at M;generalize ls.getD 0 []=l at u C M z Y;have R:=C.len;have a1:=z.len;refine⟨b3,Q,ea,aC,aC,x,.imm rd,yP,Z,λk L S=>S=h/\Ds P L D/\∃c,pD P L D c/\c.length<=k/\eE h c ((l.take k).filter λr=>lM r w),xF,⟨x,Z,rfl,u,rfl⟩,⟨rfl,λx o e _=>e,[],pD.new n.at_,bg,bj (eE.nil h)⟩,?_,?_⟩
 .rintro k e L S hk-⟨rfl,I,c,d,T,f⟩
  obtain⟨r,hr,hv⟩:=C.at' hk;have a2:=(List.getElem?_eq_some_iff.1 hk).1;refine⟨v.where_,.of_m (I b _ (by rw[n.other b H];exact B.at_) H) rfl,v.where_,e,w,r,rfl,xq.where_,hv,aB (λht=>?_) (λhf=>?_)⟩
  .refine pD.app ⟨_,n.at_⟩ I d aC (λm' U V=>⟨rfl,U,c++[e],V,by simp;omega,?_⟩);rw[iG _ hr,if_pos ht];exact f.snoc hv
  .refine⟨rfl,I,c,d,aC,?_⟩;rw[iG _ hr,if_neg (by simp[hf]),append_nil];exact f
 .rintro L S-⟨rfl,I,c,d,T,f⟩
  rw[R,take_length]at f;obtain⟨s,hb,J,W⟩:=d.ex;refine⟨s,.of_m hb rfl,cE.row (j.x F I) (.refl _) J (λi y e=>?_) (λh' le X=>M s h' le ((f.mono le).rows X (by have:=f.len;omega)))⟩;cases e2:m y with
  |none=>rfl
  |some o=>have G:=W i y e;rw[j y o e2]at G;cases G
theorem eE.app{us vs:ca}{a b:bt}(x:eE h us a)(y:eE h vs b):eE h (us++vs) (a++b):=by
 refine⟨by simp[x.len,y.len],λj r c=>?_⟩;have f:=x.len;by_cases g:j<a.length
 .rw[getElem?_append_left g]at c;obtain⟨u,d,e⟩:=x.at_ j r c;exact⟨u,by rw[getElem?_append_left aC];exact d,e⟩
 .rw[getElem?_append_right aC]at c;obtain⟨u,d,e⟩:=y.at_ _ r c;exact⟨u,by rw[getElem?_append_right aC,f];exact d,e⟩
def SE(_:Query)(ls:List bt):bt:=Fe (ls.getD 0 []++ls.getD 1 [])
theorem Xt:bk 210 (TX (G9 2) SE):=by
 refine ED func210 ?_;rintro U m h K ⟨v,t,q,bs,ls,rfl,_,Q,_,c,V⟩;refine⟨dG [(238,Ww),(237,TV),(123,baJ)] [] [] [] false,rfl,aD Xj (aD OK (aD EK aF)),KK v t m h (kA h K),bf,?_⟩;show KK v t m h (kA h K);dsimp only[KK,push_cast];have h2:=c.1;obtain⟨b,D,x,W,X,rd,Y⟩:=Q.get (E0 (i:=0) aC);obtain⟨Z,j,R,E,S,d,F⟩:=Q.get (E0 (i:=1) aC);obtain⟨G,n,u⟩:=Y.ex;obtain⟨z,f,A⟩:=F.ex;obtain⟨_,B⟩:=c.2 _ (mem_of_getElem? (E0 (i:=0) aC));obtain⟨_,g⟩:=c.2 _ (mem_of_getElem? (E0 (i:=1) aC));have l1:=B.len;have l2:=g.len;have l3:=u.len;refine⟨b,D,W,aC,aC,x,.imm rd,Z,j,E,aC,aC,R,.imm d,d,x,G,rfl,n,λs1 m1 H I J=>⟨rd,s1,R,G,z,rfl,H,f,aC,λs2 m2 L M a'=>⟨rd,d,s2,G++z,_,rfl,L.src,u.app A,by rw[length_append];omega,λs3 T C O=>?_⟩⟩⟩;refine⟨m,T,λy o P=>M y o (I y o P) (λi e=>?_),C,.refl _,V s3 T C O⟩;rw[J y i e]at P;cases P
def Ux(q:Query)(ls:List bt):bt:=match q with|.mk _ _ _ co _ _ _ _ _=>Fe ((ls.getD 0 []).map λr=>pick r co)
def Kf(q:Query)(ls:List bt):Prop:=match q with|.mk _ _ _ co _ _ _ _ _=>1<=ls.length/\co.length<=12/\∃w,gR w (ls.getD 0 [])/\hZ w co
theorem UA{r:bu}{y:VV}(d:(pick r co)[i]? =some y)(e:i<co.length):((pick r co).take i++replicate (co.length-i) zeroV).set i y=(pick r co).take (i+1)++replicate (co.length-(i+1)) zeroV:=by
 have c:(pick r co).length=co.length:=by simp[pick]
 rw[set_append,if_neg (by simp;omega)];rw[take_add_one,d,Option.toList_some,append_assoc];congr 1;rw[show co.length-i=(co.length-(i+1))+1 by omega,replicate_succ];simp[c,Nat.min_eq_left (Nat.le_of_lt e)]
theorem Ql{r:bu}(d:i<co.length):(((pick r co).take i++replicate (co.length-i) zeroV).map VV.enc)[i]? =some (VV.enc zeroV):=by
 have c:(pick r co).length=co.length:=by simp[pick]
 rw[getElem?_map,getElem?_append_right (by simp;omega),getElem?_replicate,if_pos (by simp;omega)];rfl
theorem Xw:bk 207 (TX Kf Ux):=by
 refine Hg func207 ?_;rintro b7 m h K ⟨v,t,q,bs,ls,rfl,hq,ha,_,a',hK⟩;refine⟨aTJ,rfl,aD EK aF,KN v t m h (cE h K),bf,?_⟩;show KN v t m h (cE h K);dsimp only[KN,push_cast];obtain⟨op,ta,w,co,on,gr,od,li,args⟩:=q;obtain⟨b8,b9,wd,f,G⟩:=a';intro b m1 a0 H C m2 O A;have g:Sub m m1:=(Sub.refl m).upd a0.m_ H.other
 have P:m C=none:=by
  cases e:m C with
  |none=>rfl
  |some o=>have Q:=g C o e;rw[O.m_]at Q;cases Q
 have I:Sub m m2:=g.upd P A.other;have R:b≠C:=λe=>by have:=O.m_;rw[<-e,H.at_]at this;cases this
 obtain⟨b3,a1,x,ea,c',rd,sq⟩:=ha.get (E0 (i:=0) aC);obtain⟨us,D,J⟩:=sq.ex;have xq:=hq.parts;have a2:=xq.columns_.slen;simp only[Ux]at hK;generalize ls.getD 0 []=l at D J hK f sq;have a3:=J.len;have c0:=f.len;refine⟨b3,a1,ea,aC,aC,x,.imm rd,yP,us,λk L E=>PH.le h E/\Ds m2 L C/\∃d,pD m2 L C d/\d.length<=k/\eE E d ((l.take k).map λr=>pick r co),xF,⟨x,us,rfl,D,rfl⟩,⟨.refl _,λx o e _=>e,[],pD.new A.at_,bg,bj (eE.nil h)⟩,?_,?_⟩
 .rintro k e L E hk-⟨le,Y,d,j,a4,B⟩
  obtain⟨r,hr,hv⟩:=J.at' hk;have c1:=(List.getElem?_eq_some_iff.1 hk).1;have S:L b=some (.cells ⟨v.enc⟩ 35 (0,0)):=Y b _ (by rw[A.other b R];exact H.at_) R;have a5:=f.wid r (mem_of_getElem? hr);have T:=bP.mono hv le;have c2:=bN.slen T;have a6:(pick r co).length=co.length:=by simp[pick]
  refine⟨v.columns,.of_m S rfl,aC,aC,aC,aC,v.columns,.of_m S rfl,λz=>z.1<=co.length/\z.2.1=C/\z.2.2.1=e/\z.2.2.2.1=v.columns/\z.2.2.2.2.1=(pick r co).take z.1++replicate (co.length-z.1) zeroV/\z.2.2.2.2.2.1=L/\z.2.2.2.2.2.2=E,λz=>co.length-z.1,⟨(0,C,e,v.columns,replicate co.length zeroV,L,E),⟨bg,rfl,rfl,rfl,bg,rfl,rfl⟩,?_⟩,?_⟩
  .dsimp only;rw[map_replicate,show((v.columns.len:Int)).toNat=co.length by omega];exact MT
  .rintro⟨i,bb,ee,cc,cells,my,hy⟩ ⟨hi,Q,e2,e3,Z,e5,e6⟩;dsimp only at hi Q e2 e3 Z e5 e6;subst Q e2 e3 Z e5 e6;refine aE (λF=>?_) (λa7=>?_)
   .dsimp only at F⊢
    obtain⟨c,U⟩:=eN a2 F;obtain⟨b4,o4,Z,a8⟩:=(xq.columns_.mono le).at U;obtain⟨y,a9,b',h0,h1⟩:=Ik (r:=r) (by rw[a5];exact G) U;obtain⟨b5,o5,y',e5,b0,rfl⟩:=bN.at T a9;have V:i<co.length:=by omega
    have W:=UA b' V;refine⟨b4,o4,Z,aC,aC,c,.imm (bj a8),b5,o5,e5,h0,aC,y,.imm b0,aC,by simp;omega,_,Ql V,by simp[VV.enc],(i+1,bb,ee,v.columns,(pick r co).take (i+1)++replicate (co.length-(i+1)) zeroV,my,hy),⟨by dsimp only;omega,rfl,rfl,rfl,rfl,rfl,rfl⟩,(by dsimp only;omega),?_⟩;dsimp only;refine⟨rfl,rfl,rfl,rfl,rfl,by rw[iJ aC],?_,rfl,rfl,trivial⟩;rw[<-W,map_set];rfl
   .dsimp only at a7⊢
    have:i=co.length:=by omega
    subst this;rw[take_of_length_le aC,Nat.sub_self,replicate_zero,append_nil];obtain⟨s,hb,n,X⟩:=j.ex;refine⟨s,.of_m hb rfl,λs3 h3 u M=>Il ⟨_,A.at_⟩ Y hb n X aC (λm' b1 b6=>⟨le.trans u,b1,d++[s3],b6,by simp;omega,?_⟩)⟩
    have e6:(l.take (k+1)).map (λr=>pick r co)=(l.take k).map (λr=>pick r co)++[pick r co]:=by
     rw[take_add_one,hr];simp
    rw[e6];exact(B.mono u).snoc ⟨⟨_,M,rfl,λi x E=>⟨x,E,rfl⟩⟩,by rw[a6];omega⟩
 .rintro L E-⟨le,Y,d,j,a4,B⟩
  rw[a3,take_length]at B;obtain⟨s,hb,n,X⟩:=j.ex;refine⟨s,.of_m hb rfl,s,d,_,rfl,n.src,B,by simp;omega,λs3 h3 u M=>cE.sub (I.x P Y) (le.trans u) (hK s3 h3 (le.trans u) M)⟩
theorem gH{m0:MH}{o:Obj}(c:Sub m0 m)(g:bW m h b)(j:gG m m' b o):Sub m0 m'/\m0 b=none:=by
 have d:m0 b=none:=by
  cases e:m0 b with
  |none=>rfl
  |some x=>have f:=c b x e;rw[g.m_]at f;cases f
 exact⟨c.upd d j.other,d⟩
theorem mem_keys{l:bt}{w k:Nat}{x:bu}(f:gR w l)(hx:Mq x)(g:x.length=w):dP x∈(l.take k).map dP↔x∈l.take k:=by
 constructor
 .intro h;obtain⟨y,d,e⟩:=mem_map.1 h;have c:=mem_of_mem_take d;rw[(Oj (by rw[f.wid y c,g]) (f.row y c).val hx.val).1 e]at d;exact d
 .exactλh=>mem_map.2 ⟨x,h,rfl⟩
theorem OJ:bk 239 TU:=by
 refine Hg func239 ?_;rintro d1 m h K ⟨t,i,bs,ls,w,rfl,ha,hT,h2,a3,hK⟩;refine⟨Tv [(251,abJ)] [] [] [200003,200005,200007,1068,400000,0],rfl,aD Xf aF,KH t i m h (cE h K),bf,?_⟩;show KH t i m h (cE h K);dsimp only[KH,push_cast];intro n m1 b8 H d m2 Y I B m3 Z R;obtain⟨s1,n3⟩:=gH (Sub.refl m) b8 H;obtain⟨s2,ny⟩:=gH s1 Y I;obtain⟨s3,n5⟩:=gH s2 Z R;refine⟨_,_,⟨R.at_⟩,bg,λm4 S=>?_⟩;have s4:Sub m m4:=s3.upd n5 S.other;have f:d≠B:=λe=>by have:=Z.m_;rw[<-e,I.at_]at this;cases this
 have V:n≠B:=λe=>by have:=Z.m_;rw[<-e,I.other n (λg=>by have:=Y.m_;rw[<-g,H.at_]at this;cases this),H.at_]at this;cases this
 have T:n≠d:=λg=>by have:=Y.m_;rw[<-g,H.at_]at this;cases this
 have b9:m4 d=some (.map #[] 0):=by rw[S.other d f,R.other d f];exact I.at_
 have a':m4 n=some (.cells #[.bool i] 4 (0,0)):=by rw[S.other n V,R.other n V,I.other n T];exact H.at_
 have U:m4 B=some (.cells #[.map (some d)] 182 (0,0)):=S.at_;obtain⟨b,c',x,ea,d2,rd,sq⟩:=ha.get (E0 (i:=1) aC);obtain⟨a4,a0,J⟩:=sq.ex;have C:=a3 _ (mem_of_getElem? (E0 (i:=1) aC));have u:=a3 _ (mem_of_getElem? (E0 (i:=0) aC));obtain⟨b6,a5,x6,c0,d0,c1,a6⟩:=ha.get (E0 (i:=0) aC);obtain⟨us,a7,a1⟩:=a6.ex;generalize ls.getD 1 []=W at J C hK sq;generalize ls.getD 0 []=l at a1 u hK a6;have c2:=a1.len;have d3:=u.len;have a8:=J.len;refine⟨b,c',ea,aC,aC,x,.imm rd,yP,a4,λk mx hx=>hx=h/\(∀z o,m4 z=some o->z≠d->mx z=some o)/\pC mx d ((W.take k).map dP),xF,⟨x,a4,rfl,a0,rfl⟩,⟨rfl,λz o e _=>e,bj (pC.new b9)⟩,?_,?_⟩
 .rintro k e mx hx hk-⟨rfl,L,M⟩
  obtain⟨r,hr,hv⟩:=J.at' hk;have O:=mem_of_getElem? hr;have r5:aJ mx hx B 0 [Value.map (some d)]:=.of_m (L B _ U (Ne.symm f)) rfl;refine⟨d,r5,r5,e,r,rfl,hv,C.row r O,hT.sub (λz o g=>L z o (s4 z o g) (λX=>by rw[X,ny]at g;cases g)),r5,M.put (λm' a2 a9=>⟨rfl,λz o g b'=>by rw[a2.other z b'];exact L z o g b',?_⟩)⟩;obtain⟨kk,h5,h6⟩:=a9.ex;exact⟨kk,h5,λq=>by rw[h6,take_add_one,hr];simp[or_comm]⟩
 .rintro mx hx-⟨rfl,L,M⟩ b7 m5 b0 F;rw[a8,take_length]at M;have s5:Sub m mx:=λz o g=>L z o (s4 z o g) (λX=>by rw[X,ny]at g;cases g);obtain⟨s6,n7⟩:=gH s5 b0 F;have P:∀z o,mx z=some o->z≠b7:=λz o g X=>by rw[X,b0.m_]at g;cases g
  have y7:d≠b7:=by
   obtain⟨kk,⟨es,c,Q,_⟩,_⟩:=M.ex;exact P d _ Q
  have c3:m5 B=some (.cells #[.map (some d)] 182 (0,0)):=by rw[F.other B (P B _ (L B _ U (Ne.symm f)))];exact L B _ U (Ne.symm f)
  have c4:m5 n=some (.cells #[.bool i] 4 (0,0)):=by rw[F.other n (P n _ (L n _ a' T))];exact L n _ a' T
  have b1:pC m5 d (W.map dP):=M.keep (F.other d y7);have c5:B≠b7:=P B _ (L B _ U (Ne.symm f));have c6:n≠b7:=P n _ (L n _ a' T);refine⟨b6,a5,c0,aC,aC,x6,.imm c1,yP,us,λk my hy=>hy=hx/\Ds m5 my b7/\∃D,pD m5 my b7 D/\D.length<=k/\eE hx D ((l.take k).filter λz=>LW W z==i),xF,⟨x6,us,rfl,a7,rfl⟩,⟨rfl,λz o e _=>e,[],pD.new F.at_,bg,bj (eE.nil hx)⟩,?_,?_⟩
  .rintro k e my hy hk-⟨rfl,A,D,E,c7,G⟩
   obtain⟨r,hr,hv⟩:=a1.at' hk;have d4:=(List.getElem?_eq_some_iff.1 hk).1;have O:=mem_of_getElem? hr;have r5:aJ my hy B 0 [Value.map (some d)]:=.of_m (A B _ c3 c5) rfl;have r3:aJ my hy n 0 [Value.bool i]:=.of_m (A n _ c4 c6) rfl
   have b2:pC my d (W.map dP):=by
    obtain⟨kk,⟨es,c,Q,h2,h3,h4⟩,h5⟩:=b1.ex;exact⟨kk,⟨es,c,A d _ Q y7,h2,h3,h4⟩,h5⟩
   have key:∀t:Bool,(t=true↔dP r∈W.map dP)->t=LW W r:=λt ht=>by
    have Q:=mem_keys (k:=W.length) C (u.row r O) (u.wid r O);rw[take_length]at Q;rw[Q]at ht;cases t
    .cases g:LW W r with
     |false=>rfl
     |true=>exact ht.2 (Nb.1 g)
    .exact(Nb.2 (ht.1 rfl)).symm
   refine⟨d,r5,i,r3,r5,r3,e,r,rfl,hv,u.row r O,hT.sub (s6.x n7 A),r5,r3,r3,b2.get (K:=λt=>branch (t==i) _ _) (λt ht=>?_)⟩;have X:=key t ht;refine aB (λQ=>?_) (λQ=>?_)
   .refine pD.app ⟨_,F.at_⟩ A E aC (λm' a2 c8=>⟨rfl,a2,D++[e],c8,by simp;omega,?_⟩);rw[iG _ hr,if_pos (by rw[<-X];exact Q)];exact G.snoc hv
   .refine⟨rfl,A,D,E,aC,?_⟩;rw[iG _ hr,if_neg (by rw[<-X,Q];simp),append_nil];exact G
  .rintro my hy-⟨rfl,A,D,E,c7,G⟩
   rw[c2,take_length]at G;obtain⟨s,hb,b4,c9⟩:=E.ex;refine⟨s,.of_m hb rfl,cE.row (s6.x n7 A) (.refl _) b4 (λj y e=>?_) (λh' le d'=>hK s h' le ((G.mono le).rows d' (by have:=G.len;omega)))⟩;cases g:m y with
   |none=>rfl
   |some o=>have e1:=c9 j y e;rw[s6 y o g]at e1;cases e1
def AE(_:Query)(ls:List bt):Prop:=2<=ls.length/\∃w,∀l∈ls,gR w l
def S7(_:Query)(ls:List bt):bt:=(ls.getD 0 []).filter λx=>LW (ls.getD 1 []) x==false
def Tg(_:Query)(ls:List bt):bt:=(ls.getD 0 []).filter λx=>LW (ls.getD 1 []) x==true
theorem Xs:bk 211 (TX AE S7):=by
 refine iB func211 ?_;rintro d m h K ⟨v,t,q,e,f,rfl,_,g,j,⟨n,w,c⟩,o⟩;refine⟨dG [(239,TU)] [] [] [] false,rfl,aD OJ aF,auJ v t m h K,bf,?_⟩;exact⟨t,false,e,f,w,rfl,g,j,n,c,o⟩
theorem Xr:bk 212 (TX AE Tg):=by
 refine iB func212 ?_;rintro d m h K ⟨v,t,q,e,f,rfl,_,g,j,⟨n,w,c⟩,o⟩;refine⟨dG [(239,TU)] [] [] [] false,rfl,aD OJ aF,auZ v t m h K,bf,?_⟩;exact⟨t,true,e,f,w,rfl,g,j,n,c,o⟩
def jZ:bz->bu->bu->Int
 |[],a,b=>eC a b
 |(c,d)::r,a,b=>if 0<=c/\c<a.length/\c<b.length then(if lZ (a.getD c.toNat zeroV) (b.getD c.toNat zeroV)≠0 then(if d then-lZ (a.getD c.toNat zeroV) (b.getD c.toNat zeroV)else lZ (a.getD c.toNat zeroV) (b.getD c.toNat zeroV))else jZ r a b)else jZ r a b
def FW:Vc.Spec:=λc m h K=>∃o s t od a b,c=[cS o,cS s,cS t]/\gZ h o od/\bP h s a/\bP h t b/\K (cI (jZ od a b)) m h
def Ss:Vc.Spec:=λc m h K=>∃s t d v od a b,c=[cS s,cS t,cP d]/\m d=some (.cells ⟨QV.enc v⟩ 35 (0,0))/\gZ h v.order od/\bP h s a/\bP h t b/\K (cI (jZ od a b)) m h
def bDJ:Vc.Spec:=λc m h K=>∃i:Nat,∃d e f v od g s rs r x,c=[cI i,cP d,cP e,cP f]/\m d=some (.cells ⟨QV.enc v⟩ 35 (0,0))/\m e=some (.cells #[Sl.val g] 68 (0,0))/\m f=some (.cells #[Sl.val s] 100 (0,0))/\gZ h v.order od/\Rows h g rs/\bP h s r/\rs[i]? =some x/\
 K (cB (decide (jZ od x r>=0))) m h
def baX:Vc.Spec:=λd m h K=>∃(s:Sl)(e:Nat)(v:QV)(od:bz)(w:Nat)(ps:cv),d=[cS s,.val (.func (.func 252) #[] #[.pointer (some ⟨e,0,none⟩)])]/\m e=some (.cells ⟨QV.enc v⟩ 35 (0,0))/\(∀i,s.a≠some ⟨e,i,none⟩)/\gZ h v.order od/\cR m s 100 1 (ps.map λp=>eS p.1)/\(∀p∈ps,bP h p.1 p.2)/\(∀p∈ps,p.2.length=w)/\ps.length<=140737488355328/\
 ∀(c:cv)(m':MH),c.Perm ps->c.Pairwise (λp q=>¬jZ od q.2 p.2<0)->cR m' s 100 1 (c.map λp=>eS p.1)->(∀b,(∀i,s.a≠some ⟨b,i,none⟩)->m' b=m b)->K (.tup []) m' h
noncomputable def aZQ(o s t:Sl)(m:MH)(h:PH):Ctx:=
 dG [(166,Sw),(118,JU)] [(2,{A:=Nat,st:=λi=>bO 55 58 [(1,sv s),(2,sv t),(10,sv o),(11,iv o.len),(12,iv i)] [] m h})] [] [] false
def RJ(o s t:Sl)(m:MH)(h:PH)(K:bo):Prop:=
  nR (λI x=>aA (I x) (aH s) (aA (aH t) (aH o) (aA (bG o) (bC x) (aA (m=m) (h=h) True)))) (λI d x=>I x->aZ (↑x:Int) (aG o) (aK (λb f=>aA (aL o.a b f) (0<=(↑x:Int)) ((↑x:Int)<aG o/\∃(y:Int×Bool),aJ m h b (bK f x 2) (zR y)/\aZ y.1 0 (∃(c:Nat),aA (I c) (d c<d x) (aA (aH s) (aH t) (aA (aH o) (bG o) (aA (bD (fP (bE x 1)) c) (m=m) (bX h h))))) (dN (decide (y.1>=aG s)) (∃(c:Nat),aA (I c) (d c<d x) (aA (aH s) (aH t) (aA (aH o) (bG o) (aA (bD (fP (bE x 1)) c) (m=m) (bX h h))))) (decide (y.1>=aG t)) (∃(c:Nat),aA (I c) (d c<d x) (aA (aH s) (aH t) (aA (aH o) (bG o) (aA (bD (fP (bE x 1)) c) (m=m) (bX h h))))) (aK (λg j=>aA (aL s.a g j) (0<=
 y.1) (y.1<aG s/\∃(n:VV),aJ m h g (fX j y.1 3) n.enc/\aK (λu z=>aA (aL t.a u z) (0<=y.1) (y.1<aG t/\∃(A:VV),aJ m h u (fX z y.1 3) A.enc/\∃(a e:VV),jT n.enc A.enc=jT a.enc e.enc/\dN (lZ a e==0) (∃(c:Nat),aA (I c) (d c<d x) (aA (aH s) (aH t) (aA (aH o) (bG o) (aA (bD (fP (bE x 1)) c) (m=m) (bX h h))))) y.2 (K (fQ (eT (0-lZ a e))) m h) (K (fQ (lZ a e)) m h)))))))))) (∃(B:Sl),oA (λC a=>∃(b:bu),aA (cA s t=cA B C) (bP h B a) (bP h C b/\K (fQ (eC a b)) m h))))
abbrev ID(a b c d e g:Sl)(i:PH)(j:bz)(k:bu->bu->Prop):Prop:=∃(x f:bu),aA (cN a (cA b c)=cN d (cA e g)) (gZ i d j) (aA (bP i e x) (bP i g f) (k x f))
attribute [push_cast] ID
def atQ(s t:Sl)(d:Nat)(m:MH)(h:PH)(K:bo):Prop:=
  rI m h d 18 (λy o=>mS (λe f=>∃(c:bz),ID y s t o e f h c (λa b=>K (fQ (jZ c a b)) m h)))
abbrev SZ(a:Sl->bz->Prop):Prop:=∃(x:Sl)(c:bz),a x c
attribute [push_cast] SZ
def Q8(i:Nat)(g d j:Nat)(m:MH)(h:PH)(K:bo):Prop:=
  rI m h g 18 (λy c=>aJ m h d 0 (aM c)/\aK (λb o=>aA (aL c.a b o) (0<=(↑i:Int)) ((↑i:Int)<aG c/\rI m h b (bK o i 1) (λn e=>aA (aJ m h j 0 (aM e)) (aJ m h d 0 (aM c)) (mS (λu s=>SZ (λt f=>ID y n e u s t h f (λa z=>aJ m h d 0 (aM c)/\K (Ah (decide (jZ f a z>=0))) m h))))))))
theorem YN(a b:VV): -1<=lZ a b/\lZ a b<=1:=by
 have c:∀x y:Int, -1<=BY x y/\BY x y<=1:=λx y=>by unfold BY;split<;>(try split)<;>omega
 have g:=(Oh a.text.data.toList b.text.data.toList).2;have d: -1<=P2 a.text b.text/\P2 a.text b.text<=1:=by unfold P2;omega
 have e:=c a.kind b.kind;have f:=c a.int b.int;unfold lZ;split
 .exact e
 .split
  .exact f
  .exact d
theorem aCQ{c:Int}{d:Bool}{r:bz}{a b:bu}(h:¬(0<=c/\c<a.length/\c<b.length)):jZ ((c,d)::r) a b=jZ r a b:=by
 rw[jZ,if_neg h]
theorem bCQ{c:Int}{d:Bool}{r:bz}{a b:bu}{x y:VV}(f:0<=c)(hx:a[c.toNat]? =some x)(e:b[c.toNat]? =some y):jZ ((c,d)::r) a b=if lZ x y≠0 then(if d then-lZ x y else lZ x y)else jZ r a b:=by
 have g:=(List.getElem?_eq_some_iff.1 hx).1;have j:=(List.getElem?_eq_some_iff.1 e).1;rw[jZ,if_pos ⟨f,aC,aC⟩];rw[getD_eq_getElem?_getD,getD_eq_getElem?_getD,hx,e];rfl
theorem EJ:bk 136 FW:=by
 refine iB func136 ?_;rintro M m h K ⟨o,s,t,od,a,b,rfl,D,E,F,j⟩;refine⟨aZQ o s t m h,rfl,aD HG (aD BL aF),RJ o s t m h K,bf,?_⟩;dsimp only[RJ,push_cast];have G:=D.slen;have O:=D.len;have P:=bN.slen E;have Q:=bN.slen F;refine⟨λi=>i<=od.length/\jZ od a b=jZ (od.drop i) a b,λi=>od.length-i,⟨0,⟨aC,bg⟩,MT⟩,λi⟨hi,d⟩=>aE (λn=>?_) (λR=>?_)⟩
 .obtain⟨⟨c,B⟩,L⟩:=eN G n;obtain⟨S,T,U,V⟩:=D.row.get (i:=i) (e:=B7 (c,B)) (by simp[L]);rw[drop_cons L]at d
  have skip:¬(0<=c/\c<a.length/\c<b.length)->∃f:Nat,(λi=>i<=od.length/\jZ od a b=jZ (od.drop i) a b) f/\(λi=>od.length-i) f<(λi=>od.length-i) i/\eQ (sQs s)/\eQ (sQs t)/\eQ (sQs o)/\eQ (fP ↑o.len)/\fP (IntKind.i64.wrap ((i:Int)+1))=fP ↑f/\m=m/\h=h/\True:=λW=>
   ⟨i+1,⟨aC,by rw[d,aCQ W]⟩,(show od.length-(i+1)<od.length-i by omega),MT⟩
  refine⟨S,T,U,aC,n,(c,B),.imm V,aE (λH=>skip (λe=>by have:c<0:=H;omega)) (λH=>aE (λI=>skip (λe=>by have:c>=(s.len:Int):=I;omega)) (λI=>aE (λJ=>skip (λe=>by have:c>=(t.len:Int):=J;omega)) (λJ=>?_)))⟩;dsimp only at H I J⊢
  obtain⟨x,z⟩:∃x,a[c.toNat]? =some x:=⟨_,getElem?_eq_getElem aC⟩
  obtain⟨y,A⟩:∃y,b[c.toNat]? =some y:=⟨_,getElem?_eq_getElem aC⟩
  obtain⟨X,Y,u,Z,r2,rfl⟩:=bN.at E z;obtain⟨b3,o3,u,e3,r3,rfl⟩:=bN.at F A;rw[bCQ aC z A]at d;have a':=YN x y;refine⟨X,Y,Z,aC,aC,x,.imm r2,b3,o3,e3,aC,aC,y,.imm r3,x,y,rfl,aB (λC=>⟨i+1,⟨aC,?_⟩,(show od.length-(i+1)<od.length-i by omega),MT⟩) (λC=>aB (λg=>?_) (λg=>?_))⟩
  .rw[d,if_neg (bj C)]
  .have g:B=true:=g;rw[d,if_pos (bj C),if_pos g]at j;rw[eG aC aC,Int.zero_sub];exact j
  .have g:B=false:=g;rw[d,if_pos (bj C),if_neg (by simp[g])]at j;exact j
 .rw[d,drop_eq_nil_of_le aC,jZ]at j;exact⟨s,t,a,b,rfl,E,F,j⟩
theorem Xe:bk 252 Ss:=by
 refine iB func252 ?_;rintro c m h K ⟨s,t,d,v,od,a,b,rfl,e,f,g,j,n⟩;refine⟨pF [(136,FW)] [] [] [] [0] [] false,rfl,aD EJ aF,atQ s t d m h K,bf,?_⟩;exact⟨v.order,.of_m e rfl,v.order,s,t,od,a,b,rfl,f,g,j,n⟩
theorem Xi:bk 241 bDJ:=by
 refine iB func241 ?_;rintro j m h K ⟨i,n,e,o,v,od,g,s,rs,r,x,rfl,t,y,z,A,c,B,f,C⟩;refine⟨pF [(136,FW)] [] [] [] [0] [] false,rfl,aD EJ aF,Q8 i n e o m h K,bf,?_⟩;dsimp only[Q8,push_cast];have I:=bN.slen c;have J:=(List.getElem?_eq_some_iff.1 f).1;obtain⟨D,E,u,F,G,H⟩:=bN.at c f;have d:aJ m h e 0 [dT g]:=.of_m y rfl;exact⟨v.order,.of_m t rfl,g,d,D,E,F,aC,aC,u,.imm G,s,.of_m z rfl,d,v.order,u,s,od,x,r,rfl,A,H,B,d,C⟩
def JH(w:Nat):bz->bu->bu->Int
 |[],a,b=>eC a b
 |(c,d)::r,a,b=>if 0<=c/\c<w then(if(if d then-lZ (a.getD c.toNat zeroV) (b.getD c.toNat zeroV)else lZ (a.getD c.toNat zeroV) (b.getD c.toNat zeroV))≠0 then(if d then-lZ (a.getD c.toNat zeroV) (b.getD c.toNat zeroV)else lZ (a.getD c.toNat zeroV) (b.getD c.toNat zeroV))else JH w r a b)else JH w r a b
theorem CN{w:Nat}:∀{od:bz}{a b:bu},a.length=w->b.length=w->jZ od a b=JH w od a b
 |[],_,_,_,_=>rfl
 |(c,g)::r,a,b,d,f=>by
  rw[jZ,JH,d,f,CN (od:=r) d f];by_cases h:0<=c/\c<w
  .rw[if_pos ⟨h.1,h.2,h.2⟩,if_pos h];cases g<;>simp
  .rw[if_neg (λe=>h ⟨e.1,e.2.1⟩),if_neg h]
theorem Sx.neg{α:Type}{c:α->α->Int}(h:Sx c):Sx (λx y=> -c x y):=by
 refine⟨λx y=>by have:=h.anti x y;omega,λx y z d e=>?_⟩;have f:=h.anti x y;have g:=h.anti y z;have j:=h.anti x z;have:=h.trans z y x aC aC;omega
theorem JG(w:Nat):∀od,Sx (JH w od)
 |[]=>FL
 |(c,d)::r=>by
  have f:=JG w r;have g:Sx (λa b:bu=>lZ (a.getD c.toNat zeroV) (b.getD c.toNat zeroV)):=JI.of λa:bu=>a.getD c.toNat zeroV;by_cases h:0<=c/\c<w
  .have e:JH w ((c,d)::r)=λa b=>if(if d then-lZ (a.getD c.toNat zeroV) (b.getD c.toNat zeroV)else lZ (a.getD c.toNat zeroV) (b.getD c.toNat zeroV))≠0 then(if d then-lZ (a.getD c.toNat zeroV) (b.getD c.toNat zeroV)else lZ (a.getD c.toNat zeroV) (b.getD c.toNat zeroV))else JH w r a b:=by
    funext a b;rw[JH,if_pos h]
   rw[e];cases d
   .exact g.lex f
   .exact g.neg.lex f
  .have e:JH w ((c,d)::r)=JH w r:=by funext a b;rw[JH,if_neg h]
   rw[e];exact f
theorem V7{w:Nat}(od:bz):Sort.SWO (Go.Proofs.ltOf (fun(x y:E4 h (λl=>l.length=w))=>jZ od x.l y.l)):=by
 have e:(fun(x y:E4 h (λl=>l.length=w))=>jZ od x.l y.l)=λx y=>JH w od x.l y.l:=by
  funext x y;exact CN x.pr_ y.pr_
 rw[e];exact(JG w od).swo
theorem VJ:bk 171 baX:=by
 refine⟨⟨Tryz.f171,func171,rfl,bh⟩,?_⟩;rintro u t m h w K ⟨s,c,v,od,z,ps,rfl,A,n,B,C,D,E,F,G⟩ j
 obtain⟨H,d,rfl⟩:∃v d,t=[v,d]:=by
  have:=(nY j.args).1
  match t,this with
  |[v,d],_=>exact⟨v,d,rfl⟩
 have I:H=s.val:=j.args.1;have J:d= .func (.func 252) #[] #[.pointer (some ⟨c,0,none⟩)]:=j.args.2.1;subst I J;refine J1 (R:=λl=>l.length=z) (g:=252) (cb:=[.pointer (some ⟨c,0,none⟩)]) (m2:=λb=>if b=c then m c else none) (cf:=jZ od) rfl j ⟨Tryz.f252,func252,rfl,bh⟩ C D E F (V7 od) ⟨Ss,Xe,λx y=>⟨x.s,y.s,c,v,od,x.l,y.l,rfl,bj A,B,x.ok,y.ok,rfl,rfl,rfl⟩⟩ (λb o f=>?_) G;have f:(if b=c then m c else none)=some o:=f;split at f
 .rename_i e;subst e;exact⟨f,n⟩
 .cases f
noncomputable def aTZ:Ctx:=Tv [(234,Lk),(236,beX),(235,JV),(173,PG)] [(13,{A:=Nat×Nat×Sl×Sl×MH×PH,st:=λ⟨i,b,e,g,m,h⟩=>bO 66 68 [(10,vv (.pointer (some ⟨b,0,none⟩))),(11,sv e),(51,sv g),(52,iv g.len),(53,iv i)] [] m h})] [] [200005,200006,200007,200010,1068,400000,0]
noncomputable abbrev Ja(a:bu)(b:br):Bool:=List.all (pick a b) l9
abbrev p8(a:MH)(b:Nat)(c:(Value->Prop)->Prop)(d:Value)(e:Prop)(g:Sl->Prop):Prop:=∃(x:List (Value×Sl))(j:Value->Prop),aA (mJ a b (List.map (fun(f:Value×Sl)=>(f.1,dT f.2)) x)) (Cd 9 j) (aA (c j) (∀(f:Value×Sl),List.Mem f x->j f.1) (((∀(f:Value×Sl),aY (List.Mem f x) (f.1=d) False)->e)/\∀(f:Sl),List.Mem (d,f) x->g f))
abbrev Kn(a b c d:Prop)(e:(List bm)->Prop):Prop:=aA a b (aA c d (∃(x:List bm),e x))
noncomputable abbrev sO:Sl:=Sl.mk Option.none 0 0
noncomputable abbrev pS(a:Nat×Nat×Sl×Sl×MH×PH):Nat:=a.2.1
noncomputable abbrev oV(a:Nat×Nat×Sl×Sl×MH×PH):Sl×Sl×MH×PH:=a.2.2
noncomputable abbrev pK(a:Nat×Nat×Sl×Sl×MH×PH):Sl:=(oV a).2.1
noncomputable abbrev cX(a:Sl×Sl×MH×PH):MH×PH:=a.2.2
noncomputable abbrev pL(a:Nat×Nat×Sl×Sl×MH×PH):Nat->Option Obj:=(cX (oV a)).1
noncomputable abbrev sX(a:Nat×Nat×Sl×Sl×MH×PH):Nat->Nat->Option Value:=(cX (oV a)).2
abbrev HC(a:Sl->bt->Prop):Prop:=∃(x:Sl)(c:bt),a x c
abbrev IC(a:Nat->Nat->Option Value)(b c:Sl)(d:Sl->PH->Prop):Prop:=bZ a 1 (aM b::iA (aM c)) (λx j=>HC (λn f=>aA (gW x=gW n) (Rows j n f) (aA (f.length<=10) (∀(e:bu),List.Mem e f->e.length<=12) (∀(e:Sl)(g:PH),dA j g (bP g e f.flatten) (d e g)))))
attribute [push_cast] Ja p8 Kn sO pS oV pK cX pL sX HC IC
def KM(v:QV)(t:Sl)(m:MH)(h:PH)(K:bo):Prop:=
  HD (λs o=>aA (gW v.on=gW s) (jK h s o) (∀(a b:Sl)(J:PH),dA h J (Ints J a (iD o)) (Ints J b (dV o)->fR (λV m1=>aY (bW m J V) (cM m m1 V gA 30) (fR (λW m2=>aY (bW m1 J W) (cM m1 m2 W gA 30) (fN m2 V (dT a) (λm3=>fN m3 W (dT b) (λm4=>uL m4 J (λb3 m5=>fR (λu m6=>aY (bW m5 J u) (cM m5 m6 u (jD CY) 185) (fN m6 u (BE b3) (λm7=>Jb t.a 0 1 t m7 J (λP=>P+1) (λy S=>uK S J y m7 (λI k e n f=>I k n f->∃(y1:Sl),aJ n f W 0 (aM y1)/\∃(X:Sl),yI (λY r c=>aA (cA e y1=cA X Y) (bP f X r) (aA (Ints f Y c) (yH r c) (branch (Ja r c) (rI n f W 0 (λy2 s2=>yI (λt2 z A=>aA (cA e y2=cA s2 t2) (bP f s2 z)
 (aA (Ints f t2 A) (Mq z) (aA (yH z A) (dU n) (∃(j:Nat),aJ n f u 0 (lV j)/\∃(E:Nat),aA (cV n f u E) (aJ n f u 0 (lV j)/\p8 n E (λO=>O (dE z A)) (dE z A) (Kn (cV n f u j) (cV n f u E) (cV n f u j) (cV n f u E) (λx=>aA (cR n sO 100 1 x) (iL x) (dO x/\iF (λC B=>eK n B sO C 100 1 (iN x e)->aA (cV B f u j) (cV B f u E) (oC B j (λO=>O (dE z A)) (dE z A) (λQ=>∀(g:MH),aY (iH B g j) (mH g j (fK Q (dE z A) (dT C) [])) (I (k+1) g f)) (λl R F=>fK l (dE z A) R F) (λl F=>∀(g:MH),aY (iH B g j) (mH g j (fK l (dE z A) (dT C) F)) (I (k+1) g f))))))) (λH=>Kn (cV n f u j)
 (cV n f u E) (cV n f u j) (cV n f u E) (λx=>aA (cR n (dJ H) 100 1 x) (iL x) (dO x/\iF (λC B=>eK n B (dJ H) C 100 1 (iN x e)->aA (cV B f u j) (cV B f u E) (oC B j (λO=>O (dE z A)) (dE z A) (λQ=>∀(g:MH),aY (iH B g j) (mH g j (fK Q (dE z A) (dT C) [])) (I (k+1) g f)) (λl R F=>fK l (dE z A) R F) (λl F=>∀(g:MH),aY (iH B g j) (mH g j (fK l (dE z A) (dT C) F)) (I (k+1) g f)))))))) (aA (cV n f u j) (cV n f u E) (aJ n f u 0 (lV j)/\p8 n E (λO=>O (dE z A)) (dE z A) (BG (cV n f u j) (cV n f u E) (λx=>aA (cR n sO 100 1 x) (iL x) (dO x/\iF (λC B=>eK n B sO C 100 1
 (iN x e)->aA (cV B f u j) (cV B f u E) (oC B j (λO=>O (dE z A)) (dE z A) (λQ=>∀(g:MH),aY (iH B g j) (mH g j (fK Q (dE z A) (dT C) [])) (I (k+1) g f)) (λl R F=>fK l (dE z A) R F) (λl F=>∀(g:MH),aY (iH B g j) (mH g j (fK l (dE z A) (dT C) F)) (I (k+1) g f))))))) (λH=>BG (cV n f u j) (cV n f u E) (λx=>aA (cR n (dJ H) 100 1 x) (iL x) (dO x/\iF (λC B=>eK n B (dJ H) C 100 1 (iN x e)->aA (cV B f u j) (cV B f u E) (oC B j (λO=>O (dE z A)) (dE z A) (λQ=>∀(g:MH),aY (iH B g j) (mH g j (fK Q (dE z A) (dT C) [])) (I (k+1) g f)) (λl R F=>fK l (dE z A) R F) (λl F=>∀(g:
 MH),aY (iH B g j) (mH g j (fK l (dE z A) (dT C) F)) (I (k+1) g f))))))))))))))) (I (k+1) n f))))) (λx I=>jQ (λn f=>dA J f (I x.length n f) (DS n f t (λb5 B y1 S1=>uK S1 f y1 B (λI1 k e g G=>I1 k g G->∃(y2:Sl),aJ g G V 0 (aM y2)/\∃(X:Sl),yI (λY r c=>aA (cA e y2=cA X Y) (bP G X r) (aA (Ints G Y c) (yH r c) (mA (Ja r c) (I1 (k+1) g G) (∃(j:Nat),aJ g G u 0 (lV j)/\∃(E:Sl),aA (aJ g G V 0 (aM E)) (cV g G u j) (∃(s2:Sl),Ci e E s2 G g u j (λ_ _=>aJ g G V 0 (aM E)) (λz A=>p8 g j (λO=>O (dE z A)) (dE z A) (∃(I2:Nat×Nat×Sl×Sl×MH×PH->Prop)(Z:Nat×Nat×Sl×Sl×MH×PH->Nat),(∃(d:Nat×Nat×Sl×Sl×MH×PH),aA (I2
 d) (cH b5 (pS d)) (aA (bB e (oV d).1) (sQn=sQs (pK d)) (aA (bC (pK d).len) (bC d.1) (aA (cT g (cX (oV d))) (eA G (cX (oV d))) True))))/\∀(d:Nat×Nat×Sl×Sl×MH×PH),I2 d->aZ (↑d.1:Int) (aG (pK d)) (aK (λb6 P=>aA (aL (pK d).a b6 P) (0<=(↑d.1:Int)) ((↑d.1:Int)<aG (pK d)/\∃(H:Sl),aJ (pL d) (sX d) b6 (bK P d.1 1) (aM H)/\∃(L:Sl),aA (aJ (pL d) (sX d) (pS d) 0 (aM L)) (aJ (pL d) (sX d) (pS d) 0 (aM L)) (aJ (pL d) (sX d) (pS d) 0 (aM L)/\IC (sX d) (oV d).1 H (λC T=>BG (aJ (pL d) T (pS d) 0 (aM L)) (aJ (pL d) T (pS d) 0 (aM L)) (λM=>aA (cR (pL d) (dJ L) 100 1 M) (iL M)
 (dO M/\iF (λs4 a3=>eK (pL d) a3 (dJ L) s4 100 1 (iN M C)->fN a3 (pS d) (dT s4) (λa4=>∃(D:Nat×Nat×Sl×Sl×MH×PH),aA (I2 D) (Z D<Z d) (aA (cH (pS d) (pS D)) (bB (oV d).1 (oV D).1) (aA (bB (pK d) (pK D)) (bQ (pK d) (pK D)) (aA (bD (fP (bE d.1 1)) D.1) (cT a4 (cX (oV D))) (j4 (eA T (cX (oV D)))))))))))))))) (I1 (k+1) (pL d) (sX d))) (λH=>∃(I2:Nat×Nat×Sl×Sl×MH×PH->Prop)(Z:Nat×Nat×Sl×Sl×MH×PH->Nat),(∃(d:Nat×Nat×Sl×Sl×MH×PH),aA (I2 d) (cH b5 (pS d)) (aA (bB e (oV d).1) (bB H (pK d)) (aA (bQ H (pK d)) (bC d.1) (aA (cT g (cX (oV d))) (eA G (cX (oV d))) True))))/\∀(d:Nat×Nat×Sl×
 Sl×MH×PH),I2 d->aZ (↑d.1:Int) (aG (pK d)) (aK (λb6 P=>aA (aL (pK d).a b6 P) (0<=(↑d.1:Int)) ((↑d.1:Int)<aG (pK d)/\∃(L:Sl),aJ (pL d) (sX d) b6 (bK P d.1 1) (aM L)/\∃(U:Sl),aA (aJ (pL d) (sX d) (pS d) 0 (aM U)) (aJ (pL d) (sX d) (pS d) 0 (aM U)) (aJ (pL d) (sX d) (pS d) 0 (aM U)/\IC (sX d) (oV d).1 L (λC T=>BG (aJ (pL d) T (pS d) 0 (aM U)) (aJ (pL d) T (pS d) 0 (aM U)) (λM=>aA (cR (pL d) (dJ U) 100 1 M) (iL M) (dO M/\iF (λs4 a3=>eK (pL d) a3 (dJ U) s4 100 1 (iN M C)->fN a3 (pS d) (dT s4) (λa4=>∃(D:Nat×Nat×Sl×Sl×MH×PH),aA (I2 D) (Z D<Z d) (aA (cH (pS d)
 (pS D)) (bB (oV d).1 (oV D).1) (aA (bB (pK d) (pK D)) (bQ (pK d) (pK D)) (aA (bD (fP (bE d.1 1)) D.1) (cT a4 (cX (oV D))) (j4 (eA T (cX (oV D)))))))))))))))) (I1 (k+1) (pL d) (sX d)))))))))) (λd I1=>D3 f I1 d b5 K)))))))))))))))))))
def blQ(on:bx)(ls:List bt):Prop:=2<=ls.length/\∃w c,gR w (ls.getD 0 [])/\gR c (ls.getD 1 [])/\hZ w (iD on)/\hZ c (dV on)
def Kd(q:Query)(ls:List bt):Prop:=match q with|.mk _ _ _ _ on _ _ _ _=>blQ on ls
def agree(on:bx)(x y:bu):Bool:=eC (pick x (iD on)) (pick y (dV on))==0
def Ui(q:Query)(ls:List bt):bt:=match q with|.mk _ _ _ _ on _ _ _ _=>(ls.getD 0 []).filter λx=>(ls.getD 1 []).any λy=>agree on x y
theorem aDX{on:bx}{x y:bu}:agree on x y=true↔pick x (iD on)=pick y (dV on):=by
 simp only[agree,beq_iff_eq,lC]
theorem Ij{r:bu}{cols:br}(c:Mq r)(d:hZ r.length cols):∀v∈pick r cols,WB v:=λv e=>c.val v (NT d e)
theorem Bo{κ:bu->ByteArray}(c:Y4 κ){on:bx}{x y:bu}(hx:Mq x)(d:Mq y)(e:hZ x.length (iD on))(f:hZ y.length (dV on)):κ (pick x (iD on))=κ (pick y (dV on))↔agree on x y=true:=by
 rw[aDX];exact c.inj (by simp[pick,iD,dV]) (Ij hx e) (Ij d f)
structure Start(m m7:MH)(sa sb:Sl)(T:TypeId)(b1 b2 y b7:Nat):Prop where
 sub:Sub m m7
 a_:m7 b1=some (.cells #[.slice sa.a sa.len sa.cap] 30 (0,0))
 b_:m7 b2=some (.cells #[.slice sb.a sb.len sb.cap] 30 (0,0))
 y_:m7 y=some (.map #[] 0)
 c_:m7 b7=some (.cells #[.map (some y)] T (0,0))
 ya:b1≠y
 yb:b2≠y
 yc:b7≠y
 free:m y=none
theorem Ud{R S:Sl}{T:TypeId}{Q:Nat->Nat->Nat->Nat->MH->Prop}(hK:∀c d y n O,Start m O R S T c d y n->Q c d y n O):
 ∀(c:Nat)(Y:MH),bW m h c->gG m Y c (.cells #[rV] 30 (0,0))->∀(d:Nat)(m2:MH),bW Y h d->gG Y m2 d (.cells #[rV] 30 (0,0))->
  ∃(cs:Array Value)(E:TypeId),Lo m2 c (.cells cs E (0,0))/\0<cs.size/\∀U:MH,gG m2 U c (.cells (Array.mk (dT R::cs.toList.drop 1)) E (0,0))->
  ∃(cs:Array Value)(E:TypeId),Lo U d (.cells cs E (0,0))/\0<cs.size/\∀D:MH,gG U D d (.cells (Array.mk (dT S::cs.toList.drop 1)) E (0,0))->
  ∀(y:Nat)(P:MH),bW D h y->gG D P y (.map (Array.mk []) 0)->∀(n:Nat)(Z:MH),bW P h n->gG P Z n (.cells (Array.mk [.map none]) T (0,0))->
  ∃(cs:Array Value)(E:TypeId),Lo Z n (.cells cs E (0,0))/\0<cs.size/\∀O:MH,gG Z O n (.cells (Array.mk (.map (some y)::cs.toList.drop 1)) E (0,0))->Q c d y n O:=by
 intro c Y a' F d m2 V G;obtain⟨s1,n1⟩:=gH (Sub.refl m) a' F;obtain⟨s2,n2⟩:=gH s1 V G;have H:c≠d:=λe=>by have:=V.m_;rw[<-e,F.at_]at this;cases this
 refine⟨_,_,⟨by rw[G.other c H];exact F.at_⟩,bg,λU I=>?_⟩;have s3:Sub m U:=s2.upd n1 I.other;refine⟨_,_,⟨by rw[I.other d (Ne.symm H)];exact G.at_⟩,bg,λD J y P W t n Z X g=>?_⟩;have s4:Sub m D:=s3.upd n2 J.other;have L:D c=some (.cells #[.slice R.a R.len R.cap] 30 (0,0)):=by rw[J.other c H];exact I.at_
 have M:D d=some (.cells #[.slice S.a S.len S.cap] 30 (0,0)):=J.at_;obtain⟨s5,ny⟩:=gH s4 W t;obtain⟨s6,n7⟩:=gH s5 X g;have u:∀{z o},D z=some o->z≠y:=fun{z o} e e2=>by rw[e2,W.m_]at e;cases e
 have f:∀{z o},P z=some o->z≠n:=fun{z o} e e2=>by rw[e2,X.m_]at e;cases e
 have A:=L;rw[<-t.other c (u L)]at A;have B:=M;rw[<-t.other d (u M)]at B;have C:P y=some (.map #[] 0):=t.at_;refine⟨_,_,⟨g.at_⟩,bg,λO j=>hK _ _ _ _ _ ⟨s6.upd n7 j.other,?_,?_,?_,j.at_,u L,u M,Ne.symm (f C),ny⟩⟩
 .rw[j.other c (f A),g.other c (f A)];exact A
 .rw[j.other d (f B),g.other d (f B)];exact B
 .rw[j.other y (f C),g.other y (f C)];exact C
theorem Xu:bk 209 (TX Kd Ui):=by
 refine Hg func209 ?_;rintro c8 m h K ⟨v,t,q,bs,ls,rfl,hq,ha,hT,b',hK⟩;refine⟨Tv [(234,Lk),(236,beX)] [] [] [200005,200006,200007,200009,1068,400000,0],rfl,aD OL (aD EG aF),KL v t m h (cE h K),bf,?_⟩;show KL v t m h (cE h K);dsimp only[KL,push_cast];obtain⟨op,ta,w,co,on,gr,od,li,args⟩:=q;obtain⟨h2,wa,wb,g,d,b0,Q⟩:=b';refine⟨v.on,on,rfl,hq.parts.on_,λsa sb E C b3 b4=>Ud λb1 b2 y b7 m7 F=>?_⟩;obtain⟨b,b5,x,ea,c9,rd,sq⟩:=ha.get (E0 (i:=1) aC);obtain⟨b6,a',x6,b8,c7,c',a0⟩:=ha.get (E0 (i:=0) aC);obtain⟨a1,R,G⟩:=(sq.mono C).ex;obtain⟨us,a2,S⟩:=(a0.mono C).ex;simp only[Ui]at hK;generalize ls.getD 1 []=J at G d hK sq;generalize ls.getD 0 []=l at S g hK a0;have c0:=S.len;have d':=g.len;have a3:=G.len;have s7:=F.sub;have ny:=F.free;refine⟨b,b5,ea,aC,aC,x,.imm (rd.mono C),yP,a1,λk L M=>M=E/\(∀z o,m7 z=some o->z≠y->L z=some o)/\pC L y ((J.take k).map λz=>dP (pick z (dV on))),xF,⟨x,a1,rfl,R,rfl⟩,⟨rfl,λz o e _=>e,bj (pC.new F.y_)⟩,?_,?_⟩
 .rintro k e L M hk-⟨rfl,O,H⟩
  obtain⟨r,Z,hv⟩:=G.at' hk;have u:=mem_of_getElem? Z;have T:aJ L M b7 0 [Value.map (some y)]:=.of_m (O b7 _ F.c_ F.yc) rfl;have rb:aJ L M b2 0 [dT sb]:=.of_m (O b2 _ F.b_ F.yb) rfl;refine⟨y,T,sb,rb,T,e,sb,r,dV on,rfl,hv,b4,d.row r u,by rw[d.wid r u];exact Q,hT.sub (λz o f=>O z o (s7 z o f) (λP=>by rw[P,ny]at f;cases f)),T,H.put (λm' U a4=>⟨rfl,λz o f a5=>by rw[U.other z a5];exact O z o f a5,?_⟩)⟩;obtain⟨kk,h5,h6⟩:=a4.ex;exact⟨kk,h5,λq=>by rw[h6,take_add_one,Z];simp[or_comm]⟩
 .rintro L M-⟨rfl,O,H⟩ b9 m5 a6 I;rw[a3,take_length]at H;have s5:Sub m L:=λz o f=>O z o (s7 z o f) (λP=>by rw[P,ny]at f;cases f);obtain⟨s6,n7⟩:=gH s5 a6 I
  have V:∀{z o},L z=some o->m5 z=some o/\z≠b9:=fun{z o} f=>by
   have:z≠b9:=λP=>by rw[P,a6.m_]at f;cases f
   exact⟨by rw[I.other z this];exact f,this⟩
  obtain⟨c1,na⟩:=V (O b1 _ F.a_ F.ya);obtain⟨c2,nc⟩:=V (O b7 _ F.c_ F.yc)
  have y7:y≠b9:=by
   obtain⟨kk,⟨es,c,E,_⟩,_⟩:=H.ex;exact(V E).2
  have a7:=H.keep (I.other y y7);refine⟨b6,a',b8,aC,aC,x6,.imm (c'.mono C),yP,us,λk W hy=>hy=M/\Ds m5 W b9/\∃A,pD m5 W b9 A/\A.length<=k/\eE M A ((l.take k).filter λz=>J.any λy=>agree on z y),xF,⟨x6,us,rfl,a2,rfl⟩,⟨rfl,λz o e _=>e,[],pD.new I.at_,bg,bj (eE.nil M)⟩,?_,?_⟩
  .rintro k e W hy hk-⟨rfl,n,A,B,c3,D⟩
   obtain⟨r,Z,hv⟩:=S.at' hk;have d0:=(List.getElem?_eq_some_iff.1 hk).1;have u:=mem_of_getElem? Z;have T:aJ W hy b7 0 [Value.map (some y)]:=.of_m (n b7 _ c2 nc) rfl;have r3:aJ W hy b1 0 [dT sa]:=.of_m (n b1 _ c1 na) rfl
   have a8:pC W y (J.map λz=>dP (pick z (dV on))):=by
    obtain⟨kk,⟨es,c,E,h2,h3,h4⟩,h5⟩:=a7.ex;exact⟨kk,⟨es,c,n y _ E y7,h2,h3,h4⟩,h5⟩
   have X:hZ r.length (iD on):=by rw[g.wid r u];exact b0
   have key:∀t:Bool,(t=true↔dP (pick r (iD on))∈J.map λz=>dP (pick z (dV on)))->t=J.any λy=>agree on r y:=λt ht=>by
    have E:(dP (pick r (iD on))∈J.map λz=>dP (pick z (dV on)))↔(J.any λy=>agree on r y)=true:=by
     rw[mem_map,any_eq_true];constructor
     .rintro⟨z,Y,f⟩;exact⟨z,Y,(Bo Ol (g.row r u) (d.row z Y) X (by rw[d.wid z Y];exact Q)).1 f.symm⟩
     .rintro⟨z,Y,f⟩;exact⟨z,Y,((Bo Ol (g.row r u) (d.row z Y) X (by rw[d.wid z Y];exact Q)).2 f).symm⟩
    rw[E]at ht;cases t
    .cases f:J.any λy=>agree on r y with
     |false=>rfl
     |true=>exact ht.2 f
    .exact(ht.1 rfl).symm
   refine⟨y,T,sa,r3,T,e,sa,r,iD on,rfl,hv,b3,g.row r u,X,hT.sub (s6.x n7 n),T,r3,a8.get (K:=λt=>branch t _ _) (λt ht=>?_)⟩;have P:=key t ht;refine aB (λE=>?_) (λE=>?_)
   .refine pD.app ⟨_,I.at_⟩ n B aC (λm' U c4=>⟨rfl,U,A++[e],c4,by simp;omega,?_⟩);rw[iG _ Z,if_pos (by rw[<-P];exact E)];exact D.snoc hv
   .refine⟨rfl,n,A,B,aC,?_⟩;rw[iG _ Z,if_neg (by rw[<-P,E];simp),append_nil];exact D
  .rintro W hy-⟨rfl,n,A,B,c3,D⟩
   rw[c0,take_length]at D;obtain⟨s,hb,a9,c5⟩:=B.ex;refine⟨s,.of_m hb rfl,cE.row (s6.x n7 n) C a9 (λj z e=>?_) (λh' le c6=>hK s h' (C.trans le) ((D.mono le).rows c6 (by have:=D.len;omega)))⟩;cases f:m z with
   |none=>rfl
   |some o=>have e1:=c5 j z e;rw[s6 z o f]at e1;cases e1
structure kW(m0 m:MH)(y:Nat)(kk:cj)(us:ByteArray->ca):Prop where
 map_:mH m y (kk.map λp=>(Value.string p.1,dT p.2))
 nodup:(kk.map Prod.fst).Nodup
 row:∀p∈kk,cR m p.2 100 1 ((us p.1).map eS)
 fresh:∀p∈kk,∀x i,p.2.a=some ⟨x,i,none⟩->m0 x=none
 apart:∀p∈kk,∀q∈kk,p.1≠q.1->∀x i j,p.2.a=some ⟨x,i,none⟩->q.2.a≠some ⟨x,j,none⟩
 none_:∀k,k∉kk.map Prod.fst->us k=[]
 old:∀x o,m0 x=some o->x≠y->m x=some o
def BU(kk:cj)(key:ByteArray)(s:Sl):Prop:=(s=⟨none,0,0⟩/\key∉kk.map Prod.fst)\/(key,s)∈kk
theorem kW.new{y:Nat}(h:m y=some (.map #[] 0)):kW m m y [] λ_=>[]:=⟨⟨#[],0,h,rfl,bg,bg⟩,bg,bg,bg,bg,λ_ _=>rfl,λ_ _ e _=>e⟩
theorem BU.row{m0:MH}{y:Nat}{kk:cj}{us:ByteArray->ca}{key:ByteArray}{s:Sl}(g:kW m0 m y kk us)(d:BU kk key s):cR m s 100 1 ((us key).map eS)/\∀x i,s.a=some ⟨x,i,none⟩->m0 x=none:=by
 rcases d with⟨rfl,f⟩|c
 .rw[g.none_ key f];exact⟨⟨Ao [],.inl ⟨rfl,rfl⟩⟩,λx i e=>by cases e⟩
 .exact⟨g.row _ c,g.fresh _ c⟩
theorem kW.keep{m0:MH}{y:Nat}{kk:cj}{us:ByteArray->ca}(g:kW m0 m y kk us)(d:∀x o,m x=some o->m' x=some o):kW m0 m' y kk us:=by
 obtain⟨u,c,f,j,z,A⟩:=g.map_;refine⟨⟨u,c,d _ _ f,j,z,A⟩,g.nodup,λp B=>?_,g.fresh,g.apart,g.none_,λx o f j=>d x o (g.old x o f j)⟩;obtain⟨C,D⟩:=g.row p B;refine⟨C,D.imp id ?_⟩;rintro⟨b,n,t,e,E,h⟩;exact⟨b,n,t,e,d _ _ E,h⟩
def Mi(us:ByteArray->ca)(key:ByteArray)(e:Sl):ByteArray->ca:=λk=>if k=key then us k++[e]else us k
theorem kW.core{m0 m1:MH}{y:Nat}{kk z:cj}{us:ByteArray->ca}{key:ByteArray}{s H e:Sl}(g:kW m0 m y kk us)(D:∃o,m0 y=some o)(R:BU kk key s)(I:eK m m1 s H 100 1 ((us key).map eS++[[dT e]]))
 (T:mH m' y (z.map λp=>(Value.string p.1,dT p.2)))(t:iH m1 m' y)(U:(z.map Prod.fst).Nodup)(u:∀p∈z,p=(key,H)\/(p∈kk/\p.1≠key))(J:(key,H)∈z)(V:∀k,k∈kk.map Prod.fst->k∈z.map Prod.fst):kW m0 m' y z (Mi us key e):=by
 obtain⟨oy,D⟩:=D;obtain⟨a',F⟩:=R.row g;obtain⟨es,c,h1,_⟩:=g.map_;have a0:∀i,s.a≠some ⟨y,i,none⟩:=λi d=>by rw[F y i d]at D;cases D
 have L:∀x,m x=none->m0 x=none:=λx G=>by
  cases S:m0 x with
  |none=>rfl
  |some o=>
   by_cases M:x=y
   .subst M;rw[G]at h1;cases h1
   .rw[g.old x o S M]at G;cases G
 have E:∀x i,H.a=some ⟨x,i,none⟩->m0 x=none:=λx i d=>by
  rcases I.fresh x i d with h|⟨j,h⟩
  .exact L x h
  .exact F x j h
 have C:∀p∈kk,∀x i,p.2.a=some ⟨x,i,none⟩->∃o,m x=some o:=λp A x i d=>by
  rcases(g.row p A).ex with⟨h,_⟩|⟨b,a1,a2,h,T,_⟩
  .rw[h]at d;cases d
  .rw[h]at d;simp only[Option.some.injEq,Addr.mk.injEq]at d;exact⟨_,d.1▸T⟩
 have O:∀p∈kk,p.1≠key->∀x i j,p.2.a=some ⟨x,i,none⟩->s.a≠some ⟨x,j,none⟩:=λp A f x i j d B=>by
  rcases R with⟨rfl,_⟩|R
  .cases B
  .exact g.apart p A _ R f x i j d B
 refine⟨T,U,λp A=>?_,λp A x i d=>?_,λp A q hq f x i j d B=>?_,λk hk=>?_,λx o S f=>?_⟩
 .rcases u p A with rfl|⟨n,f⟩
  .have W:(Mi us key e key).map eS=(us key).map eS++[[dT e]]:=by simp[Mi,eS]
   rw[W];exact cR.keep I.row λb i d=>t.other b (λB=>by rw[B]at d;rw[E y i d]at D;cases D)
  .have W:Mi us key e p.1=us p.1:=if_neg f;rw[W];refine cR.keep (g.row p n) λb i d=>?_;obtain⟨o,P⟩:=C p n b i d;rw[t.other b (λB=>by rw[B]at d;rw[g.fresh p n y i d]at D;cases D),P];exact I.other b o P (λj=>O p n f b i j d)
 .rcases u p A with rfl|⟨n,_⟩
  .exact E x i d
  .exact g.fresh p n x i d
 .have G:∀p∈kk,p.1≠key->∀i j,p.2.a=some ⟨x,i,none⟩->H.a≠some ⟨x,j,none⟩:=λp A f i j d B=>by
   rcases I.fresh x j B with h|⟨j',h⟩
   .obtain⟨o,P⟩:=C p A x i d;rw[h]at P;cases P
   .exact O p A f x i j' d h
  rcases u p A with rfl|⟨n,X⟩<;>rcases u q hq with rfl|⟨Q,Y⟩
  .exact f rfl
  .exact G q Q Y j i B d
  .exact G p n X i j d B
  .exact g.apart p n q Q f x i j d B
 .have Z:k≠key:=λd=>hk (mem_map.2 ⟨_,J,d.symm⟩);simp only[Mi,if_neg Z];exact g.none_ k λh=>hk (V k h)
 .rw[t.other x f];exact I.other x o (g.old x o S f) (λi d=>by have h5:=F x i d;rw[S]at h5;cases h5)
theorem kW.put{m0 D:MH}{y:Nat}{kk:cj}{us:ByteArray->ca}{key:ByteArray}{s A e:Sl}{Q:MH->Prop}(g:kW m0 m y kk us)(E:∃o,m0 y=some o)(F:BU kk key s)(G:eK m D s A 100 1 ((us key).map eS++[[dT e]]))
 (S:∀m' H,kW m0 m' y H (Mi us key e)->Q m'):
 ∃(j:cd)(Ok:Value->Prop),mH D y j/\KeyLaw Tryz.prog 9 Ok/\Ok (.string key)/\Instr.sameBits 10000 (Value.string key) (Value.string key)=true/\(∀e,List.Mem e j->Ok e.1)/\((∀e,List.Mem e j->e.1=Value.string key->False)->∀m':MH,iH D m' y->mH m' y (j++[(Value.string key,dT A)])->Q m')/\
  ∀(I:cd)(T:Value)(J:cd),j=I++(Value.string key,T)::J->∀m':MH,iH D m' y->mH m' y (I++(Value.string key,dT A)::J)->Q m':=by
 have L:∀i,s.a≠some ⟨y,i,none⟩:=λi n=>by
  obtain⟨o,U⟩:=E;rw[(F.row g).2 y i n]at U;cases U
 obtain⟨W,c,X,Y,Z,h4⟩:=g.map_;refine⟨kk.map λp=>(Value.string p.1,dT p.2),_,⟨W,c,G.other _ _ X L,Y,Z,h4⟩,Dy,⟨key,rfl⟩,Uj key,λe he=>?_,λhn m' d u=>?_,λI T J e0 m' d u=>?_⟩
 .obtain⟨k,_,rfl⟩:=mem_map.1 (show e∈_ from he);exact⟨k.1,rfl⟩
 .have B:key∉kk.map Prod.fst:=λh=>by
   obtain⟨p,M,n⟩:=mem_map.1 h;subst n;exact hn _ (mem_map_of_mem (f:=λp:ByteArray×Sl=>(Value.string p.1,dT p.2)) M) rfl
  refine S m' (kk++[(key,A)]) (g.core E F G (bj u) d ?_ ?_ bg (λk O=>by rw[map_append];exact mem_append_left _ O))
  .rw[map_append,nodup_append];refine⟨g.nodup,bg,λa ha b V n=>?_⟩;simp at V;subst n V;exact B ha
  .intro p M;rcases mem_append.1 M with h|h
   .exact .inr ⟨h,λn=>B (n▸mem_map_of_mem h)⟩
   .exact .inl (bj h)
 .obtain⟨k1,a',e1,n,e3⟩:=map_eq_append_iff.1 e0;obtain⟨p,k2,e4,P,e6⟩:=map_eq_cons_iff.1 e3;subst e1 e4 n e6;simp only[Prod.mk.injEq,Value.string.injEq]at P;have z:=g.nodup;rw[map_append,map_cons,P.1]at z;have t:=nodup_append.1 z;have C:=nodup_cons.1 t.2.1;refine S m' (k1++(key,A)::k2) (g.core E F G (bj u) d (bj z) ?_ bg (λk O=>by simpa[P.1]using O));intro q hq;rcases mem_append.1 hq with h|h
  .exact .inr ⟨mem_append_left _ h,λR=>t.2.2 q.1 (mem_map_of_mem h) key (mem_cons_self ..) R⟩
  .rcases mem_cons.1 h with h|h
   .exact .inl h
   .exact .inr ⟨mem_append_right _ (mem_cons_of_mem _ h),λR=>C.1 (R▸mem_map_of_mem h)⟩
theorem kW.app{m0:MH}{hx:PH}{y c:Nat}{T:TypeId}{kk:cj}{us:ByteArray->ca}{key:ByteArray}{s e:Sl}{Q:MH->Prop}(g:kW m0 m y kk us)(G:∃o,m0 y=some o)(t:∃o,m0 c=some o)(H:m c=some (.cells #[.map (some y)] T (0,0)))(L:(us key).length<=502633886983)
 (I:∀m' u,kW m0 m' y u (Mi us key e)->Q m')(B:BU kk key s):
 ∃xs:List bm,cR m (Sl.mk s.a s.len s.cap) 100 1 xs/\(xs.length+1)*24<=140737488355328/\xs.length<140737488355328/\∀(n:Sl)(f:MH),eK m f (Sl.mk s.a s.len s.cap) n 100 1 (xs++[[dT e]])->
  aJ f hx c 0 [Value.map (some y)]/\aJ f hx c 0 [Value.map (some y)]/\
 ∃(d:cd)(Ok:Value->Prop),mH f y d/\KeyLaw Tryz.prog 9 Ok/\Ok (.string key)/\Instr.sameBits 10000 (Value.string key) (Value.string key)=true/\(∀e,List.Mem e d->Ok e.1)/\((∀e,List.Mem e d->e.1=Value.string key->False)->∀m':MH,iH f m' y->mH m' y (d++[(Value.string key,dT n)])->Q m')/\
  ∀(C:cd)(J:Value)(D:cd),d=C++(Value.string key,J)::D->∀m':MH,iH f m' y->mH m' y (C++(Value.string key,dT n)::D)->Q m':=by
 obtain⟨j,z⟩:=B.row g;refine⟨_,j,by simp;omega,by simp;omega,λn f E=>?_⟩
 have r:aJ f hx c 0 [Value.map (some y)]:=.of_m (E.other c _ H λi A=>by
  obtain⟨o,F⟩:=t;have A:s.a=some ⟨c,i,none⟩:=A;rw[z c i A]at F;cases F) rfl
 exact⟨r,r,g.put G B E I⟩
theorem kW.get2{m0:MH}{y:Nat}{kk:cj}{us:ByteArray->ca}{key:ByteArray}{K0:Prop}{K:Sl->Prop}(g:kW m0 m y kk us)(n:BU kk key ⟨none,0,0⟩->K0)(o:∀s,BU kk key s->K s):
 ∃(d:List (Value×Sl))(Ok:Value->Prop),mJ m y (d.map λp=>(p.1,dT p.2))/\KeyLaw Tryz.prog 9 Ok/\Ok (.string key)/\(∀e,List.Mem e d->Ok e.1)/\((∀e,List.Mem e d->e.1=Value.string key->False)->K0)/\∀t,List.Mem (Value.string key,t) d->K t:=by
 obtain⟨u,c,z,A,_,_⟩:=g.map_;refine⟨kk.map λp=>(.string p.1,p.2),_,⟨u,c,z,by rw[A];simp⟩,Dy,⟨key,rfl⟩,λe B=>?_,λC=>n (.inl ⟨rfl,λh=>?_⟩),λt D=>o t (.inr ?_)⟩
 .obtain⟨k,_,rfl⟩:=mem_map.1 (show e∈_ from B);exact⟨k.1,rfl⟩
 .obtain⟨p,j,e⟩:=mem_map.1 h;subst e;exact C (.string p.1,p.2) (mem_map_of_mem (f:=λp:ByteArray×Sl=>(Value.string p.1,p.2)) j) rfl
 .obtain⟨p,j,e⟩:=mem_map.1 (show(Value.string key,t)∈_ from D);simp only[Prod.mk.injEq,Value.string.injEq]at e;obtain⟨E,F⟩:=e;subst E F;exact j
structure Lp(m0 m:MH)(h:PH)(y:Nat)(f:ByteArray->bt):Prop where
 ex:∃kk us,kW m0 m y kk us/\∀k,eE h (us k) (f k)
theorem Lp.upd{m0:MH}{y:Nat}{kk:cj}{us:ByteArray->ca}{f c:ByteArray->bt}{key:ByteArray}{e:Sl}{r:bu}(g:kW m0 m' y kk (Mi us key e))(j:∀k,eE h (us k) (f k))(n:bP h e r)(o:c key=f key++[r])(t:∀k,k≠key->c k=f k):Lp m0 m' h y c:=by
 refine⟨kk,_,g,λk=>?_⟩;by_cases d:k=key
 .subst d;rw[o];have:Mi us k e k=us k++[e]:=if_pos rfl;rw[this];exact(j k).snoc n
 .rw[t k d];have:Mi us key e k=us k:=if_neg d;rw[this];exact j k
def vY(cols:br)(r:bu):Bool:=(pick r cols).all l9
def jL(on:bx)(b:bt)(x:bu):bt:=
 if vY (iD on) x then(b.filter λy=>vY (dV on) y&&agree on x y).map (x++ ·)else[]
def UT(q:Query)(ls:List bt):bt:=match q with|.mk _ _ _ _ on _ _ _ _=>(ls.getD 0 []).flatMap (jL on (ls.getD 1 []))
def Kg(q:Query)(ls:List bt):Prop:=match q with|.mk _ _ _ _ on _ _ _ _=>blQ on ls/\(ls.getD 0 []).length*(ls.getD 1 []).length<=1000000
theorem sD{α β:Type}{f:α->List β}{n:Nat}:∀{l:List α},(∀x∈l,(f x).length<=n)->(l.flatMap f).length<=l.length*n
 |[],_=>bg
 |a::l,h=>by
  have d:=h a (mem_cons_self ..);have e:=sD (l:=l) λx c=>h x (mem_cons_of_mem _ c);simp only[flatMap_cons,length_append,length_cons,Nat.add_mul,Nat.one_mul];omega
theorem qG{α β:Type}{l:List α}{x:α}(f:α->List β)(hx:l[k]? =some x):(l.take (k+1)).flatMap f=(l.take k).flatMap f++f x:=by
 rw[take_add_one,hx];simp
theorem vN{on:bx}{b:bt}{x:bu}:(jL on b x).length<=b.length:=by
 unfold jL;split
 .rw[length_map];exact length_filter_le _ _
 .simp
def under(κ:bu->ByteArray)(cols:br)(l:bt)(key:ByteArray):bt:=l.filter λz=>vY cols z&&decide (κ (pick z cols)=key)
theorem xX{κ:bu->ByteArray}{cols:br}{l:bt}{r:bu}(c:l[k]? =some r)(key:ByteArray):under κ cols (l.take (k+1)) key=under κ cols (l.take k) key++(if vY cols r&&decide (κ (pick r cols)=key)then[r]else[]):=iG _ c
theorem Xv:bk 208 (TX Kg UT):=by
 refine Hg func208 ?_;rintro f6 m h K ⟨v,t,q,bs,ls,rfl,hq,ha,hT,d9,hK⟩;refine⟨aTZ,rfl,aD OL (aD EG (aD Xk (aD OS aF))),KM v t m h (cE h K),bf,?_⟩;show KM v t m h (cE h K);dsimp only[KM,push_cast];obtain⟨op,ta,w,co,on,gr,od,li,args⟩:=q;obtain⟨⟨h2,wa,wb,B,d,e',c6⟩,c7⟩:=d9;refine⟨v.on,on,rfl,hq.parts.on_,λsa sb h1 V c8 c9=>Ud λb1 b2 y b7 m7 W=>?_⟩;obtain⟨b,e0,x,ea,f7,rd,sq⟩:=ha.get (E0 (i:=1) aC);obtain⟨b6,d',x6,e4,f3,e9,d0⟩:=ha.get (E0 (i:=0) aC);obtain⟨d1,c',a0⟩:=(sq.mono V).ex;obtain⟨us,d2,c0⟩:=(d0.mono V).ex;simp only[UT]at hK;generalize ls.getD 1 []=n at a0 d hK sq c7;generalize ls.getD 0 []=l at c0 B hK d0 c7;have f':=c0.len;have f8:=B.len;have f4:=d.len;have d3:=a0.len;have s7:=W.sub;have ny:=W.free;have b5:∀{mx kk us},kW m7 mx y kk us->Sub m mx:=λg z o A=>g.old z o (s7 z o A) (λe3=>by rw[e3,ny]at A;cases A);refine⟨b,e0,ea,aC,aC,x,.imm (rd.mono V),yP,d1,λk mx hx=>hx=h1/\Lp m7 mx h1 y (under dP (dV on) (n.take k)),xF,⟨x,d1,rfl,c',rfl⟩,⟨rfl,⟨[],_,kW.new W.y_,λk=>by simpa[under]using eE.nil h1⟩⟩,?_,?_⟩
 .rintro k e mx hx hk-⟨rfl,⟨kk,uk,g,hg⟩⟩
  obtain⟨r,hr,hv⟩:=a0.at' hk;have O:=mem_of_getElem? hr;have X:hZ r.length (dV on):=by rw[d.wid r O];exact c6
  have mc:=g.old b7 _ W.c_ W.yc;have J:aJ mx hx b7 0 [Value.map (some y)]:=.of_m mc rfl;have rb:aJ mx hx b2 0 [dT sb]:=.of_m (g.old b2 _ W.b_ W.yb) rfl;refine⟨sb,rb,e,sb,r,dV on,rfl,hv,c9,X,aB (λc=>?_) (λc=>?_)⟩
  .have hl:(uk (dP (pick r (dV on)))).length<=502633886983:=by
    have h5:=(hg (dP (pick r (dV on)))).len;have h6:(under dP (dV on) (n.take k) (dP (pick r (dV on)))).length<=(n.take k).length:=length_filter_le _ _;rw[length_take]at h6;omega
   have app:=fun{s:Sl}=>g.app (hx:=hx) (e:=e) (s:=s) (Q:=λm'=>hx=hx/\Lp m7 m' hx y (under dP (dV on) (n.take (k+1)))) ⟨_,W.y_⟩ ⟨_,W.c_⟩ mc hl (λm' f9 g'=>⟨rfl,Lp.upd g' hg hv (by rw[xX hr,if_pos];simpa[vY]using c) (λk2 f0=>by rw[xX hr,if_neg,append_nil];simp[Ne.symm f0])⟩);exact⟨sb,rb,e,sb,r,dV on,rfl,hv,c9,d.row r O,X,hT.sub (b5 g),y,J,y,J,⟨J,g.get2 (λY=>⟨J,J,J,J,app Y⟩) (λs Y=>⟨J,J,J,J,app Y⟩)⟩,J,J,J,g.get2 (λY=>⟨J,J,app Y⟩) (λs Y=>⟨J,J,app Y⟩)⟩
  .refine⟨rfl,⟨kk,uk,g,λk2=>?_⟩⟩;rw[xX hr,if_neg,append_nil]
   .exact hg k2
   .simp[vY,c]
 .rintro mx hx-⟨rfl,gr⟩ b9 m5 d4 a1;rw[d3,take_length]at gr
  have Z:∀{z o},mx z=some o->m5 z=some o/\z≠b9:=fun{z o} A=>by
   have:z≠b9:=λe3=>by rw[e3,d4.m_]at A;cases A
   exact⟨by rw[a1.other z this];exact A,this⟩
  have s5:Sub m mx:=by
   obtain⟨kk,uk,g,_⟩:=gr.ex;exact b5 g
  obtain⟨s6,n7⟩:=gH s5 d4 a1;obtain⟨kk,uk,g,hg⟩:=gr.ex;refine⟨b6,d',e4,aC,aC,x6,.imm (e9.mono V),yP,us,λk my hy=>PH.le hx hy/\Ds m5 my b9/\∃R,pD m5 my b9 R/\eE hy R ((l.take k).flatMap (jL on n)),xF,⟨x6,us,rfl,d2,rfl⟩,⟨.refl _,λz o e _=>e,[],pD.new a1.at_,bj (eE.nil hx)⟩,?_,?_⟩
  .rintro k e my hy hk-⟨le,S,R,P,a'⟩
   obtain⟨r,hr,hv⟩:=c0.at' hk;have g0:=(List.getElem?_eq_some_iff.1 hk).1;have O:=mem_of_getElem? hr;have d5:∀z o,mx z=some o->my z=some o:=λz o A=>S z o (Z A).1 (Z A).2;have g7:=g.keep d5;have J:aJ my hy b7 0 [Value.map (some y)]:=.of_m (g7.old b7 _ W.c_ W.yc) rfl;have r3:aJ my hy b1 0 [dT sa]:=.of_m (g7.old b1 _ W.a_ W.ya) rfl;have X:hZ r.length (iD on):=by rw[B.wid r O];exact e'
   have b0:=bP.mono hv le;refine⟨sa,r3,e,sa,r,iD on,rfl,b0,c8.mono le,X,aB (λc=>?_) (λc=>?_)⟩
   .refine⟨le,S,R,P,?_⟩;have:jL on n r=[]:=if_neg (by simpa[vY]using c);rw[qG _ hr,this,append_nil];exact a'
   .have c:(pick r (iD on)).all l9=true:=bj c
    have f1:under dP (dV on) n (dP (pick r (iD on)))=n.filter λy=>vY (dV on) y&&agree on r y:=by
     refine filter_congr λz hz=>?_;congr 1;have h5:=Bo Ol (B.row r O) (d.row z hz) X (by rw[d.wid z hz];exact c6);cases e5:agree on r z with
     |true=>exact decide_eq_true (h5.2 e5).symm
     |false=>exact decide_eq_false λe6=>by rw[h5.1 e6.symm]at e5;cases e5
    have b3:jL on n r=(under dP (dV on) n (dP (pick r (iD on)))).map (r++ ·):=by rw[f1];exact if_pos (by simpa[vY]using c)
    have d6:((l.take k).flatMap (jL on n)).length+(under dP (dV on) n (dP (pick r (iD on)))).length<=1000000:=by
     have h5:((l.take (k+1)).flatMap (jL on n)).length<=(l.take (k+1)).length*n.length:=sD λx _=>vN;rw[qG _ hr,length_append,b3,length_map]at h5;have h6:(l.take (k+1)).length*n.length<=l.length*n.length:=Nat.mul_le_mul_right _ (by rw[length_take];omega);omega
    have f5:∀s,BU kk (dP (pick r (iD on))) s->cR mx s 100 1 ((uk (dP (pick r (iD on)))).map eS):=λs Y=>(Y.row g).1;generalize hG:under dP (dV on) n (dP (pick r (iD on)))=G at b3 d6;have b4:=hg (dP (pick r (iD on)));rw[hG]at b4;have d7:=b4.len;refine⟨y,J,sa,r3,J,e,sa,r,iD on,rfl,b0,c8.mono le,B.row r O,X,hT.sub (s6.x n7 S),J,r3,g7.get2 (λY=>?_) (λs Y=>?_)⟩
    .refine⟨λz=>z.1<=G.length/\z.2.1=b9/\z.2.2.1=e/\z.2.2.2.1=(⟨none,0,0⟩:Sl)/\PH.le hy z.2.2.2.2.2/\Ds m5 z.2.2.2.2.1 b9/\∃C,pD m5 z.2.2.2.2.1 b9 C/\eE z.2.2.2.2.2 C ((l.take k).flatMap (jL on n)++(G.take z.1).map (r++ ·)),λz=>G.length-z.1,⟨(0,b9,e,(⟨none,0,0⟩:Sl),my,hy),⟨bg,rfl,rfl,rfl,.refl _,S,R,P,bj a'⟩,MT⟩,?_⟩;rintro⟨i,bb,ee,gg,mz,hz⟩ ⟨hi,e1,A,e3,D,L,C,f,E⟩;dsimp only at hi e1 A e3 D L f E;subst e1 A e3;have gz:=g.keep (λz o A=>L z o (Z A).1 (Z A).2);have F:=(Y.row gz).1;have a2:=F.slen;rw[length_map,d7]at a2;refine aE (λa3=>?_) (λc1=>?_)
     .dsimp only at a3⊢
      have a4:i<G.length:=by omega
      obtain⟨u,hu,c2⟩:=b4.at_ i _ (getElem?_eq_getElem a4);obtain⟨b8,e8,c3⟩:=F.rd (h:=hz) (i:=i) (e:=[dT u]) (by rw[getElem?_map,hu];rfl);obtain⟨so,a5,T,a6⟩:=f.ex;have H:∀hh,aJ mz hh bb 0 [dT so]:=λhh=>.of_m a5 rfl;have a7:=E.len;simp only[length_append,length_map,length_take]at a7;refine⟨b8,0,e8,aC,aC,u,bj c3,so,H _,H _,H _,λs2 h3 M a8=>⟨s2,[r,G[i]],rfl,?_,bg,?_,λsl h4 a9 b'=>⟨H _,H _,Il ⟨_,a1.at_⟩ L a5 T a6 aC (λm' c4 c5=>⟨(i+1,bb,ee,⟨none,0,0⟩,m',h4),⟨by dsimp only;omega,rfl,rfl,rfl,D.trans (M.trans a9),c4,C++[sl],c5,?_⟩,by dsimp only;omega,?_⟩)⟩⟩⟩
      .refine eE.rows (us:=[ee,u]) ?_ a8 bg;refine⟨rfl,λj z U=>?_⟩
       match j,U with
       |0,U=>
        simp at U;subst U;exact⟨ee,rfl,bP.mono b0 (D.trans M)⟩
       |1,U=>
        simp at U;subst U;exact⟨u,rfl,bP.mono c2 (le.trans (D.trans M))⟩
      .intro z I;have I:z∈[r,G[i]]:=I;rcases mem_cons.1 I with rfl|I
       .exact(B.row _ O).len
       .have e7:=mem_singleton.1 I
        have:z∈n:=by
         have h9:z∈under dP (dV on) n (dP (pick r (iD on))):=by rw[hG,e7];exact getElem_mem _
         exact(mem_filter.1 h9).1
        exact(d.row _ this).len
      .have e7:(G.take (i+1)).map (r++ ·)=(G.take i).map (r++ ·)++[r++G[i]]:=by rw[take_add_one,getElem?_eq_getElem a4,map_append];rfl
       rw[e7, <-append_assoc];exact(E.mono (M.trans a9)).snoc (bj b')
      .dsimp only;exact⟨rfl,rfl,rfl,rfl,by rw[iJ aC],rfl,rfl,trivial⟩
     .dsimp only at c1⊢
      have:i=G.length:=by have a2:0=G.length:=a2;omega
      subst this;refine⟨le.trans D,L,C,f,?_⟩;rw[qG _ hr,b3];rw[take_length]at E;exact E
    .refine⟨λz=>z.1<=G.length/\z.2.1=b9/\z.2.2.1=e/\z.2.2.2.1=s/\PH.le hy z.2.2.2.2.2/\Ds m5 z.2.2.2.2.1 b9/\∃C,pD m5 z.2.2.2.2.1 b9 C/\eE z.2.2.2.2.2 C ((l.take k).flatMap (jL on n)++(G.take z.1).map (r++ ·)),λz=>G.length-z.1,⟨(0,b9,e,s,my,hy),⟨bg,rfl,rfl,rfl,.refl _,S,R,P,bj a'⟩,MT⟩,?_⟩;rintro⟨i,bb,ee,gg,mz,hz⟩ ⟨hi,e1,A,e3,D,L,C,f,E⟩;dsimp only at hi e1 A e3 D L f E;subst e1 A e3;have gz:=g.keep (λz o A=>L z o (Z A).1 (Z A).2);have F:=(Y.row gz).1;have a2:=F.slen;rw[length_map,d7]at a2;refine aE (λa3=>?_) (λc1=>?_)
     .dsimp only at a3⊢
      have a4:i<G.length:=by omega
      obtain⟨u,hu,c2⟩:=b4.at_ i _ (getElem?_eq_getElem a4);obtain⟨b8,e8,c3⟩:=F.rd (h:=hz) (i:=i) (e:=[dT u]) (by rw[getElem?_map,hu];rfl);obtain⟨so,a5,T,a6⟩:=f.ex;have H:∀hh,aJ mz hh bb 0 [dT so]:=λhh=>.of_m a5 rfl;have a7:=E.len;simp only[length_append,length_map,length_take]at a7;refine⟨b8,0,e8,aC,aC,u,bj c3,so,H _,H _,H _,λs2 h3 M a8=>⟨s2,[r,G[i]],rfl,?_,bg,?_,λsl h4 a9 b'=>⟨H _,H _,Il ⟨_,a1.at_⟩ L a5 T a6 aC (λm' c4 c5=>⟨(i+1,bb,ee,gg,m',h4),⟨by dsimp only;omega,rfl,rfl,rfl,D.trans (M.trans a9),c4,C++[sl],c5,?_⟩,by dsimp only;omega,?_⟩)⟩⟩⟩
      .refine eE.rows (us:=[ee,u]) ?_ a8 bg;refine⟨rfl,λj z U=>?_⟩
       match j,U with
       |0,U=>
        simp at U;subst U;exact⟨ee,rfl,bP.mono b0 (D.trans M)⟩
       |1,U=>
        simp at U;subst U;exact⟨u,rfl,bP.mono c2 (le.trans (D.trans M))⟩
      .intro z I;have I:z∈[r,G[i]]:=I;rcases mem_cons.1 I with rfl|I
       .exact(B.row _ O).len
       .have e7:=mem_singleton.1 I
        have:z∈n:=by
         have h9:z∈under dP (dV on) n (dP (pick r (iD on))):=by rw[hG,e7];exact getElem_mem _
         exact(mem_filter.1 h9).1
        exact(d.row _ this).len
      .have e7:(G.take (i+1)).map (r++ ·)=(G.take i).map (r++ ·)++[r++G[i]]:=by rw[take_add_one,getElem?_eq_getElem a4,map_append];rfl
       rw[e7, <-append_assoc];exact(E.mono (M.trans a9)).snoc (bj b')
      .dsimp only;exact⟨rfl,rfl,rfl,rfl,by rw[iJ aC],rfl,rfl,trivial⟩
     .dsimp only at c1⊢
      have:i=G.length:=by omega
      subst this;refine⟨le.trans D,L,C,f,?_⟩;rw[qG _ hr,b3];rw[take_length]at E;exact E
  .rintro my hy g1 ⟨le,S,R,P,a'⟩;rw[f',take_length]at a';obtain⟨s,hb,F,f2⟩:=P.ex;refine⟨s,.of_m hb rfl,cE.row (s6.x n7 S) (V.trans le) F (λj z e=>?_) (λh' d8 a8=>hK s h' (V.trans (le.trans d8)) ((a'.mono d8).rows a8 ?_))⟩
   .cases A:m z with
    |none=>rfl
    |some o=>have e1:=f2 j z e;rw[s6 z o A]at e1;cases e1
   .have h5:(l.flatMap (jL on n)).length<=l.length*n.length:=sD λx _=>vN;omega
noncomputable def aSQ:Ctx:=Tv [(236,beX),(171,baX)] [(7,{A:=Nat×Nat×Nat×MH×PH,st:=λ⟨b,c,r,m,h⟩=>bO 35 37 [(2,vv (.pointer (some ⟨b,0,none⟩))),(5,vv (.pointer (some ⟨c,0,none⟩))),(26,vv (.pointer (some ⟨r,0,none⟩)))] [] m h})] [] [200002,200005,1068,400000,0]
abbrev IG(a:MH)(b:Nat)(c:PH)(d:Nat->MH->Prop):Prop:=∃(x:cd),mH a b x/\fR (λe f=>aY (bW a c e) (iH a f e) (kE f b e x x->d e f))
abbrev MV(a:(Nat×Nat×Nat×MH×PH->Prop)->(Nat×Nat×Nat×MH×PH)->Prop)(b:(Nat×Nat×Nat×MH×PH->Prop)->(Nat×Nat×Nat×MH×PH->Nat)->(Nat×Nat×Nat×MH×PH)->Prop):Prop:=∃(x:Nat×Nat×Nat×MH×PH->Prop)(d:Nat×Nat×Nat×MH×PH->Nat),(∃(c:Nat×Nat×Nat×MH×PH),a x c)/\∀(c:Nat×Nat×Nat×MH×PH),b x d c
noncomputable abbrev fU(a:Nat×Nat×Nat×MH×PH):Nat:=a.2.1
noncomputable abbrev fT(a:Nat×Nat×Nat×MH×PH):Nat:=a.2.2.1
noncomputable abbrev fW(a:Nat×Nat×Nat×MH×PH):MH×PH:=a.2.2.2
abbrev Ch(a:Nat×Nat×Nat×MH×PH->Prop)(b:Nat×Nat×Nat×MH×PH)(c d e:Nat)(g:MH)(i:PH):Prop:=aA (a b) (cH c b.1) (aA (cH d (fU b)) (cH e (fT b)) (gX (cT g (fW b)) (eA i (fW b))))
abbrev WV(a:Nat->cd->cd->Prop):Prop:=∃(x:Nat)(c d:cd),a x c d
abbrev IF(a:Prop)(b:Nat->Option Obj)(c:Nat)(d:cd->Prop)(e:MH->Prop):Prop:=a->WV (λx j f=>aA (kE b x c j f) (d f) (∀(n:cd)(o:Value×Value)(t:cd),f=n++o::t->∀(g:MH),aY (iH b g c) (CT g x c j (n++t) o) (e g)))
noncomputable abbrev jS(a:Nat×Nat×Nat×MH×PH):Nat->Option Obj:=(fW a).1
noncomputable abbrev iE(a:Nat×Nat×Nat×MH×PH):Nat->Nat->Option Value:=(fW a).2
abbrev N9(a:Nat->cd->cd->(Value×Value)->Prop):Prop:=WV (λx c d=>∃(e:Value×Value),a x c d e)
attribute [push_cast] IG MV fU fT fW Ch WV IF jS iE N9
def KG(v:QV)(u:Nat)(m:MH)(h:PH)(K:bo):Prop:=
  fR (λb R=>aY (bW m h b) (cM m R b v.enc 35) (uL R h (λW T=>fR (λn U=>aY (bW T h n) (cM T U n (jD CY) 185) (fN U n (BE W) (λX=>∃(S:PH->bm->List bm->Prop),uK S h u X (λI k e g d=>I k g d->∃(y:Sl),aJ g d b 17 (aM y)/\∃(s:Sl),yI (λt r c=>aA (cA e y=cA s t) (bP d s r) (aA (Ints d t c) (Mq r) (aA (yH r c) (dU g) (∃(f:Nat),aJ g d n 0 (lV f)/\∃(D:Nat),aA (cV g d n D) (aJ g d n 0 (lV f)/\p8 g D (λO=>O (dE r c)) (dE r c) (Kn (cV g d n f) (cV g d n D) (cV g d n f) (cV g d n D) (λx=>aA (cR g sO 100 1 x) (iL x) (dO x/\iF (λB z=>eK g z sO B 100 1 (iN x e)->aA (cV z d
 n f) (cV z d n D) (oC z f (λO=>O (dE r c)) (dE r c) (λG=>∀(j:MH),aY (iH z j f) (mH j f (fK G (dE r c) (dT B) [])) (I (k+1) j d)) (λl E C=>fK l (dE r c) E C) (λl C=>∀(j:MH),aY (iH z j f) (mH j f (fK l (dE r c) (dT B) C)) (I (k+1) j d))))))) (λJ=>Kn (cV g d n f) (cV g d n D) (cV g d n f) (cV g d n D) (λx=>aA (cR g (dJ J) 100 1 x) (iL x) (dO x/\iF (λB z=>eK g z (dJ J) B 100 1 (iN x e)->aA (cV z d n f) (cV z d n D) (oC z f (λO=>O (dE r c)) (dE r c) (λG=>∀(j:MH),aY (iH z j f) (mH j f (fK G (dE r c) (dT B) [])) (I (k+1) j d)) (λl E C=>fK l (dE r c) E C) (λl C=>∀(j:MH),aY
 (iH z j f) (mH j f (fK l (dE r c) (dT B) C)) (I (k+1) j d)))))))) (aA (cV g d n f) (cV g d n D) (aJ g d n 0 (lV f)/\p8 g D (λO=>O (dE r c)) (dE r c) (BG (cV g d n f) (cV g d n D) (λx=>aA (cR g sO 100 1 x) (iL x) (dO x/\iF (λB z=>eK g z sO B 100 1 (iN x e)->aA (cV z d n f) (cV z d n D) (oC z f (λO=>O (dE r c)) (dE r c) (λG=>∀(j:MH),aY (iH z j f) (mH j f (fK G (dE r c) (dT B) [])) (I (k+1) j d)) (λl E C=>fK l (dE r c) E C) (λl C=>∀(j:MH),aY (iH z j f) (mH j f (fK l (dE r c) (dT B) C)) (I (k+1) j d))))))) (λJ=>BG (cV g d n f) (cV g d n D) (λx=>aA (cR g (dJ J) 100 1 x)
 (iL x) (dO x/\iF (λB z=>eK g z (dJ J) B 100 1 (iN x e)->aA (cV z d n f) (cV z d n D) (oC z f (λO=>O (dE r c)) (dE r c) (λG=>∀(j:MH),aY (iH z j f) (mH j f (fK G (dE r c) (dT B) [])) (I (k+1) j d)) (λl E C=>fK l (dE r c) E C) (λl C=>∀(j:MH),aY (iH z j f) (mH j f (fK l (dE r c) (dT B) C)) (I (k+1) j d)))))))))))))) (λx I=>jQ (λg d=>dA h d (I x.length g d) (∃(y:Nat),aJ g d n 0 (lV y)/\IG g y d (λr z=>MV (λI1 A=>Ch I1 A b n r z d) (λI1 j A=>IF (I1 A) (jS A) (fT A) (λl=>l=[]->∃(f:Nat),aJ (jS A) (iE A) (fU A) 0 (lV f)/\K (CV.val (BE f)) (jS A) (iE A)) (λL=>N9 (λY k l V
 =>CT L Y (fT A) k l V/\∃(s:Sl)(M:Nat)(E:QV)(o:bz)(w:Nat)(p:cv),aA (gJ (CV.val V.2) (mM 252 A.1)=eJ s (mM 252 M)) (L M=Option.some (qL (Array.mk E.enc) 35 0)) (aA (∀(i:Nat),jU (aL s.a M i)) (gZ (iE A) E.order o) (aA (DU L s p) (∀(F:Sl×bu),List.Mem F p->bP (iE A) F.1 F.2) (aA (∀(F:Sl×bu),List.Mem F p->F.2.length=w) (lN p.length) (∀(F:cv)(P:MH),aY (List.Perm F p) (List.Pairwise (fun(Z:Sl×bu)=>fun(q:Sl×bu)=>¬(jZ o q.2 Z.2<0)) F) (aY (DU P s F) (∀(Q:Nat),(∀(i:Nat),jU (aL s.a Q i))->P Q=L Q) (∃(H:Nat×Nat×Nat×MH×PH),aA (I1 H) (j H<j A) (aA (cH A.1 H.1) (cH (fU A) (fU H)) (aA (cH
 (fT A) (fT H)) (cT P (fW H)) (cW (fW A) (fW H)/\True))))))))))))))))))))))
def kC(κ:bu->ByteArray)(gr:br)(l:bt)(k:ByteArray):bt:=l.filter λz=>decide (κ (pick z gr)=k)
def qH(od:bz)(l:bt):Prop:=l.Pairwise λa b=>¬jZ od b a<0
structure pE(κ:bu->ByteArray)(m:MH)(h:PH)(y:Nat)(gr:br)(od:bz)(l:bt)(kk:cj)(g:ByteArray->bt):Prop where
 map_:mH m y (kk.map λp=>(Value.string p.1,dT p.2))
 nodup:(kk.map Prod.fst).Nodup
 rows:∀p∈kk,Rows h p.2 (g p.1)
 none_:∀k,k∉kk.map Prod.fst->g k=[]
 perm:∀k,(g k).Perm (kC κ gr l k)
 sort:∀k,qH od (g k)
def TO:Vc.Spec:=λc m h K=>∃v u gr od l w,c=[aQ v,.val (.func (.func 205) #[] #[.pointer (some ⟨u,0,none⟩)])]/\Ints h v.group gr/\gZ h v.order od/\P4 h u l/\gR w l/\hZ w gr/\dU m/\
 ∀y d e f g,m y=none->(∀b,b≠y->d b=m b)->PH.le h e->pE dP d e y gr od l f g->K (.val (.map (some y))) d e
structure bfJ(m:MH)(h:PH)(od:bz)(p:ByteArray×Sl)(f:ByteArray->bt)(st:Prop):Prop where
 ex:∃ps:cv,cR m p.2 100 1 (ps.map λq=>eS q.1)/\(∀q∈ps,bP h q.1 q.2)/\(ps.map Prod.snd).Perm (f p.1)/\(st->qH od (ps.map Prod.snd))
noncomputable def leftOf(m:MH)(r:Nat):Nat:=match m r with
 |some (.mapIter (some b) _ c _)=>(match m b with|some (.map d _)=>(d.toList.filter λe=> !c.contains e.born).length|_=>0)
 |_=>0
theorem kE.left_{r:Nat}{d left:cd}(i:kE m b r d left):leftOf m r=left.length:=by
 obtain⟨o,c,e,f,t,g,_,_,_,j,_,_,_,n⟩:=i.ex;simp only[leftOf,j,g];rw[<-n,length_map]
theorem kE.mem{r:Nat}{d left:cd}(i:kE m b r d left){x:Value×Value}(hx:x∈left):x∈d:=by
 obtain⟨t,c,f,g,u,y,j,_,_,z,_,_,_,n⟩:=i.ex;rw[<-n]at hx;rw[<-j];obtain⟨e,o,rfl⟩:=mem_map.1 hx;exact mem_map.2 ⟨e,(mem_filter.1 o).1,rfl⟩
theorem kE.keep{r:Nat}{e left:cd}(i:kE m b r e left)(g:m' b=m b)(j:m' r=m r):kE m' b r e left:=by
 obtain⟨n,c,d,f,o,t,u⟩:=i.ex;exact⟨n,c,d,f,o,by rw[g];exact t,by rw[j];exact u⟩
theorem kE.nodup{r:Nat}{d left:cd}(i:kE m b r d left)(f:d.Nodup):left.Nodup:=by
 obtain⟨o,c,e,g,t,u,j,_,_,y,_,_,_,n⟩:=i.ex;rw[<-n];rw[<-j]at f;exact f.sublist (filter_sublist.map _)
theorem bEQ{us:ca}{rs:bt}(c:eE h us rs):∃ps:cv,ps.map Prod.fst=us/\ps.map Prod.snd=rs/\∀q∈ps,bP h q.1 q.2:=by
 refine⟨us.zip rs,map_fst_zip (Nat.le_of_eq c.len),map_snd_zip (Nat.le_of_eq c.len.symm),λq f=>?_⟩;obtain⟨i,d⟩:=mem_iff_getElem?.1 f;rw[getElem?_zip_eq_some]at d;obtain⟨u,e,g⟩:=c.at_ i _ d.2;rw[d.1]at e;cases e;exact g
theorem cR.ice{s:Sl}{us:ca}(o:cR m s 100 1 (us.map eS))(y:∀b c,s.a=some ⟨b,0,none⟩->m b=some (.cells c 100 (0,0))->∀i,h b i=c[i]?):cZ h s 1 (us.map eS):=by
 rcases o.ex with⟨rfl,g⟩|⟨b,z,c,rfl,A,B,I,J,C⟩
 .rw[g];exact cZ.nil _ _
 .refine⟨bg,?_,B⟩;by_cases D:us.map eS=[]
  .exact .inl D
  .refine .inr ⟨b,0,rfl,λi e d=>⟨λj v n=>?_⟩⟩;have E:=o.rows.len e (mem_of_getElem? d);have F:j=0:=by have:=(List.getElem?_eq_some_iff.1 n).1;omega
   subst F;have G:=(List.getElem?_eq_some_iff.1 d).1
   have t:((us.map eS).flatten)[i]? =some v:=by
    rw[getElem?_map]at d;cases f:us[i]? with
    |none=>rw[f]at d;cases d
    |some u=>
     rw[f]at d;simp at d;subst d;simp[eS]at n;subst n
     have:∀l:ca,(l.map eS).flatten=l.map λu=>Value.slice u.a u.len u.cap:=λl=>by
      induction l with
      |nil=>rfl
      |cons a l H=>simp only[map_cons,flatten_cons,H];rfl
     rw[this,getElem?_map,f];rfl
   rw[<-C,getElem?_take,if_pos aC]at t;rw[y b c rfl A, <-Array.getElem?_toList,show 0+i*1+0=i by omega];exact t
theorem Nf{kk:cj}(c:(kk.map Prod.fst).Nodup){p q:ByteArray×Sl}(g:p∈kk)(j:q∈kk)(e:p.1=q.1):p=q:=by
 induction kk with
 |nil=>cases g
 |cons a kk n=>
  have c:=nodup_cons.1 c;rcases mem_cons.1 g with rfl|d<;>rcases mem_cons.1 j with rfl|f
  .rfl
  .exact(c.1 (mem_map.2 ⟨q,f,e.symm⟩)).elim
  .exact(c.1 (mem_map.2 ⟨p,d,e⟩)).elim
  .exact n c.2 d f
theorem L3{κ:bu->ByteArray}{R U F:MH}{C:PH}{y r:Nat}{l:bt}{kk:cj}{uk:ByteArray->ca}(V:Sub m R)(ny:m y=none)(m4y:R y=some (.map #[] 0))(g:kW R U y kk uk)(hg:∀k,eE C (uk k) (kC κ gr l k))(le:PH.le h C)(a2:l.length<=1000000)
 (W:∀b o,U b=some o->(∀p∈kk,∀i,p.2.a≠some ⟨b,i,none⟩)->F b=some o)(X:kE F y r (kk.map λp=>(Value.string p.1,dT p.2)) [])(n:∀p∈kk,bfJ F C od p (kC κ gr l) ((Value.string p.1,dT p.2)∉([]:cd)))
 (hK:∀y m2 f kk g,m y=none->(∀b,b≠y->m2 b=m b)->PH.le h f->pE κ m2 f y gr od l kk g->K (.val (.map (some y))) m2 f):cE h K (.val (.map (some y))) F C:=by
 intro hd;have t:∀b o,R b=some o->∀p∈kk,∀i,p.2.a≠some ⟨b,i,none⟩:=λb o e p d i u=>by rw[g.fresh p d b i u]at e;cases e
 have O:Sub m U:=λz o u=>g.old z o (V z o u) (λe3=>by rw[e3,ny]at u;cases u)
 classical
 let B:Nat->Prop:=λb=>∃p∈kk,p.2.a=some ⟨b,0,none⟩
 have hB:∀b,B b->m b=none/\b≠y/\∀i,C b i=none:=by
  rintro b ⟨p,d,e⟩;obtain⟨ps,H,_⟩:=(n p d).ex;refine⟨?_,λu=>?_,hd b _ (H.blk e).choose_spec⟩
  .cases u:m b with
   |none=>rfl
   |some o=>exact(t b o (V b o u) p d 0 e).elim
  .rw[u]at e;exact t y _ m4y p d 0 e
 let f:PH:=λb i=>if B b then(match F b with|some (.cells cs _ _)=>cs[i]? |_=>none)else C b i
 have I:PH.le C f:=⟨λb i v e=>by
  have:¬B b:=λL=>by rw[(hB b L).2.2 i]at e;cases e
  show(if B b then _ else C b i)=some v;rw[if_neg this];exact e⟩
 have Y:∀p∈kk,∃G,Rows f p.2 G/\G.Perm (kC κ gr l p.1)/\qH od G:=λp d=>by
  obtain⟨ps,H,Z,h4,E⟩:=(n p d).ex;refine⟨ps.map Prod.snd,?_,h4,E bg⟩;have e5:(ps.map λq=>eS q.1)=(ps.map Prod.fst).map eS:=by rw[map_map];rfl
  rw[e5]at H
  have a':cZ f p.2 1 ((ps.map Prod.fst).map eS):=cR.ice H λb P ea S i=>by
   show(if B b then _ else C b i)=_;rw[if_pos ⟨p,d,ea⟩,S]
  refine eE.rows (us:=ps.map Prod.fst) ⟨bg,λj x J=>?_⟩ a' ?_
  .rw[getElem?_map]at J;cases M:ps[j]? with
   |none=>rw[M]at J;cases J
   |some q=>
    rw[M]at J;have J:q.2=x:=bj J
    exact⟨q.1,by rw[getElem?_map,M];rfl,J▸bP.mono (Z q (mem_of_getElem? M)) I⟩
  .have:=h4.length_eq;have h6:(kC κ gr l p.1).length<=l.length:=length_filter_le _ _;omega
 let G:ByteArray->bt:=λk=>if e:∃p G,p∈kk/\p.1=k/\Rows f p.2 G/\G.Perm (kC κ gr l p.1)/\qH od G then e.choose_spec.choose else[]
 have Q:∀p∈kk,Rows f p.2 (G p.1)/\(G p.1).Perm (kC κ gr l p.1)/\qH od (G p.1):=λp d=>by
  have ex:∃D G,D∈kk/\D.1=p.1/\Rows f D.2 G/\G.Perm (kC κ gr l D.1)/\qH od G:=by
   obtain⟨G,Q⟩:=Y p d;exact⟨p,G,d,rfl,Q⟩
  have M:G p.1=ex.choose_spec.choose:=dif_pos ex;rw[M];obtain⟨E,h6,h7⟩:=ex.choose_spec.choose_spec
  have tr:∀D G',D∈kk->D.1=p.1->(Rows f D.2 G'/\G'.Perm (kC κ gr l D.1)/\qH od G')->Rows f p.2 G'/\G'.Perm (kC κ gr l p.1)/\qH od G':=λD G' H f Z=>by
   have e7:=Nf g.nodup H d f;subst e7;exact Z
  exact tr _ _ E h6 h7
 have T:∀k,k∉kk.map Prod.fst->G k=[]/\kC κ gr l k=[]:=λk A=>by
  refine⟨dif_neg ?_,?_⟩
  .rintro⟨p,_,d,e,_⟩;exact A (mem_map.2 ⟨p,d,e⟩)
  .have E:=(hg k).len;rw[g.none_ k A]at E;exact eq_nil_of_length_eq_zero E.symm
 obtain⟨es,c,a0,a1,c0,i1,i2,i3,i4,_⟩:=X.ex;refine⟨λb=>if b=y then F y else m b,f,λb o e=>?_,le.trans I,λb i v' e=>?_,hK y _ f kk G ny (λb L=>if_neg L) (le.trans I) ⟨⟨es,c,(if_pos rfl).trans i1,i2,i3,i4⟩,g.nodup,λp d=>(Q p d).1,λk A=>(T k A).1,λk=>?_,λk=>?_⟩⟩
 .have e:(if b=y then F y else m b)=some o:=e;split at e
  .rename_i u;rw[u];exact e
  .exact W b o (O b o e) (t b o (V b o e))
 .have e:(if B b then _ else C b i)=some v':=e;split at e
  .rename_i L;have E:=hB b L;obtain⟨p,d,ea⟩:=L;obtain⟨ps,H,_⟩:=(n p d).ex;obtain⟨P,S⟩:=H.blk ea;rw[S]at e;refine .inr ⟨P,100,(0,0),S,e,?_⟩;show(if b=y then F y else m b)=none;rw[if_neg E.2.1];exact E.1
  .exact .inl e
 .by_cases A:k∈kk.map Prod.fst
  .obtain⟨p,d,rfl⟩:=mem_map.1 A;exact(Q p d).2.1
  .rw[(T k A).1,(T k A).2]
 .by_cases A:k∈kk.map Prod.fst
  .obtain⟨p,d,rfl⟩:=mem_map.1 A;exact(Q p d).2.2
  .rw[(T k A).1];exact List.Pairwise.nil
theorem L2{κ:bu->ByteArray}{Z L O P:MH}{hz:PH}{y r w:Nat}{gr:br}{od:bz}{l:bt}{kk:cj}{uk:ByteArray->ca}{left l1 l2:cd}{x:Value×Value}(m4y:Z y=some (.map #[] 0))(g:kW Z L y kk uk)(Q:gR w l)(a':L r=none)
 (R:∀b o,L b=some o->(∀p∈kk,∀i,p.2.a≠some ⟨b,i,none⟩)->O b=some o)(S:kE O y r (kk.map λp=>(Value.string p.1,dT p.2)) left)(D:∀p∈kk,bfJ O hz od p (kC κ gr l) ((Value.string p.1,dT p.2)∉left))(F:left=l1++x::l2)(C:iH O P r)(a0:CT P y r (kk.map λp=>(Value.string p.1,dT p.2)) (l1++l2) x):
 ∃(c:ByteArray×Sl)(ps:cv),x=(Value.string c.1,dT c.2)/\(∀b o,Z b=some o->b≠y->P b=some o/\∀i,c.2.a≠some ⟨b,i,none⟩)/\cR P c.2 100 1 (ps.map λp:Sl×bu=>eS p.1)/\(∀p∈ps,bP hz p.1 p.2)/\(∀p∈ps,p.2.length=w)/\ps.length<=l.length/\
  ∀(n:cv)(E:MH),n.Perm ps->n.Pairwise (λp q=>¬jZ od q.2 p.2<0)->cR E c.2 100 1 (n.map λp=>eS p.1)->(∀b,(∀i,c.2.a≠some ⟨b,i,none⟩)->E b=P b)->
   (∀b o,L b=some o->(∀p∈kk,∀i,p.2.a≠some ⟨b,i,none⟩)->E b=some o)/\(∃left,kE E y r (kk.map λp=>(Value.string p.1,dT p.2)) left/\∀p∈kk,bfJ E hz od p (kC κ gr l) ((Value.string p.1,dT p.2)∉left))/\leftOf E r<leftOf O r:=by
 have G:∀p∈kk,∀x i,p.2.a=some ⟨x,i,none⟩->∃o,L x=some o:=λp B x i M=>⟨_,((g.row p B).blk M).choose_spec⟩
 have H:∀{z o},L z=some o->z≠r:=fun{z o} M e3=>by rw[e3,a']at M;cases M
 have a1:x∈left:=by rw[F];simp
 obtain⟨c,d,rfl⟩:=mem_map.1 (kE.mem S a1);obtain⟨ps,h1,h3,h4,h5⟩:=(D c d).ex;have t:∀b o,Z b=some o->∀p∈kk,∀i,p.2.a≠some ⟨b,i,none⟩:=λb o e p B i M=>by rw[g.fresh p B b i M]at e;cases e
 have u:∀p∈kk,∀b i,p.2.a=some ⟨b,i,none⟩->b≠r:=λp B b i e=>H (G p B b i e).choose_spec;have T:=h4.length_eq;have a2:(kC κ gr l c.1).length<=l.length:=length_filter_le _ _;rw[length_map]at T;refine⟨c,ps,rfl,λb o e a3=>⟨?_,t b o e c d⟩,cR.keep h1 λb i e=>C.other b (u c d b i e),h3,λq hq=>?_,aC,λn E A I J f=>?_⟩
 .have mb:=g.old b o e a3;rw[C.other b (H mb)];exact R b o mb (t b o e)
 .have:q.2∈kC κ gr l c.1:=h4.mem_iff.1 (mem_map_of_mem hq);exact Q.wid _ (mem_filter.1 this).1
 .have U:∀i,c.2.a≠some ⟨y,i,none⟩:=t y _ m4y c d;have V:∀i,c.2.a≠some ⟨r,i,none⟩:=λi e=>u c d r i e rfl;have W:kE E y r (kk.map λp=>(Value.string p.1,dT p.2)) (l1++l2):=kE.keep a0.it (f y U) (f r V);refine⟨λb o e hb=>?_,⟨_,W,λp B=>?_⟩,?_⟩
  .rw[f b (hb c d),C.other b (H e)];exact R b o e hb
  .by_cases X:p=c
   .subst X;refine⟨n,J,λq hq=>h3 q (A.mem_iff.1 hq),(A.map _).trans h4,λ_=>?_⟩;rw[qH,pairwise_map];exact I
   .have Y:p.1≠c.1:=λe=>X (Nf g.nodup B d e);obtain⟨qs,g1,g3,g4,g5⟩:=(D p B).ex;refine⟨qs,cR.keep g1 λb i e=>?_,g3,g4,λhn=>g5 λhl=>hn ?_⟩
    .rw[f b (λj=>g.apart p B c d Y b i j e),C.other b (u p B b i e)]
    .rw[F]at hl;rcases mem_append.1 hl with h|h
     .exact mem_append_left _ h
     .rcases mem_cons.1 h with h|h
      .simp only[Prod.mk.injEq,Value.string.injEq]at h;exact(Y h.1).elim
      .exact mem_append_right _ h
  .rw[kE.left_ W,kE.left_ S,F];simp
theorem OI:bk 240 TO:=by
 refine Hg func240 ?_;rintro d' m h K ⟨v,u,gr,od,l,w,rfl,b9,c',sq,j,S,hT,hK⟩;refine⟨aSQ,rfl,aD EG (aD VJ aF),KG v u m h (cE h K),bf,?_⟩;show KG v u m h (cE h K);dsimp only[KG,push_cast];intro t m1 a4 E y m2 T A O m3 F B;obtain⟨s1,nq⟩:=gH (Sub.refl m) a4 E;obtain⟨s2,ny⟩:=gH s1 T A;obtain⟨s3,nc⟩:=gH s2 F B;have G:t≠y:=λe=>by have:=T.m_;rw[<-e,E.at_]at this;cases this
 have U:m2 t=some (.cells ⟨QV.enc v⟩ 35 (0,0)):=by rw[A.other t G];exact E.at_
 have a5:t≠O:=λe=>by have:=F.m_;rw[<-e,U]at this;cases this
 have H:y≠O:=λe=>by have:=F.m_;rw[<-e,A.at_]at this;cases this
 refine⟨_,_,⟨B.at_⟩,bg,λP C=>?_⟩;have s4:Sub m P:=s3.upd nc C.other;have V:P t=some (.cells ⟨QV.enc v⟩ 35 (0,0)):=by rw[C.other t a5,B.other t a5];exact U
 have m4y:P y=some (.map #[] 0):=by rw[C.other y H,B.other y H];exact A.at_
 have I:P O=some (.cells #[.map (some y)] 185 (0,0)):=C.at_;obtain⟨us,a6,a7⟩:=sq.ex;have c0:=a7.len;have c1:=j.len;clear E A B C a4 T F s1 s2 s3 U;have a8:∀{n J us},kW P n y J us->Sub m n:=λg z o d=>g.old z o (s4 z o d) (λR=>by rw[R,ny]at d;cases d);refine⟨yP,us,λk n hx=>hx=h/\Lp P n h y (kC dP gr (l.take k)),xF,⟨u,us,rfl,a6,rfl⟩,⟨rfl,⟨[],_,kW.new m4y,λk=>by simpa[kC]using eE.nil h⟩⟩,?_,?_⟩
 .rintro k e n hx hk-⟨rfl,⟨J,uk,g,hg⟩⟩
  obtain⟨r,hr,hv⟩:=a7.at' hk;have a9:=mem_of_getElem? hr;have mc:=g.old O _ I (Ne.symm H);have c:aJ n hx O 0 [Value.map (some y)]:=.of_m mc rfl;have rq:aJ n hx t 17 [dT v.group]:=.of_m (g.old t _ V G) rfl
  have hl:(uk (dP (pick r gr))).length<=502633886983:=by
   have h5:=(hg (dP (pick r gr))).len;have h6:(kC dP gr (l.take k) (dP (pick r gr))).length<=(l.take k).length:=length_filter_le _ _;rw[length_take]at h6;omega
  have app:=fun{s:Sl}=>g.app (hx:=hx) (e:=e) (s:=s) (Q:=λm'=>hx=hx/\Lp P m' hx y (kC dP gr (l.take (k+1)))) ⟨_,m4y⟩ ⟨_,I⟩ mc hl (λm' d0 g'=>⟨rfl,Lp.upd g' hg hv (by rw[kC,iG _ hr,if_pos bg];rfl) (λk2 c2=>by rw[kC,iG _ hr,if_neg (by simp[Ne.symm c2]),append_nil];rfl)⟩);exact⟨v.group,rq,e,v.group,r,gr,rfl,hv,b9,j.row r a9,by rw[j.wid r a9];exact S,hT.sub (a8 g),y,c,y,c,⟨c,g.get2 (λW=>⟨c,c,c,c,app W⟩) (λs W=>⟨c,c,c,c,app W⟩)⟩,c,c,c,g.get2 (λW=>⟨c,c,app W⟩) (λs W=>⟨c,c,app W⟩)⟩
 .rintro n hx-⟨rfl,⟨J,uk,g,hg⟩⟩
  rw[c0,take_length]at hg;have mc:=g.old O _ I (Ne.symm H);have mq:=g.old t _ V G;refine⟨y,.of_m mc rfl,_,g.map_,λr m5 b' c3 it=>?_⟩;have c4:n r=none:=b'.m_
  have b0:∀{z o},n z=some o->m5 z=n z/\z≠r:=fun{z o} d=>by
   have:z≠r:=λR=>by rw[R,b'.m_]at d;cases d
   exact⟨c3.other z this,this⟩
  have X:∀p∈J,∀x i,p.2.a=some ⟨x,i,none⟩->∃o,n x=some o:=λp Y x i d=>⟨_,((g.row p Y).blk d).choose_spec⟩
  have c5:(J.map λp=>(Value.string p.1,dT p.2)).Nodup:=by
   have h5:=g.nodup;rw[nodup_iff_pairwise_ne,pairwise_map]at h5;rw[nodup_iff_pairwise_ne,pairwise_map];exact h5.imp λc6 e=>c6 (by simp only[Prod.mk.injEq,Value.string.injEq]at e;exact e.1)
  refine⟨λz=>z.1=t/\z.2.1=O/\z.2.2.1=r/\z.2.2.2.2=hx/\(∀b o,n b=some o->(∀p∈J,∀i,p.2.a≠some ⟨b,i,none⟩)->z.2.2.2.1 b=some o)/\∃left,kE z.2.2.2.1 y r (J.map λp=>(Value.string p.1,dT p.2)) left/\∀p∈J,bfJ z.2.2.2.1 hx od p (kC dP gr l) ((Value.string p.1,dT p.2)∉left),λz=>leftOf z.2.2.2.1 z.2.2.1,⟨(t,O,r,m5,hx),⟨rfl,rfl,rfl,rfl,λb o e _=>(b0 e).1.trans e,_,it,λp Y=>?_⟩,MT⟩,?_⟩
  .obtain⟨ps,e1,d,R⟩:=bEQ (hg p.1);refine⟨ps,?_,R,by rw[d],λhn=>(hn (mem_map_of_mem (f:=λp:ByteArray×Sl=>(Value.string p.1,dT p.2)) Y)).elim⟩;have e5:(ps.map λq=>eS q.1)=(uk p.1).map eS:=by rw[<-e1,map_map];rfl
   rw[e5];exact cR.keep (g.row p Y) λb i e=>(b0 (X p Y b i e).choose_spec).1
  .rintro⟨b1,b2,b3,mz,hz⟩ ⟨e1,d,R,e4,L,left,M,D⟩;dsimp only at e1 d R e4 L M D⊢
   subst e1 d R e4;refine⟨y,_,left,M,λZ=>?_,λl1 x l2 c7 m6 c8 b4=>?_⟩
   .have b5:∀b o,P b=some o->∀p∈J,∀i,p.2.a≠some ⟨b,i,none⟩:=λb o e p Y i d=>by rw[g.fresh p Y b i d]at e;cases e
    subst Z;exact⟨y,.of_m (L b2 _ mc (b5 b2 _ I)) rfl,L3 s4 ny m4y g hg (.refl _) c1 L M D hK⟩
   .obtain⟨p0,ps,rfl,b6,b7,hv,hw,d1,a'⟩:=L2 (m4y:=m4y) g j c4 L M D c7 c8 b4;have hb:=b6 b1 _ V G;refine⟨y,_,_,_,b4,p0.2,b1,v,od,w,ps,rfl,hb.1,hb.2,c',b7,hv,hw,aC,λc9 m7 a0 a1 a2 b8=>?_⟩;obtain⟨k1,⟨a3,k2,k3⟩,k4⟩:=a' c9 m7 a0 a1 a2 b8;exact⟨(b1,b2,b3,m7,hz),⟨rfl,rfl,rfl,rfl,k1,a3,k2,k3⟩,k4,rfl,rfl,rfl,rfl,rfl,trivial⟩
noncomputable def aTX:Ctx:=Tv [(240,TO),(123,baJ)] [(3,{A:=Nat×Sl×Nat×MH×PH,st:=λ⟨b,s,r,m,h⟩=>bO 29 31 [(2,vv (.pointer (some ⟨b,0,none⟩))),(5,sv s),(13,vv (.pointer (some ⟨r,0,none⟩)))] [] m h})] [(5,{A:=Nat×Sl×Sl×Nat×MH×PH,st:=λ⟨b,s,g,r,m,h⟩=>bO 29 31 [(2,vv (.pointer (some ⟨b,0,none⟩))),(5,sv s),(7,sv g),(13,vv (.pointer (some ⟨r,0,none⟩)))] [] m h})] [200002,1068,0]
abbrev Gv(a b:cq)(c:PH)(d:Sl)(e:br)(g i:Prop)(j:Nat)(k:bt)(l:MH)(n:Nat->MH->PH->cj->(ByteArray->bt)->Prop):Prop:=aA (a=b) (Ints c d e) (aA g i (aA (gR j k) (hZ j e) (dU l/\fR (λx f=>∀(o:PH)(t:cj)(u:ByteArray->bt),n x f o t u))))
abbrev Gh(a:MH)(b:Nat)(c:MH)(d:Prop):Prop:=aY (Et a b) (∀(x:Nat),jU (x=b)->c x=a x) d
noncomputable abbrev Gz(a:Nat×Sl×Nat×MH×PH):Nat:=a.2.2.1
noncomputable abbrev CC(a:Nat×Sl×Sl×Nat×MH×PH):Sl:=a.2.2.1
noncomputable abbrev uP(a:Nat×Sl×Sl×Nat×MH×PH):Nat×MH×PH:=a.2.2.2
noncomputable abbrev pR(a:Sl)(b:Int):Int:=ite (aG a<b) (aG a) b
attribute [push_cast] Gv Gh Gz CC uP pR
def KJ(v:QV)(t:Sl)(m:MH)(h:PH)(K:bo):Prop:=
  fR (λb j=>aY (bW m h b) (cM m j b v.enc 35) (AX j h b 0 (λy=>aK (λA o=>aA (aL t.a A o) ((0:Int)<=0) (0<aG t/\∃(B:Nat),aJ j h A (o+0) (wA B)/\∃(D:QV)(u:Nat),Km (λg H=>∃(l:bt)(w:Nat),Gv (gJ (dL y) (mM 205 B)) (gJ (dL D) (mM 205 u)) h D.group g (gZ h D.order H) (P4 h u l) w l j (λE n e k O=>Gh j E n (dA h e (pE dP n e E g H l k O) (aA (aJ n e b 0 y.enc) (aJ n e A (o+0) (wA B)) (IG n E e (λr F=>aA (aJ F e b 0 y.enc) (aJ F e A (o+0) (wA B)) (∃(I:Nat×Sl×Nat×MH×PH->Prop)(J:Nat×Sl×Nat×MH×PH->Nat),(∃(x:Nat×Sl×Nat×MH×PH),aA (I x) (cH b x.1) (aA (sQn=sQs x.2.1) (cH r (Gz x)) (gX (cT F x.2.2.2) (eA e
 x.2.2.2))))/\∀(x:Nat×Sl×Nat×MH×PH),IF (I x) (mO x.2.2) (Gz x) (λG=>G=[]->∃(s:Sl),DW x.2.1 s (mO x.2.2) (jO x.2.2) K) (λL=>∃(I1:Nat×Sl×Sl×Nat×MH×PH->Prop),N9 (λP Q G c=>CT L P (Gz x) Q G c/\∃(d:Nat×Sl×Sl×Nat×MH×PH),aA (I1 d) (cH x.1 d.1) (aA (bB x.2.1 d.2.1) (SV.at (At.val c.2)=sQs (CC d)) (aA (cH (Gz x) (uP d).1) (cT L (uP d).2) (cW x.2.2.2 (uP d).2/\True))))/\∀(c:Nat×Sl×Sl×Nat×MH×PH),I1 c->∃(C:Int),aA (aJ (mO (uP c)) (jO (uP c)) c.1 19 (bL C)) (0<=pR (CC c) C) (pR (CC c) C<=(↑(CC c).cap:Int)/\∃(d:List bm),C2 (cR (mO (uP c)) (dJ c.2.1) 100 1 d) (λz=>aA (eR 1 z) (sI
 (mO (uP c)) (jO (uP c)) (Sl.mk (CC c).a (pR (CC c) C).toNat (CC c).cap) 1 z) (aA (rY d z 24) (rZ d z) (iF (λs M=>eK (mO (uP c)) M (dJ c.2.1) s 100 1 (d++z)->∃(f:Nat×Sl×Nat×MH×PH),aA (I f) (J f<J x) (aA (cH c.1 f.1) (bB s f.2.1) (aA (cH (uP c).1 (Gz f)) (cT M f.2.2.2) (cW (uP c).2 f.2.2.2/\True)))))))))))))))))))))
theorem Lc{w:Nat}:∀{od:bz}{a b:bu},JH w od a b=0->a=b
 |[],_,_,h=>lC.1 h
 |(c,d)::r,a,b,h=>by
  rw[JH]at h;generalize (if d then-lZ (a.getD c.toNat zeroV) (b.getD c.toNat zeroV)else lZ (a.getD c.toNat zeroV) (b.getD c.toNat zeroV))=x at h;split at h
  .split at h
   .rename_i e;exact(e h).elim
   .exact Lc h
  .exact Lc h
theorem Dn{w:Nat}{od:bz}{a b:bu}(c:a.length=w)(d:b.length=w):jZ od a b= -jZ od b a:=by
 rw[CN c d,CN d c];exact(JG w od).anti a b
theorem aBJ{w:Nat}{a b:bu}(c:a.length=w)(d:b.length=w)(h:jZ od a b=0):a=b:=by
 rw[CN c d]at h;exact Lc h
theorem Lv{w:Nat}{od:bz}{x:bu}:∀{G:bt}{n:Nat},qH od G->(∀r∈G,r.length=w)->G.Nodup->(x∈G.take n↔x∈G/\(G.countP λy=>decide (jZ od y x<0))<n)
 |[],n,_,_,_=>bg
 |a::G,0,_,_,_=>bg
 |a::G,n+1,f,o,t=>by
  have f:=pairwise_cons.1 f;have t:=nodup_cons.1 t;have A:=Lv (x:=x) (G:=G) (n:=n) f.2 (λr B=>o r (mem_cons_of_mem _ B)) t.2;have c:=o a (mem_cons_self ..);rw[take_succ_cons,mem_cons,A,mem_cons,countP_cons];by_cases j:x=a
  .subst j;have u:¬jZ od x x<0:=by have:=Dn (od:=od) c c;omega
   have z:(G.countP λy=>decide (jZ od y x<0))=0:=countP_eq_zero.2 λy C=>bj (f.1 y C)
   rw[z,if_neg (bj u)];simp
  .by_cases d:x∈G
   .have g:=o x (mem_cons_of_mem _ d);have u:=f.1 x d;have z:=Dn (od:=od) c g;have D:jZ od a x≠0:=λe=>j (aBJ c g e).symm;rw[if_pos (by simp;omega)];simp[j,d]
   .simp[j,d]
theorem PR{l:bt}(h:nJ l):l.Nodup:=by
 rw[nodup_iff_pairwise_ne];exact h.imp fun{a b} c e=>by subst e;have:=FL.anti a a;omega
def LF(gr:br)(x y:bu):Bool:=eC (pick x gr) (pick y gr)==0
theorem afJ{x y:bu}:LF gr x y=true↔pick x gr=pick y gr:=by
 simp only[LF,beq_iff_eq,lC]
def C9(gr:br)(od:bz)(li:Int)(a b:bt):bt:=a.filter λx=>decide (((b.countP λy=>LF gr x y&&decide (jZ od y x<0):Nat):Int)<li)
def Us(q:Query)(ls:List bt):bt:=match q with|.mk _ _ _ _ _ gr od li _=>C9 gr od li (ls.getD 0 []) (ls.getD 0 [])
def Ke(q:Query)(ls:List bt):Prop:=match q with|.mk _ _ _ _ _ gr _ li _=>1<=ls.length/\(∃w,gR w (ls.getD 0 [])/\hZ w gr)/\0<=li
theorem aMX{κ:bu->ByteArray}(f:Y4 κ){w:Nat}{l:bt}(c:gR w l)(d:hZ w gr){x y:bu}(hx:Mq x)(g:x.length=w)(e:y∈l):κ (pick y gr)=κ (pick x gr)↔LF gr x y=true:=by
 rw[afJ];have:=f.inj (a:=pick y gr) (b:=pick x gr) (by simp[pick]) (Ij (c.row y e) (by rw[c.wid y e];exact d)) (Ij hx (by rw[g];exact d));rw[this];exact eq_comm
theorem FB{κ:bu->ByteArray}(c:Y4 κ){w:Nat}{l:bt}(d:gR w l)(e:hZ w gr){x:bu}(hx:Mq x)(f:x.length=w):
 ((kC κ gr l (κ (pick x gr))).countP λy=>decide (jZ od y x<0))=l.countP λy=>LF gr x y&&decide (jZ od y x<0):=by
 rw[kC,countP_filter];refine countP_congr λy g=>?_;have j:=aMX c d e hx f g;simp only[Bool.and_eq_true,decide_eq_true_eq];rw[j,and_comm]
theorem V5{α:Type}{p q:α->Bool}:∀{l:List α},(∀x∈l,¬(p x=true/\q x=true))->l.countP p+l.countP q=l.countP λx=>p x||q x
 |[],_=>rfl
 |a::l,h=>by
  have d:=V5 (l:=l) λx c=>h x (mem_cons_of_mem _ c);have e:=h a (mem_cons_self ..);rw[countP_cons,countP_cons,countP_cons];cases f:p a<;>cases g:q a<;>simp_all<;>omega
theorem akX{κ:bu->ByteArray}(E:Y4 κ){y w:Nat}{l:bt}{kk:cj}{g:ByteArray->bt}(n:pE κ m h y gr od l kk g)(c:gR w l)(d:hZ w gr)(F:0<=li)(x:bu):
 x∈C9 gr od li l l↔∃p∈kk,x∈(g p.1).take li.toNat:=by
 have u:∀k r,r∈g k->r∈l/\κ (pick r gr)=k:=λk r t=>by
  have:=(n.perm k).mem_iff.1 t;simpa[kC]using this
 have G:∀k,(g k).Nodup:=λk=>(n.perm k).nodup_iff.2 ((PR c.srt).sublist filter_sublist);have z:∀k,x∈(g k).take li.toNat↔x∈g k/\((g k).countP λy=>decide (jZ od y x<0))<li.toNat:=λk=>Lv (n.sort k) (λr t=>c.wid r (u k r t).1) (G k)
 have A:x∈l->((g (κ (pick x gr))).countP λy=>decide (jZ od y x<0))=l.countP λy=>LF gr x y&&decide (jZ od y x<0):=λf=>by
  rw[(n.perm _).countP_eq];exact FB E c d (c.row x f) (c.wid x f)
 rw[C9,mem_filter];constructor
 .rintro⟨f,B⟩;have B:=of_decide_eq_true B;have j:x∈g (κ (pick x gr)):=(n.perm _).mem_iff.2 (by simp[kC,f])
  have o:κ (pick x gr)∈kk.map Prod.fst:=by
   by_cases o:κ (pick x gr)∈kk.map Prod.fst
   .exact o
   .rw[n.none_ _ o]at j;cases j
  obtain⟨p,C,e⟩:=mem_map.1 o;refine⟨p,C,?_⟩;rw[e];exact(z _).2 ⟨j,by rw[A f];omega⟩
 .rintro⟨p,C,f⟩;obtain⟨H,I⟩:=(z _).1 f;obtain⟨D,J⟩:=u _ _ H;rw[<-J,A D]at I;exact⟨D,decide_eq_true aC⟩
open Classical in
structure EO(κ:bu->ByteArray)(gr:br)(li:Int)(l:bt)(kk:cj)(g:ByteArray->bt)(left:cd)(acc:bt):Prop where
 mem:∀x,x∈acc↔∃p∈kk,(Value.string p.1,dT p.2)∉left/\x∈(g p.1).take li.toNat
 cnt:acc.length+(l.countP λz=>decide (Value.string (κ (pick z gr))∈left.map Prod.fst))<=l.length
open Classical in
theorem EO.start{κ:bu->ByteArray}{gr:br}{li:Int}{l:bt}{kk:cj}{g:ByteArray->bt}:EO κ gr li l kk g (kk.map λp=>(Value.string p.1,dT p.2)) []:=by
 refine⟨λx=>⟨λe=>(by cases e),?_⟩,?_⟩
 .rintro⟨p,c,d,_⟩;exact(d (mem_map_of_mem (f:=λp:ByteArray×Sl=>(Value.string p.1,dT p.2)) c)).elim
 .rw[length_nil,Nat.zero_add];exact countP_le_length
theorem aiQ{kk:cj}(d:(kk.map Prod.fst).Nodup):(kk.map λp=>(Value.string p.1,dT p.2)).Nodup:=by
 rw[nodup_iff_pairwise_ne,pairwise_map]at d;rw[nodup_iff_pairwise_ne,pairwise_map];exact d.imp λc e=>c (by simp only[Prod.mk.injEq,Value.string.injEq]at e;exact e.1)
open Classical in
theorem EO.step{κ:bu->ByteArray}{m M:MH}{h:PH}{y O r:Nat}{gr:br}{od:bz}{li:Int}{l A:bt}{kk:cj}{g:ByteArray->bt}{left f j:cd}{c:ByteArray×Sl}(st:EO κ gr li l kk g left A)(H:pE κ m h y gr od l kk g)(B:kE M O r (kk.map λp=>(Value.string p.1,dT p.2)) left)(n:c∈kk)(d:left=f++(Value.string c.1,dT c.2)::j):
 EO κ gr li l kk g (f++j) (A++(g c.1).take li.toNat):=by
 have C:=kE.nodup B (aiQ H.nodup);rw[d]at C
 have e:(Value.string c.1,dT c.2)∉f++j:=λh=>by
  have J:=nodup_append.1 C;have o:=nodup_cons.1 J.2.1;rcases mem_append.1 h with h|h
  .exact J.2.2 _ h _ (mem_cons_self ..) rfl
  .exact o.1 h
 have D:∀x∈f++j,x∈left:=λx h=>by rw[d];rcases mem_append.1 h with h|h;exact mem_append_left _ h;exact mem_append_right _ (mem_cons_of_mem _ h)
 refine⟨λx=>?_,?_⟩
 .rw[mem_append,st.mem];constructor
  .rintro(⟨p,t,I,u⟩|u)
   .exact⟨p,t,λh=>I (D _ h),u⟩
   .exact⟨c,n,e,u⟩
  .rintro⟨p,t,I,u⟩;by_cases E:p=c
   .subst E;exact .inr u
   .refine .inl ⟨p,t,λh=>?_,u⟩;rw[d]at h;rcases mem_append.1 h with h|h
    .exact I (mem_append_left _ h)
    .rcases mem_cons.1 h with h|h
     .simp only[Prod.mk.injEq,Value.string.injEq]at h;exact E (Nf H.nodup t n h.1)
     .exact I (mem_append_right _ h)
 .have L:Value.string c.1∉(f++j).map Prod.fst:=λh=>by
   obtain⟨z,F,G⟩:=mem_map.1 h;obtain⟨p,t,rfl⟩:=mem_map.1 (kE.mem B (D _ F));simp only[Value.string.injEq]at G;have:=Nf H.nodup t n G;subst this;exact e F
  have J:=V5 (l:=l) (p:=λz=>decide (Value.string (κ (pick z gr))∈(f++j).map Prod.fst)) (q:=λz=>decide (κ (pick z gr)=c.1)) (λz _⟨o,P⟩=>by
   have o:=of_decide_eq_true o;rw[of_decide_eq_true P]at o;exact L o)
  have R:(l.countP λz=>decide (Value.string (κ (pick z gr))∈(f++j).map Prod.fst)||decide (κ (pick z gr)=c.1))=l.countP λz=>decide (Value.string (κ (pick z gr))∈left.map Prod.fst):=by
   refine countP_congr λz _=>?_;rw[d];simp only[Bool.or_eq_true,decide_eq_true_eq,map_append,map_cons,mem_append,mem_cons,Value.string.injEq];constructor
   .rintro((h|h)|h)
    .exact .inl h
    .exact .inr (.inr h)
    .exact .inr (.inl h)
   .rintro(h|h|h)
    .exact .inl (.inl h)
    .exact .inr h
    .exact .inl (.inr h)
  have S:(kC κ gr l c.1).length=l.countP λz=>decide (κ (pick z gr)=c.1):=by rw[kC,countP_eq_length_filter]
  have Q:=(H.perm c.1).length_eq;have:=st.cnt;rw[length_append,length_take];omega
theorem EO.done{κ:bu->ByteArray}(j:Y4 κ){y w:Nat}{l e:bt}{kk:cj}{g:ByteArray->bt}(st:EO κ gr li l kk g [] e)(n:pE κ m h y gr od l kk g)(c:gR w l)(d:hZ w gr)(f:0<=li):C9 gr od li l l=Fe e:=
 Zg (c.srt.sublist filter_sublist) λx=>by rw[akX j n c d f,st.mem];simp
theorem Uo{h:PH}{s:Sl}{l:bt}{li:Int}(t:Rows h s l)(y:0<=li):(0<=if(s.len:Int)<li then(s.len:Int)else li)/\(if(s.len:Int)<li then(s.len:Int)else li)<=s.cap/\∃us:ca,cZ h ⟨s.a,(if(s.len:Int)<li then(s.len:Int)else li).toNat,s.cap⟩ 1 (us.map eS)/\eE h us (l.take li.toNat)/\us.length<=l.length:=by
 obtain⟨⟨c,d,f,g⟩,_⟩:=t;have z:s.len=c.length:=by have:=d.len;simpa using this
 have A:((if(s.len:Int)<li then(s.len:Int)else li).toNat)=min c.length li.toNat:=by split<;>omega
 have n:=d.cap;refine⟨by split<;>omega,by split<;>omega,c.take (min c.length li.toNat),?_,⟨by simp[f];omega,λj x e=>?_⟩,by simp;omega⟩
 .rw[A,map_take];exact cZ.cut d _ (by simp;omega)
 .rw[getElem?_take]at e;split at e
  .obtain⟨u,o,B⟩:=g j x e;have:=(List.getElem?_eq_some_iff.1 o).1;exact⟨u,by rw[getElem?_take,if_pos aC];exact o,B⟩
  .cases e
theorem Xq:bk 213 (TX Ke Us):=by
 refine Hg func213 ?_;rintro c5 m h K ⟨v,t,q,bs,ls,rfl,hq,ha,hT,b2,hK⟩;refine⟨aTX,rfl,aD OI (aD EK aF),KJ v t m h (cE h K),bf,?_⟩;show KJ v t m h (cE h K);dsimp only[KJ,push_cast];obtain⟨op,ta,w,co,on,gr,od,li,args⟩:=q;obtain⟨c6,⟨wd,f,A⟩,a'⟩:=b2;intro b m1 b3 a0;obtain⟨s1,n1⟩:=gH (Sub.refl m) b3 a0;have S:m1 b=some (.cells ⟨v.enc⟩ 35 (0,0)):=a0.at_;obtain⟨b1,b4,x,ea,c7,rd,sq⟩:=ha.get (E0 (i:=0) aC);simp only[Us]at hK;generalize ls.getD 0 []=l at hK f sq;have c8:=f.len;refine⟨v,.of_m S (take_length ..),b1,b4,ea,aC,aC,x,.imm rd,v,x,gr,od,l,wd,rfl,hq.parts.group_,hq.parts.order_,sq,f,A,hT.sub s1,λy m2 h2 kk g hy R I hg=>?_⟩;have yb:b≠y:=λe=>by rw[<-e,S]at hy;cases hy
 have T:m2 b=some (.cells ⟨v.enc⟩ 35 (0,0)):=by rw[R b yb];exact S
 have s2:Sub m m2:=λz o e=>by rw[R z (λG=>by have:=s1 z o e;rw[G,hy]at this;cases this)];exact s1 z o e
 refine⟨.of_m T (take_length ..),.imm (rd.mono I),_,hg.map_,λr H J a1 it=>?_⟩;have rb:b≠r:=λe=>by have:=J.m_;rw[<-e,T]at this;cases this
 have a2:H b=some (.cells ⟨v.enc⟩ 35 (0,0)):=by rw[a1.other b rb];exact T
 have s3:Sub m H:=λz o e=>by
  have:=s2 z o e;rw[a1.other z (λG=>by rw[G,J.m_]at this;cases this)];exact this
 classical
 have b5:∃o,H y=some o:=by obtain⟨es,c,d,B,c0,L,_⟩:=it.ex;exact⟨_,L⟩
 have a3:∃o,H r=some o:=by obtain⟨es,c,d,B,c0,L,i2,i3,i4,i5,_⟩:=it.ex;exact⟨_,i5⟩
 have yr:y≠r:=λe=>by
  obtain⟨es,c,L,_⟩:=hg.map_;rw[e,J.m_]at L;cases L
 refine⟨.of_m a2 (take_length ..),.imm (rd.mono I),λz=>z.1=b/\z.2.2.1=r/\z.2.2.2.2=h2/\(∀x o,H x=some o->x≠r->z.2.2.2.1 x=some o)/\∃left U u,kE z.2.2.2.1 y r (kk.map λp=>(Value.string p.1,dT p.2)) left/\cR z.2.2.2.1 z.2.1 100 1 (U.map eS)/\(∀x i,z.2.1.a=some ⟨x,i,none⟩->H x=none)/\eE h2 U u/\EO dP gr li l kk g left u,λz=>leftOf z.2.2.2.1 z.2.2.1,⟨(b,⟨none,0,0⟩,r,H,h2),⟨rfl,rfl,rfl,λx o e _=>e,_,[],[],it,⟨Ao [],.inl ⟨rfl,rfl⟩⟩,(λx i e=>by cases e),eE.nil _,.start⟩,MT⟩,?_⟩
 .rintro⟨b',s,M,mz,hz⟩ ⟨e1,G,e3,C,left,U,u,D,E,V,O,rk⟩;dsimp only at e1 G e3 C D E V O rk⊢
  subst e1 G e3;have c3:u.length<=l.length:=by have:=rk.cnt;omega
  have c9:=O.len;refine⟨y,_,left,D,λW=>?_,λl1 x1 l2 X m4 P Q=>?_⟩
  .subst W;refine⟨s,U,u,rfl,E.src,O,aC,λs' h' a4 b6=>cE.sub (λz o e=>C z o (s3 z o e) (λG=>?_)) (I.trans a4) (hK s' h' (I.trans a4) ?_)⟩
   .have:=s2 z o e;rw[G,J.m_]at this;cases this
   .rw[rk.done Ol hg f A a'];exact b6
  .have b7:x1∈left:=by rw[X];simp
   obtain⟨p0,a5,rfl⟩:=mem_map.1 (kE.mem D b7);have n:∀{x},(∃o,H x=some o)->∀i,s.a≠some ⟨x,i,none⟩:=fun{x}⟨o,ho⟩ i e=>by rw[V x i e]at ho;cases ho
   have b8:m4 b'=some (.cells ⟨v.enc⟩ 35 (0,0)):=by rw[P.other b' rb];exact C b' _ a2 rb
   have Y:cR m4 s 100 1 (U.map eS):=cR.keep E λx i e=>P.other x λG=>n a3 i (G▸e);refine⟨λc=>c=(b',s,p0.2,M,m4,hz),⟨y,_,_,_,Q,⟨(b',s,p0.2,M,m4,hz),rfl,rfl,rfl,rfl,rfl,rfl,rfl,trivial⟩⟩,?_⟩;rintro c rfl;dsimp only;have a6:v.limit=li:=hq.parts.limit_;obtain⟨c1,c2,a7,b9,c',d'⟩:=Uo (li:=li) (hg.rows p0 a5) a';have d0:=(hg.perm p0.1).length_eq;have c4:(kC dP gr l p0.1).length<=l.length:=length_filter_le _ _;refine⟨li,.of_m b8 (by rw[<-a6];rfl),c1,c2,U.map eS,Y,a7.map eS,Ao _,.imm b9,by simp;omega,by simp;omega,λs' m5 F=>?_⟩
   .have a8:∀x o,H x=some o->x≠M->m5 x=some o:=λx o e a9=>F.other x o (by rw[P.other x a9];exact C x o e a9) (n ⟨o,e⟩)
    have b0:kE m5 y M (kk.map λp=>(Value.string p.1,dT p.2)) (l1++l2):=by
     obtain⟨es,c,d,B,c0,L,i2,i3,i4,i5,_⟩:=Q.it.ex;exact kE.keep Q.it (by rw[L];exact F.other y _ L (n b5)) (by rw[i5];exact F.other M _ i5 (n a3))
    refine⟨(b',s',M,m5,hz),⟨rfl,rfl,rfl,a8,_,U++a7,u++(g p0.1).take li.toNat,b0,?_,λx i e=>?_,O.app c',rk.step hg D a5 X⟩,?_,rfl,rfl,rfl,rfl,rfl,trivial⟩
    .rw[map_append];exact F.row
    .rcases F.fresh x i e with h5|⟨j,h5⟩
     .cases e6:H x with
      |none=>rfl
      |some o=>
       by_cases Z:x=M
       .obtain⟨es,c,d,B,c0,L,i2,i3,i4,i5,_⟩:=Q.it.ex;rw[Z,i5]at h5;cases h5
       .rw[P.other x Z,C x o e6 Z]at h5;cases h5
     .exact V x j h5
    .show leftOf m5 M<leftOf mz M;rw[kE.left_ b0,kE.left_ D,X];simp
def Z3:Vc.Spec:=λc m h K=>∃(n d e f:Nat)(v:QV)(od:bz)(g s:Sl)(rs:bt)(r:bu)(w:Nat),c=[cI n,.val (.func (.func 241) #[] #[.pointer (some ⟨d,0,none⟩),.pointer (some ⟨e,0,none⟩),.pointer (some ⟨f,0,none⟩)])]/\
 m d=some (.cells ⟨QV.enc v⟩ 35 (0,0))/\m e=some (.cells #[Sl.val g] 68 (0,0))/\m f=some (.cells #[Sl.val s] 100 (0,0))/\gZ h v.order od/\Rows h g rs/\bP h s r/\rs.length=n/\qH od rs/\(∀x∈rs,x.length=w)/\r.length=w/\
 K (cI ((rs.countP λy=>decide (jZ od y r<0):Nat):Int)) m h
noncomputable def aTQ:Ctx:=Tv [(240,TO),(236,beX),(134,Z3)] [] [(2,{A:=Sl×Nat×Nat×MH×PH,st:=λ⟨t,b,c,m,h⟩=>bO 38 40 [(1,sv t),(2,vv (.pointer (some ⟨b,0,none⟩))),(5,vv (.pointer (some ⟨c,0,none⟩)))] [] m h}),
 (6,{A:=Nat×Nat×Nat×Nat×MH×PH,st:=λ⟨b,o,e,g,m,h⟩=>bO 38 40 [(2,vv (.pointer (some ⟨b,0,none⟩))),(6,vv (.pointer (some ⟨o,0,none⟩))),(7,vv (.pointer (some ⟨e,0,none⟩))),(8,vv (.pointer (some ⟨g,0,none⟩)))] [] m h})] [200002,200005,200006,200007,200008,1068,400000,0]
noncomputable abbrev uQ(a:Sl×Nat×Nat×MH×PH):Nat:=a.2.2.1
abbrev DR(a:MH)(b:Nat)(c:Value)(d:MH->(Nat×Nat×Nat×Nat×MH×PH)->Prop):Prop:=Fp (λx e=>aA (Lo a b (qL x e 0)) (0<x.size) (∀(f:MH),cM a f b (xS c 1 x.toList) e->∃(g:Nat×Nat×Nat×Nat×MH×PH),d f g))
abbrev D2(a:Nat×Nat×Nat×Nat×MH×PH->Prop)(b:Nat×Nat×Nat×Nat×MH×PH)(c:Sl×Nat×Nat×MH×PH)(d e g:Nat)(i:MH)(j:PH):Prop:=aA (a b) (cH c.2.1 b.1) (aA (cH d b.2.1) (cH e (fU b.2)) (aA (cH g (fT b.2)) (cT i (fW b.2)) (eA j (fW b.2)/\True)))
abbrev Kl(a:Sl->Sl->bt->Prop):Prop:=mS (λx c=>∃(d:bt),a x c d)
noncomputable abbrev IY(a b c d e:Nat):CV:=DY (Fn.func a) (Array.mk (bA (WE b 0) (WE c 0) (jD (WE d e))))
abbrev IK(a:bt)(b:bu->Prop):Prop:=∀(x:bu),List.Mem x a->b x
attribute [push_cast] uQ DR D2 Kl IY IK
def KI(v:QV)(t:Sl)(m:MH)(h:PH)(K:bo):Prop:=
  fR (λb M=>aY (bW m h b) (cM m M b v.enc 35) (∃(I:Sl×Nat×Nat×MH×PH->Prop),AX M h b 0 (λy=>aK (λG o=>aA (aL t.a G o) ((0:Int)<=1) (1<aG t/\∃(C:Nat),aA (aJ M h G (o+1) (wA C)) (∃(J:QV)(u:Nat),Km (λg T=>∃(l:bt)(w:Nat),Gv (gJ (dL y) (mM 205 C)) (gJ (dL J) (mM 205 u)) h J.group g (gZ h J.order T) (P4 h u l) w l M (λD H d k U=>Gh M D H (dA h d (pE dP H d D g T l k U) (aA (aJ H d b 0 y.enc) (aJ H d G (o+1) (wA C)) (fR (λz L=>aY (bW H d z) (cM H L z (jD CY) 185) (fN L z (BE D) (λQ=>∃(x:Sl×Nat×Nat×MH×PH),aA (I x) (bB t x.1) (aA (cH b x.2.1) (cH z (uQ x)) (gX (cT Q x.2.2.2) (eA d
 x.2.2.2)))))))))))) (aA (aJ M h b 0 y.enc) (aJ M h G (o+1) (wA C)) (fR (λz H=>aY (bW M h z) (cM M H z (jD CY) 185) (∃(J:QV)(u:Nat),Km (λg T=>∃(l:bt)(w:Nat),Gv (gJ (dL y) (mM 205 C)) (gJ (dL J) (mM 205 u)) h J.group g (gZ h J.order T) (P4 h u l) w l H (λD L d k U=>Gh H D L (dA h d (pE dP L d D g T l k U) (fN L z (BE D) (λQ=>∃(x:Sl×Nat×Nat×MH×PH),aA (I x) (bB t x.1) (aA (cH b x.2.1) (cH z (uQ x)) (gX (cT Q x.2.2.2) (eA d x.2.2.2)))))))))))))))/\∀(x:Sl×Nat×Nat×MH×PH),I x->DS (mO x.2.2) (jO x.2.2) x.1 (λG H y S=>uK S (jO x.2.2) y H (λI1 k e L d=>I1 k L d->fR (λz Q=>aY (bW L d z) (cM L Q z gA
 100) (fN Q z (dT e) (λj=>∃(I2:Nat×Nat×Nat×Nat×MH×PH->Prop),(∃(C:Nat),aJ j d (uQ x) 0 (lV C)/\∃(D:Sl),aJ j d z 0 (aM D)/\∃(E:Sl),aA (aJ j d x.2.1 17 (aM E)) (aJ j d (uQ x) 0 (lV C)/\∃(s:Sl),Ci D E s d j (uQ x) C (λr c=>aA (aJ j d z 0 (aM D)) (aJ j d x.2.1 17 (aM E)) (p8 j C (λO=>O (dE r c)) (dE r c) (aA (cV j d (uQ x) C) (aJ j d z 0 (aM D)) (aJ j d x.2.1 17 (aM E)/\fR (λA B=>aY (bW j d A) (cM j B A gA 68) (DR B A rV (λF f=>D2 I2 f x G z A F d))))) (λP=>aA (cV j d (uQ x) C) (aJ j d z 0 (aM D)) (aJ j d x.2.1 17 (aM E)/\fR (λA B=>aY (bW j d A) (cM j B A gA 68) (DR B A
 (dT P) (λF f=>D2 I2 f x G z A F d))))))) (λr c=>aA (cV j d (uQ x) C) (aJ j d z 0 (aM D)) (aJ j d x.2.1 17 (aM E)/\fR (λA B=>aY (bW j d A) (cM j B A gA 68) (aA (aJ B d z 0 (aM D)) (aJ B d x.2.1 17 (aM E)) (p8 B C (λO=>O (dE r c)) (dE r c) (DR B A rV (λF f=>D2 I2 f x G z A F d)) (λP=>DR B A (dT P) (λF f=>D2 I2 f x G z A F d)))))))) (aA (cV j d (uQ x) C) (aJ j d z 0 (aM D)) (aJ j d x.2.1 17 (aM E)/\fR (λA B=>aY (bW j d A) (cM j B A gA 68) (aJ B d (uQ x) 0 (lV C)/\∃(s:Sl),Ci D E s d B (uQ x) C (λ_ _=>aJ B d z 0 (aM D)) (λr c=>aJ B d x.2.1 17 (aM E)/\p8 B C (λO=>O (dE
 r c)) (dE r c) (DR B A rV (λF f=>D2 I2 f x G z A F d)) (λP=>DR B A (dT P) (λF f=>D2 I2 f x G z A F d))))))))/\∀(f:Nat×Nat×Nat×Nat×MH×PH),I2 f->∃(C:Sl),aJ (jS f.2) (iE f.2) (fT f.2) 0 (aM C)/\aK (λn A=>aK (λW X=>∃(J:QV)(o:bz),Kl (λg s r=>∃(V:bu)(w:Nat),aA (gJ (fQ (aG C)) (IY 241 f.1 (fT f.2) (fU f.2) 0)=gJ (fQ (↑n:Int)) (IY 241 A W X 0)) ((fW f.2).1 A=Option.some (qL (Array.mk J.enc) 35 0)) (aA ((fW f.2).1 W=Option.some (qL (Array.mk (aM g)) 68 0)) ((fW f.2).1 X=Option.some (qL (Array.mk (aM s)) 100 0)) (aA (gZ (iE f.2) J.order o) (Rows (iE f.2) g r) (aA (bP (iE f.2) s V) (r.length=n) (aA (qH o r)
 (IK r (λR=>R.length=w)) (V.length=w/\uN (jS f.2) (iE f.2) f.1 19 (λD=>aZ (↑(countP (fun(E:bu)=>decide (jZ o E V<0)) r):Int) D (rI (jS f.2) (iE f.2) f.2.1 0 (λE P=>Hz (jS f.2) (iE f.2) (fU f.2) 0 P (λR=>aA (cR (jS f.2) (dJ E) 100 1 R) (iL R) (dO R/\iF (λY B=>eK (jS f.2) B (dJ E) Y 100 1 (iN R P)->fN B f.2.1 (dT Y) (λF=>I1 (k+1) F (iE f.2))))))) (I1 (k+1) (jS f.2) (iE f.2))))))))))))))) (λf I1=>D3 (jO x.2.2) I1 f G K))))
theorem Jl{w:World}{q:Nat}{c:Array Obj}(d:b<w.heap.size):(Sort.grow (w.drewN q) c).heap[b]? =w.heap[b]? :=by
 show((w.drewN q).heap++c)[b]? =_;rw[Array.getElem?_append_left (show b<(w.drewN q).heap.size from d)];rfl
theorem Wa{P:Program}{g:Nat}{cs:bm}{m:MH}{h:PH}{S:Vc.Spec}{r:CV}{u:Value}(L:Sound P g S)(M:S (cs.map .val) m h λr' m' h'=>r'=r/\m'=m/\h'=h)(O:∀w D,Du w r D->D=u){w:World}
 (Q:∀b o v,h b o=some v->w.cell? ⟨b,o,none⟩=some v)(R:∀b o,m b=some o->w.heap[b]? =some o)(T:∀b o,m b=some o->∀i,h b i=none)(E:Nat)(F:Array Obj):
 Calls P g cs.toArray (Sort.grow (w.drewN E) F) λe w'=>e= .returned u/\∃q G,w'=Sort.grow ((Sort.grow (w.drewN E) F).drewN q) G:=by
 obtain⟨W,J⟩:∃W,Sort.grow (w.drewN E) F=W:=⟨_,rfl⟩
 rw[J];have C:∀b,b<w.heap.size->W.heap[b]? =w.heap[b]? :=λb n=>by rw[<-J];exact Jl n
 have y:∀(l:bm)(w:World),BV w (l.map .val) l:=λl w=>by
  induction l with
  |nil=>trivial
  |cons a l U=>exact⟨rfl,U⟩
 have z:∀(l:bm)(i:Nat)(c:CV)(u:Value)(b:Nat),(l.map CV.val)[i]? =some c->gE c u=some b->False:=λl i c u b f n=>by
  rw[getElem?_map]at f;cases e:l[i]? with
  |none=>rw[e]at f;cases f
  |some v=>rw[e]at f;simp at f;subst f;simp[gE]at n
 have t:Al W m h (cs.map .val) cs:=by
  refine⟨y _ _,?_,?_,T,λi j c d u v b f _ _ _ n _=>(z _ i c u b f n).elim,λi c u b f _ n=>(z _ i c u b f n).elim⟩
  .intro b o v V;have A:=Q b o v V;rw[World.cell?_of_block (w:=w) (w':=W) (a:=⟨b,o,none⟩) (C b (World.block_lt_of_cell? w ⟨b,o,none⟩ A))];exact A
  .intro b o n;have A:=R b o n;rw[C b (Array.getElem?_eq_some_iff.1 A).1];exact A
 refine(L.2 _ _ m h W _ M t).mono ?_;rintro e w' ⟨r',D,m',h',rfl,⟨rfl,rfl,rfl⟩,H,B,_⟩;have X:=O _ _ H;subst X;refine⟨rfl,Lq B.tape B.os B.output B.drawn B.size (λb n=>?_)⟩;cases I:m' b with
 |none=>
  refine B.frame b n ?_;rintro(A|⟨i,c,u,f,_,Y⟩)
  .exact A I
  .exact z _ i c u b f Y
 |some o=>rw[B.msat b o I];exact(t.msat b o I).symm
theorem NH{g:Nat}{S R:Vc.Spec}(V:bk g S)(hR:∀A m h K,R A m h K->∃(n D E F H:Nat)(od:bz)(rs:bt)(r:bu),A=[cI n,.val (.func (.func g) #[] #[.pointer (some ⟨D,0,none⟩),.pointer (some ⟨E,0,none⟩),.pointer (some ⟨F,0,none⟩)])]/\rs.length<=502633886983/\rs.length=n/\qH od rs/\(∀x∈rs,x.length=H)/\r.length=H/\
 (∀(i:Nat) x,rs[i]? =some x->S ([.int .i64 i,.pointer (some ⟨D,0,none⟩),.pointer (some ⟨E,0,none⟩),.pointer (some ⟨F,0,none⟩)].map .val) m h λr' m' h'=>r'=cB (decide (jZ od x r>=0))/\m'=m/\h'=h)/\K (cI ((rs.countP λy=>decide (jZ od y r<0):Nat):Int)) m h):bk 134 R:=by
 refine⟨⟨Tryz.f134,func134,rfl,bh⟩,?_⟩;intro A W m h w K h0 f;obtain⟨n,D,E,F,H,od,rs,r,rfl,X,rfl,I,Y,j,hS,hK⟩:=hR _ _ _ _ h0
 obtain⟨v1,G,rfl⟩:∃v G,W=[v,G]:=by
  have:=(nY f.args).1
  match W,this with
  |[v,G],_=>exact⟨v,G,rfl⟩
 have B:v1= .int .i64 rs.length:=f.args.1;have h2:G= .func (.func g) #[] #[.pointer (some ⟨D,0,none⟩),.pointer (some ⟨E,0,none⟩),.pointer (some ⟨F,0,none⟩)]:=f.args.2.1;subst B h2
 have eg:∀args w,(callFunc g args).run Tryz.prog w= .ok (.enter g args) w:=λargs w=>by
  obtain⟨Z,J,c,hn⟩:=V.1;have L:¬Z.body=none:=by intro e;rw[e]at c;cases c
  have M:¬Z.name= "runtime.NumGoroutine" :=bj hn
  simp[callFunc,program,Sem.run,J,M,L]
 have C:=Any.sort_Search Tryz.searchO g #[.pointer (some ⟨D,0,none⟩),.pointer (some ⟨E,0,none⟩),.pointer (some ⟨F,0,none⟩)] rs.length (λi=>decide (jZ od (rs.toArray[i]!) r>=0)) w eg aC
  (λmm O i hi=>Wa (cs:=[.int .i64 i,.pointer (some ⟨D,0,none⟩),.pointer (some ⟨E,0,none⟩),.pointer (some ⟨F,0,none⟩)]) V
   (hS i _ (by rw[getElem!_pos _ i (bj hi)];simp[hi])) (λw u' hu=>hu) f.hsat f.msat f.disj mm O)
  (λa b P c d=>?_)
 .refine Calls.mono C ?_;rintro e w' ⟨rfl,q,O,rfl⟩
  have t:((List.range rs.length).countP λi=> !decide (jZ od (rs.toArray[i]!) r>=0))=rs.countP λy=>decide (jZ od y r<0):=by
   have:=Go.Lib.countP_range rs.toArray (λy=> !decide (jZ od y r>=0));rw[size_toArray]at this;rw[this];refine countP_congr λy _=>?_;simp
  rw[t];refine⟨_,_,m,h,rfl,hK,rfl,⟨rfl,rfl,rfl,Nat.le_add_right _ _,?_,λb c _=>Jl c,λb o v Q=>?_,λb o c=>?_,f.disj,λ_ _ _ e=>e,λ_ _ _=>rfl,λb o c=>.inr (.inl (by rw[show m b=some o from c];simp))⟩,λb c=>by cases c⟩
  .show w.heap.size<=((w.drewN q).heap++O).size;rw[Array.size_append];exact Nat.le_add_right _ _
  .have B:=f.hsat b o v Q;rw[World.cell?_of_block (w:=w) (a:=⟨b,o,none⟩) (Jl (World.block_lt_of_cell? w ⟨b,o,none⟩ B))];exact B
  .have B:=f.msat b o c;rw[Jl (Array.getElem?_eq_some_iff.1 B).1];exact B
 .have d:=of_decide_eq_true d;refine decide_eq_true ?_;rcases Nat.lt_or_eq_of_le P with T|rfl
  .have U:a<rs.length:=by omega
   rw[getElem!_pos _ a (bj U)]at d;rw[getElem!_pos _ b (bj c)];simp only[getElem_toArray]at d⊢
   have u:=Y _ (getElem_mem U);have z:=Y _ (getElem_mem c);have h5:=(pairwise_iff_getElem.1 I) a b U c T;have h6:=Dn (od:=od) u z;have h7:=Dn (od:=od) u j;have h8:=Dn (od:=od) z j;rw[CN u z]at h6;have:=(JG H od).trans r rs[a] rs[b] (by rw[<-CN j u];omega) aC;rw[<-CN j z]at this;omega
  .exact d
theorem Yn:bk 134 Z3:=NH Xi λu m h K⟨n,j,o,t,v,od,g,s,rs,r,y,e,z,A,B,C,c,D,E,d,F,f,G⟩=>⟨n,j,o,t,y,od,rs,r,e,by have:=c.len;omega,E,d,F,f,λi x H=>⟨i,j,o,t,v,od,g,s,rs,r,x,rfl,z,A,B,C,c,D,H,rfl,rfl,rfl⟩,G⟩
theorem pE.get2{κ:bu->ByteArray}{y:Nat}{l:bt}{kk:cj}{G:ByteArray->bt}{key:ByteArray}{K0:Prop}{K:Sl->Prop}(g:pE κ m h y gr od l kk G)(n:BU kk key ⟨none,0,0⟩->K0)(o:∀s,BU kk key s->K s):
 ∃(d:List (Value×Sl))(Ok:Value->Prop),mJ m y (d.map λp=>(p.1,dT p.2))/\KeyLaw Tryz.prog 9 Ok/\Ok (.string key)/\(∀e,List.Mem e d->Ok e.1)/\((∀e,List.Mem e d->e.1=Value.string key->False)->K0)/\∀t,List.Mem (Value.string key,t) d->K t:=by
 obtain⟨u,c,z,A,_,_⟩:=g.map_;refine⟨kk.map λp=>(.string p.1,p.2),_,⟨u,c,z,by rw[A];simp⟩,Dy,⟨key,rfl⟩,λe B=>?_,λC=>n (.inl ⟨rfl,λh=>?_⟩),λt D=>o t (.inr ?_)⟩
 .obtain⟨k,_,rfl⟩:=mem_map.1 (show e∈_ from B);exact⟨k.1,rfl⟩
 .obtain⟨p,j,e⟩:=mem_map.1 h;subst e;exact C (.string p.1,p.2) (mem_map_of_mem (f:=λp:ByteArray×Sl=>(Value.string p.1,p.2)) j) rfl
 .obtain⟨p,j,e⟩:=mem_map.1 (show(Value.string key,t)∈_ from D);simp only[Prod.mk.injEq,Value.string.injEq]at e;obtain⟨E,F⟩:=e;subst E F;exact j
theorem pE.keep{κ:bu->ByteArray}{y:Nat}{l:bt}{kk:cj}{G:ByteArray->bt}(g:pE κ m h y gr od l kk G)(d:∀o,m y=some o->m' y=some o)(le:PH.le h h'):pE κ m' h' y gr od l kk G:=by
 obtain⟨e,c,f,j,n,u⟩:=g.map_;exact⟨⟨e,c,d _ f,j,n,u⟩,g.nodup,λp z=>bN.mono (g.rows p z) le (λr t A=>bP.mono A le),g.none_,g.perm,g.sort⟩
theorem pE.at_{κ:bu->ByteArray}{y:Nat}{l:bt}{kk:cj}{G:ByteArray->bt}{key:ByteArray}{s:Sl}(g:pE κ m h y gr od l kk G)(c:BU kk key s):Rows h s (G key):=by
 rcases c with⟨rfl,d⟩|e
 .rw[g.none_ key d];exact(eE.nil h).rows (cZ.nil _ _) bg
 .exact g.rows _ e
structure bGZ(m5:MH)(hh:PH)(bq b9 b2:Nat)(e:Sl)(us2:ca)(Gk:bt)(c:Nat×Nat×Nat×Nat×MH×PH):Prop where
 q:c.1=bq
 o:c.2.1=b9
 b:c.2.2.1=b2
 h:c.2.2.2.2.2=hh
 sub:Ds m5 c.2.2.2.2.1 b9
 out:pD m5 c.2.2.2.2.1 b9 us2
 e_:c.2.2.2.2.1 b2=some (.cells #[dT e] 100 (0,0))
 g_:∃s,c.2.2.2.2.1 c.2.2.2.1=some (.cells #[dT s] 68 (0,0))/\Rows hh s Gk
def Ih(q:Query)(ls:List bt):bt:=match q with|.mk _ _ _ _ _ gr od li _=>C9 gr od li (ls.getD 0 []) (ls.getD 1 [])
def Dh(q:Query)(ls:List bt):Prop:=match q with|.mk _ _ _ _ _ gr _ _ _=>2<=ls.length/\∃w,gR w (ls.getD 0 [])/\gR w (ls.getD 1 [])/\hZ w gr
theorem Xp:bk 214 (TX Dh Ih):=by
 refine Hg func214 ?_;rintro g1 m h K ⟨v,t,q,bs,ls,rfl,hq,ha,hT,f',hK⟩;refine⟨aTQ,rfl,aD OI (aD EG (aD Yn aF)),KI v t m h (cE h K),bf,?_⟩;show KI v t m h (cE h K);dsimp only[KI,push_cast];obtain⟨op,ta,w,co,on,gr,od,li,args⟩:=q;obtain⟨g2,wd,C,u,H⟩:=f';intro b m1 f0 c8;obtain⟨s1,n1⟩:=gH (Sub.refl m) f0 c8;have P:m1 b=some (.cells ⟨v.enc⟩ 35 (0,0)):=c8.at_;obtain⟨b1,f1,x,ea,g3,rd,sq⟩:=ha.get (E0 (i:=1) aC);obtain⟨b6,c9,x6,f2,g0,f3,d'⟩:=ha.get (E0 (i:=0) aC);simp only[Ih]at hK;generalize ls.getD 1 []=l' at hK u sq;generalize ls.getD 0 []=l at hK C d';have g4:=C.len;have a8:=hq.parts.group_;have a9:=hq.parts.order_
 refine⟨λz=>z.1=t/\z.2.1=b/\PH.le h z.2.2.2.2/\Sub m z.2.2.2.1/\z.2.2.2.1 b=some (.cells ⟨v.enc⟩ 35 (0,0))/\∃y kk G,z.2.2.2.1 z.2.2.1=some (.cells #[.map (some y)] 185 (0,0))/\pE dP z.2.2.2.1 z.2.2.2.2 y gr od l' kk G,
  ⟨v,.of_m P (take_length ..),b1,f1,ea,aC,aC,x,.imm rd,⟨v,x,gr,od,l',wd,rfl,a8,a9,sq,u,H,hT.sub s1,λy m2 h2 kk G n D a' hG=>?_⟩,.of_m P (take_length ..),.imm rd,λW m2 d0 a0=>?_⟩,?_⟩
 .have yb:b≠y:=λe=>by rw[<-e,P]at n;cases n
  have Q:m2 b=some (.cells ⟨v.enc⟩ 35 (0,0)):=by rw[D b yb];exact P
  have s2:Sub m m2:=λz o e=>by rw[D z (λd=>by have:=s1 z o e;rw[d,n]at this;cases this)];exact s1 z o e
  refine⟨.of_m Q (take_length ..),.imm (rd.mono a'),λW m3 b0 a1=>⟨_,_,⟨a1.at_⟩,bg,λX I=>⟨(t,b,W,X,h2),⟨rfl,rfl,a',?_,?_,y,kk,G,I.at_,?_⟩,MT⟩⟩⟩
  .obtain⟨s3,n3⟩:=gH s2 b0 a1;exact s3.upd n3 I.other
  .have:b≠W:=λe=>by have:=b0.m_;rw[<-e,Q]at this;cases this
   show X b=_;rw[I.other b this,a1.other b this];exact Q
  .refine hG.keep (λo e=>?_) (.refl _);have:y≠W:=λd=>by rw[d,b0.m_]at e;cases e
   show X y=_;rw[I.other y this,a1.other y this];exact e
 .obtain⟨s2,n2⟩:=gH s1 d0 a0;have d1:b≠W:=λe=>by have:=d0.m_;rw[<-e,P]at this;cases this
  have Q:m2 b=some (.cells ⟨v.enc⟩ 35 (0,0)):=by rw[a0.other b d1];exact P
  refine⟨v,x,gr,od,l',wd,rfl,a8,a9,sq,u,H,hT.sub s2,λy m3 h2 kk G n D a' hG=>?_⟩;have yb:b≠y:=λe=>by rw[<-e,Q]at n;cases n
  have yc:W≠y:=λe=>by rw[<-e,a0.at_]at n;cases n
  have s3:Sub m m3:=λz o e=>by rw[D z (λd=>by have:=s2 z o e;rw[d,n]at this;cases this)];exact s2 z o e
  refine⟨#[.map none],185,⟨by rw[D W yc];exact a0.at_⟩,bg,λX I=>⟨(t,b,W,X,h2),⟨rfl,rfl,a',s3.upd n2 I.other,?_,y,kk,G,I.at_,?_⟩,MT⟩⟩
  .show X b=_;rw[I.other b d1,D b yb];exact Q
  .refine hG.keep (λo e=>?_) (.refl _);show X y=_;rw[I.other y (Ne.symm yc)];exact e
 .rintro⟨t',b',W,X,hh⟩ ⟨e1,d,J,s4,R,y,kk,G,b4,hG⟩;dsimp only at e1 d J s4 R b4 hG⊢
  subst e1 d;intro U m5 d2 a2;obtain⟨s5,n9⟩:=gH s4 d2 a2
  have a3:∀{z o},X z=some o->m5 z=some o/\z≠U:=fun{z o} d=>by
   have:z≠U:=λV=>by rw[V,d2.m_]at d;cases d
   exact⟨by rw[a2.other z this];exact d,this⟩
  obtain⟨us,d3,d4⟩:=(d'.mono J).ex;have f4:=d4.len;refine⟨b6,c9,f2,aC,aC,x6,.imm (f3.mono J),yP,us,λk my n=>n=hh/\Ds m5 my U/\∃f,pD m5 my U f/\f.length<=k/\eE hh f (C9 gr od li (l.take k) l'),xF,⟨x6,us,rfl,d3,rfl⟩,⟨rfl,λz o e _=>e,[],pD.new a2.at_,bg,by simpa[C9]using eE.nil hh⟩,?_,?_⟩
  .rintro k e my n hk-⟨rfl,a4,f,Y,b5,S⟩ b2 m6 f5 d5;obtain⟨r,hr,hv⟩:=d4.at' hk;have g5:=(List.getElem?_eq_some_iff.1 hk).1;have a5:=mem_of_getElem? hr;have b7:=C.wid r a5;have d6:hZ r.length gr:=by rw[b7];exact H
   refine⟨_,_,⟨d5.at_⟩,bg,λL d7=>?_⟩
   have b8:∀{z o},my z=some o->L z=some o/\z≠b2:=fun{z o} d=>by
    have:z≠b2:=λV=>by rw[V,f5.m_]at d;cases d
    exact⟨by rw[d7.other z this,d5.other z this];exact d,this⟩
   have up:∀{z o},X z=some o->L z=some o:=fun{z o} d=>(b8 (a4 z o (a3 d).1 (a3 d).2)).1;have s7:Ds m5 L U:=λz o d c'=>(b8 (a4 z o d c')).1
   have F:∀{ma mb:MH},pD m5 ma U f->(∀z o,ma z=some o->mb z=some o)->pD m5 mb U f:=fun{ma mb} ho hk=>by
    obtain⟨s,h1,h2,h3⟩:=ho.ex;refine⟨s,hk _ _ h1,cR.keep h2 λz i V=>?_,h3⟩;obtain⟨g6,h4⟩:=h2.blk V;rw[h4];exact hk _ _ h4
   have o7:pD m5 L U f:=F Y λz o d=>(b8 d).1;have a6:L b2=some (.cells #[dT e] 100 (0,0)):=d7.at_;have g7:=hG.keep (λo d=>up d) (.refl _);have rc:aJ L n W 0 [Value.map (some y)]:=.of_m (up b4) rfl;have re:aJ L n b2 0 [dT e]:=.of_m a6 rfl;have rg:aJ L n b' 17 [dT v.group]:=.of_m (up R) rfl;have d8:Ints n v.group gr:=a8.mono J;have T7:dU L:=hT.sub λz o d=>up (s4 z o d)
   have fin:∀s,BU kk (dP (pick r gr)) s->∀B M,bW L n B->gG L M B (.cells #[rV] 68 (0,0))->∃(cs:Array Value)(E:TypeId),Lo M B (.cells cs E (0,0))/\0<cs.size/\∀m9,gG M m9 B (.cells (Array.mk (dT s::cs.toList.drop 1)) E (0,0))->
    ∃c:Nat×Nat×Nat×Nat×MH×PH,bGZ m5 n b' U b2 e f (G (dP (pick r gr))) c/\Uk b' 0=Uk c.1 0/\Uk U 0=Uk c.2.1 0/\Uk b2 0=Uk c.2.2.1 0/\Uk B 0=Uk c.2.2.2.1 0/\m9=c.2.2.2.2.1/\n=c.2.2.2.2.2/\True:=λs T B M A g=>by
    refine⟨_,_,⟨g.at_⟩,bg,λm9 d9=>⟨(b',U,b2,B,m9,n),?_,MT⟩⟩
    have c0:∀z o,L z=some o->m9 z=some o:=λz o d=>by
     have:z≠B:=λV=>by rw[V,A.m_]at d;cases d
     rw[d9.other z this,g.other z this];exact d
    exact⟨rfl,rfl,rfl,rfl,λz o d c'=>c0 z o (s7 z o d c'),F o7 c0,c0 _ _ a6,s,d9.at_,hG.at_ T⟩
   have e':∀{B M},bW L n B->gG L M B (.cells #[rV] 68 (0,0))->∀z o,L z=some o->M z=some o:=fun{B M} A g z o d=>by
    have:z≠B:=λV=>by rw[V,A.m_]at d;cases d
    rw[g.other z this];exact d
   refine⟨bGZ m5 n b' U b2 e f (G (dP (pick r gr))),⟨y,rc,e,re,v.group,rg,⟨rc,e,v.group,r,gr,rfl,hv,d8,C.row r a5,d6,T7,rc,⟨re,rg,g7.get2 (λT=>⟨rc,re,rg,fin _ T⟩) (λs T=>⟨rc,re,rg,fin _ T⟩)⟩,rc,re,rg,λB M A g=>?_⟩,rc,re,rg,λB M A g=>?_⟩,?_⟩
   .have u8:=e' A g;exact⟨.of_m (u8 _ _ a6) rfl,.of_m (u8 _ _ (up R)) rfl,(g7.keep (u8 y) (.refl _)).get2 (λT=>fin _ T B M A g) (λs T=>fin _ T B M A g)⟩
   .have u8:=e' A g;have e0:aJ M n W 0 [Value.map (some y)]:=.of_m (u8 _ _ (up b4)) rfl;exact⟨e0,e,v.group,r,gr,rfl,hv,d8,C.row r a5,d6,T7.sub u8,e0,.of_m (u8 _ _ a6) rfl,.of_m (u8 _ _ (up R)) rfl,(g7.keep (u8 y) (.refl _)).get2 (λT=>fin _ T B M A g) (λs T=>fin _ T B M A g)⟩
   .rintro⟨c1,c2,c3,B,mz,hz⟩ ⟨e1,d,V,e4,a7,c4,c5,s,c6,Z⟩;dsimp only at e1 d V e4 a7 c4 c5 c6⊢
    subst e1 d V e4;have e5:∀{z o},X z=some o->mz z=some o:=fun{z o} d=>a7 z o (a3 d).1 (a3 d).2;have O:=FB Ol (od:=od) u H (C.row r a5) b7;rw[<-(hG.perm _).countP_eq]at O;refine⟨s,.of_m c6 rfl,s.len,c1,B,c3,v,od,s,e,G (dP (pick r gr)),r,wd,rfl,e5 R,c6,c5,a9.mono J,Z,hv,Z.slen.symm,hG.sort _,λz f6=>?_,b7,v.limit,.of_m (e5 R) rfl,?_⟩
    .have:=(hG.perm _).mem_iff.1 (show z∈_ from f6);exact u.wid z (mem_filter.1 this).1
    .rw[O];have e6:v.limit=li:=hq.parts.limit_;rw[e6];refine aE (λh1=>?_) (λh1=>?_)
     .obtain⟨so,e7,c7,e8⟩:=c4.ex;refine⟨so,.of_m e7 rfl,e,.of_m c5 rfl,Il ⟨_,a2.at_⟩ a7 e7 c7 e8 aC λm' f7 f8=>⟨rfl,f7,f++[e],f8,by simp;omega,?_⟩⟩;rw[C9,iG _ hr,if_pos (decide_eq_true h1)];exact S.snoc hv
     .refine⟨rfl,a7,f,c4,aC,?_⟩;rw[C9,iG _ hr,if_neg (bj h1),append_nil];exact S
  .rintro my n-⟨rfl,a4,f,Y,b5,S⟩
   rw[f4,take_length]at S;obtain⟨s,hb,e9,f9⟩:=Y.ex;refine⟨s,.of_m hb rfl,cE.row (s5.x n9 a4) J e9 (λj z e=>?_) (λh' le g'=>hK s h' (J.trans le) ((S.mono le).rows g' (by have:=S.len;omega)))⟩;cases d:m z with
   |none=>rfl
   |some o=>have e1:=f9 j z e;rw[s5 z o d]at e1;cases e1
def WQ(op:Int)(q:Query)(ls:List bt):bt:=
 if op=2 then Jr q ls else if op=3 then Ux q ls else if op=4 then UT q ls else if op=5 then Ui q ls else if op=6 then SE q ls else if op=7 then S7 q ls else if op=8 then Tg q ls else if op=9 then Us q ls else Ih q ls
def NZ(op:Int)(q:Query)(ls:List bt):Prop:=
 if op=2 then G9 1 q ls else if op=3 then Kf q ls else if op=4 then Kg q ls else if op=5 then Kd q ls else if op=6 then G9 2 q ls else if op=7 then AE q ls else if op=8 then AE q ls else if op=9 then Ke q ls else Dh q ls
mutual
def lB(ls:List bt):Query->Nat->bt×Nat
 |.mk op ta w co on gr od li args,k=>if op=1 then(ls.getD k [],k+1)else(WQ op (.mk op ta w co on gr od li args) (gM ls args k).1,(gM ls args k).2)
def gM(ls:List bt):ce->Nat->List bt×Nat
 |[],k=>([],k)
 |q::qs,k=>((lB ls q k).1::(gM ls qs (lB ls q k).2).1,(gM ls qs (lB ls q k).2).2)
end
mutual
def Zo(ls:List bt):Query->Nat->Prop
 |.mk op ta w co on gr od li args,k=>if op=1 then k<ls.length else NZ op (.mk op ta w co on gr od li args) (gM ls args k).1/\UI ls args k
def UI(ls:List bt):ce->Nat->Prop
 |[],_=>True
 |q::qs,k=>Zo ls q k/\UI ls qs (lB ls q k).2
end
def bGJ:Vc.Spec:=λc m h K=>∃op,c=[cI op]/\(op=2->K (.val (.agg #[.func (.func 206) #[] #[]])) m h)/\(op=3->K (.val (.agg #[.func (.func 207) #[] #[]])) m h)/\(op=4->K (.val (.agg #[.func (.func 208) #[] #[]])) m h)/\(op=5->K (.val (.agg #[.func (.func 209) #[] #[]])) m h)/\(op=6->K (.val (.agg #[.func (.func 210) #[] #[]])) m h)/\
 (op=7->K (.val (.agg #[.func (.func 211) #[] #[]])) m h)/\(op=8->K (.val (.agg #[.func (.func 212) #[] #[]])) m h)/\(op=9->K (.val (.agg #[.func (.func 213) #[] #[]])) m h)/\((op≠2/\op≠3/\op≠4/\op≠5/\op≠6/\op≠7/\op≠8/\op≠9)->K (.val (.agg #[.func (.func 214) #[] #[]])) m h)
def Leaves(h:PH)(s:Sl)(ls:List bt):Prop:=bN h 1 eS (λl t=>Rows h t l) s ls
def TQ(N:Nat):Vc.Spec:=λe m h K=>∃c v q f d k,e=[cP c,aQ v]/\dQ h q v/\SizeOf.sizeOf q<N/\c≠1/\m c=some (.cells #[Sl.val f,.int .i64 (k:Nat)] 190 (0,0))/\Leaves h f d/\dU m/\Zo d q k/\
 ∀g m' h',PH.le h h'->Rows h' g (lB d q k).1->gG m m' c (.cells #[Sl.val f,.int .i64 ((lB d q k).2:Nat)] 190 (0,0))->K (cS g) m' h'
noncomputable def aYJ(N:Nat)(c:Nat)(v:QV):Ctx:=pF [(137,TQ N),(178,Sh),(179,bGJ),(206,TX (G9 1) Jr),(207,TX Kf Ux),(208,TX Kg UT),(209,TX Kd Ui),(210,TX (G9 2) SE),(211,TX AE S7),(212,TX AE Tg),(213,TX Ke Us),(214,TX Dh Ih)] [(7,{A:=Nat×bm×MH×PH,st:=λ⟨i,l,m,h⟩=>bO 57 59 [(0,pv c),(3,.at (.ptr 3 0)),(6,.at (.lst 33)),(35,sv v.args),(36,iv v.args.len),(37,iv i)] [(3,.cells 35 (v.enc.map .val)),(33,.lst 234 1 (l.map λx=>[x]))] m h})] [] [] [] [] false
abbrev zF(a:bo)(b:Nat)(c:MH)(d:PH):Prop:=a (CV.val (Value.agg (Array.mk (jD (Value.func (Fn.func b) Di Di))))) c d
attribute [push_cast] zF
def axZ(op:Int)(m:MH)(h:PH)(K:bo):Prop:=
  dN (op==2) (zF K 206 m h) (op==3) (zF K 207 m h) (dN (op==4) (zF K 208 m h) (op==5) (zF K 209 m h) (dN (op==6) (zF K 210 m h) (op==7) (zF K 211 m h) (dN (op==8) (zF K 212 m h) (op==9) (zF K 213 m h) (zF K 214 m h))))
abbrev Be(a:Sl)(b:Int)(c:Prop):Prop:=aA (cF (aG a)) (aG a<=aG a) (aA (z8 a b) (yJ (aG a)) c)
abbrev wT(a:Nat)(b:Sl)(c:bm)(d:List bm):Prop:=Option.some (Own.lst a 1 (replicate (aG b).toNat c))=Option.some (Own.lst a 1 d)
noncomputable abbrev wW:Value->bm:=fun(x:Value)=>jD x
noncomputable abbrev Gp(a:Nat×bm×MH×PH):List bm:=List.map wW a.2.1
noncomputable abbrev mL(a:Nat×bm×MH×PH):Nat->Option Obj:=a.2.2.1
noncomputable abbrev rK(a:Nat×bm×MH×PH):Nat->Nat->Option Value:=a.2.2.2
abbrev HB(a:Sl->(List bt)->Prop):Prop:=∃(x:Sl)(c:List bt),a x c
noncomputable abbrev wN(a:Nat)(b:QV):cq:=gJ (uX a 0) (dL b)
abbrev yG(a:Nat)(b:bm):Prop:=a<b.length
attribute [push_cast] Be wT wW Gp mL rK HB wN yG
def RI(N:Nat)(f:Nat)(v:QV)(m:MH)(h:PH)(K:bo):Prop:=
  eD v.op 1 (∃(y:Sl),aJ m h f 0 (aM y)/\∃(j:Int),aJ m h f 1 (bL j)/\aK (λb o=>aA (aL y.a b o) (0<=j) (j<aG y/\∃(B:Sl),aJ m h b (fX o j 1) (aM B)/\∃(C:Int),aJ m h f 1 (bL C)/\sP m f 1 (bL (eT (C+1))) (λn=>K (rC B) n h)))) (Be v.args 8 (∃(I:Nat×bm×MH×PH->Prop)(n:Nat×bm×MH×PH->Nat),(∃(x:Nat×bm×MH×PH),aA (I x) (dD f) (aA (eP 3) (eL 33) (aA (aH v.args) (bG v.args) (aA (bC x.1) (fL v) (aA (wT 234 v.args M5 (Gp x)) (cT m x.2.2) (eA h x.2.2/\True))))))/\∀(x:Nat×bm×MH×PH),I x->aZ (↑x.1:Int) (aG v.args) (aK (λb o=>aA (aL v.args.a b o) (0<=(↑x.1:Int)) ((↑x.1:Int)<aG v.args/\∃(y:QV),aJ (mL x) (rK x) b (bK o
 x.1 21) y.enc/\∃(u:Nat),oU (λd q=>HB (λl z=>∃(k:Nat),aA (wN f y=wN u d) (dQ (rK x) q d) (aA (oR q N) (jU (u=1)) (aA (x.2.2.1 u=Option.some (qL (Array.mk (gV (dT l) (fD (↑k:Int)))) 190 0)) (Leaves (rK x) l z) (aA (dU (mL x)) (Zo z q k) (∀(s:Sl),jQ (λD c=>dA (rK x) c (Rows c s (lB z q k).1) (cM (mL x) D u (gV (dT l) (fD (↑(lB z q k).2:Int))) 190->∃(E:Sl),jP (gW s=gW E) (λF=>∀(A:PH),dA c A (bT A F 0 (aM E)) (oO (↑x.1:Int) (Gp x) (λe=>aA (jC (Gp x) (lK x.1) e) (yG 0 e) (∃(g:Nat×bm×MH×PH),aA (I g) (n g<n x) (aA (dD f) iM (aA (eL 33) (aH v.args) (aA (bG v.args) (bD (fP (bE x.1 1)) g.1) (aA (fL v)
 (Option.some (Own.lst 234 1 (List.set (Gp x) (lK x.1) (xS (Value.func (Fn.func 205) Di (Array.mk (jD (WE F 0)))) 1 e)))=Option.some (Own.lst 234 1 (Gp g))) (aA (cT D g.2.2) (eA A g.2.2) True)))))))))))))))))))) (∃(o:Int),aA (nT v.op=nT o) (o=2->bZ (rK x) 1 (List.map wW x.2.1) (λs c=>∃(d:QV)(t:Sl)(q:Query),AK (λb l=>aA (lG v s=lG d t) (dQ c q d) (aA (tW c t b l) (dU (mL x)) (G9 1 q l/\uU c (Jr q l) K (mL x)))))) (aA (o=3->bZ (rK x) 1 (List.map wW x.2.1) (λs c=>∃(d:QV)(t:Sl)(q:Query),AK (λb l=>aA (lG v s=lG d t) (dQ c q d) (aA (tW c t b l) (dU (mL x)) (Kf q l/\uU c (Ux q l) K (mL x)))))) (o=4->bZ (rK x) 1 (List.map wW x.2.1) (λs
 c=>∃(d:QV)(t:Sl)(q:Query),AK (λb l=>aA (lG v s=lG d t) (dQ c q d) (aA (tW c t b l) (dU (mL x)) (Kg q l/\uU c (UT q l) K (mL x)))))) (aA (o=5->bZ (rK x) 1 (List.map wW x.2.1) (λs c=>∃(d:QV)(t:Sl)(q:Query),AK (λb l=>aA (lG v s=lG d t) (dQ c q d) (aA (tW c t b l) (dU (mL x)) (Kd q l/\uU c (Ui q l) K (mL x)))))) (o=6->bZ (rK x) 1 (List.map wW x.2.1) (λs c=>∃(d:QV)(t:Sl)(q:Query),AK (λb l=>aA (lG v s=lG d t) (dQ c q d) (aA (tW c t b l) (dU (mL x)) (G9 2 q l/\uU c (SE q l) K (mL x)))))) (aA (o=7->bZ (rK x) 1 (List.map wW x.2.1) (λs c=>∃(d:QV)(t:Sl)(q:Query),AK (λb l=>aA (lG v s=lG
 d t) (dQ c q d) (aA (tW c t b l) (dU (mL x)) (AE q l/\uU c (S7 q l) K (mL x)))))) (o=8->bZ (rK x) 1 (List.map wW x.2.1) (λs c=>∃(d:QV)(t:Sl)(q:Query),AK (λb l=>aA (lG v s=lG d t) (dQ c q d) (aA (tW c t b l) (dU (mL x)) (AE q l/\uU c (Tg q l) K (mL x)))))) ((o=9->bZ (rK x) 1 (List.map wW x.2.1) (λs c=>∃(d:QV)(t:Sl)(q:Query),AK (λb l=>aA (lG v s=lG d t) (dQ c q d) (aA (tW c t b l) (dU (mL x)) (Ke q l/\uU c (Us q l) K (mL x))))))/\(aA (jU (o=2)) (jU (o=3)) (aA (jU (o=4)) (jU (o=5)) (aA (jU (o=6)) (jU (o=7)) (jU (o=8)/\jU (o=9))))->bZ (rK x) 1 (List.map wW x.2.1) (λs c=>∃(d:QV)(t:Sl)
 (q:Query),AK (λb l=>aA (lG v s=lG d t) (dQ c q d) (aA (tW c t b l) (dU (mL x)) (Dh q l/\uU c (Ih q l) K (mL x)))))))))))))
theorem XU:bk 179 bGJ:=by
 refine iB func179 ?_;rintro c m h K ⟨op,rfl,d,f,g,j,n,o,t,u,y⟩;refine⟨dG [] [] [] [] false,rfl,aF,axZ op m h K,bf,?_⟩;exact(aB (λe=>d (bj e)) λz=>aB (λe=>f (bj e)) λA=>aB (λe=>g (bj e)) λB=>aB (λe=>j (bj e)) λC=>aB (λe=>n (bj e)) λD=>aB (λe=>o (bj e)) λE=>aB (λe=>t (bj e)) λF=>aB (λe=>u (bj e)) λG=>y ⟨bj z,bj A,bj B,bj C,bj D,bj E,bj F,bj G⟩)
theorem L5{ls:List bt}{q:Query}:∀{a:ce}{k:Nat},gM ls (a++[q]) k=((gM ls a k).1++[(lB ls q (gM ls a k).2).1],(lB ls q (gM ls a k).2).2)
 |[],k=>by simp[gM]
 |p::a,k=>by
  rw[cons_append,gM,L5];simp[gM]
theorem Zn{ls:List bt}{q:Query}{b:ce}:∀{a:ce}{k:Nat},UI ls (a++q::b) k->Zo ls q (gM ls a k).2
 |[],k,h=>by rw[nil_append,UI]at h;simpa[gM]using h.1
 |p::a,k,h=>by
  rw[cons_append,UI]at h;rw[gM];exact Zn h.2
theorem HL{ls:List bt}:∀{a:ce}{k:Nat},(gM ls a k).1.length=a.length
 |[],k=>by simp[gM]
 |p::a,k=>by rw[gM];simp[HL]
theorem VQ:∀N,bk 137 (TQ N)
 |0=>by
  refine eV (fn:=Tryz.f137) (c:=cC Tryz.f137) func137 rfl bh ?_;rintro b' m h K ⟨S,v,q,lv,d,k,rfl,_,hN,_⟩;omega
 |N+1=>by
  refine iB func137 ?_;rintro b' m h K ⟨S,v,q,lv,d,k,rfl,hq,hN,a',I,J,hT,B,hK⟩;refine⟨aYJ N S v,rfl,aD (VQ N) (aD XV (aD XU (aD Xx (aD Xw (aD Xv (aD Xu (aD Xt (aD Xs (aD Xr (aD Xq (aD Xp aF))))))))))),RI N S v m h K,bf,?_⟩;dsimp only[RI,push_cast];obtain⟨op,ta,w,co,on,gr,od,li,args⟩:=q;have xq:=hq.parts;rw[lB]at hK;rw[Zo]at B;have D:v.op=op:=xq.op_;refine aB (λe=>?_) (λe=>?_)
  .have e:op=1:=by rw[<-D];simpa using e
   rw[if_pos e]at B;simp only[if_pos e]at hK;have c1:=bN.slen J;obtain⟨b,o,s,ea,rd,hr⟩:=bN.at J (getElem?_eq_getElem B);have r0:aJ m h S 0 [dT lv]:=.of_m I rfl;have r1:aJ m h S 1 [fD (k:Nat)]:=.of_m I rfl;have c4:=J.len;refine⟨lv,r0,k,r1,b,o,ea,aC,aC,s,.imm rd,k,r1,_,_,⟨I⟩,bg,λm' L=>hK s m' h (.refl _) ?_ ?_⟩
   .rw[getD_eq_getElem?_getD,getElem?_eq_getElem B];exact hr
   .have e5:IntKind.i64.wrap ((k:Int)+1)=((k+1:Nat):Int):=by rw[iJ aC]
    rw[e5]at L;exact L
  .have e:op≠1:=by rw[<-D];simpa using e
   rw[if_neg e]at B;simp only[if_neg e]at hK;obtain⟨M,a0⟩:=B;have n:=xq.args_;have b0:=bN.slen n;have c2:=bN.len n
   refine⟨aC,aC,aC,aC,λz=>z.1<=args.length/\PH.le h z.2.2.2/\gG m z.2.2.1 S (.cells #[Sl.val lv,.int .i64 ((gM d (args.take z.1) k).2:Nat)] 190 (0,0))/\∃E:ck,E.length=z.1/\z.2.1=E.map PS++replicate (args.length-z.1) .nilFunc/\∀j b l,E[j]? =some b->(gM d (args.take z.1) k).1[j]? =some l->P4 z.2.2.2 b l,λz=>args.length-z.1,
    ⟨(0,replicate args.length .nilFunc,m,h),⟨bg,.refl _,⟨by dsimp only;rw[take_zero,gM];exact I,λ_ _=>rfl⟩,[],rfl,bg,λj b l h1 _=>by rw[getElem?_nil]at h1;cases h1⟩,?_⟩,?_⟩
   .rw[show((v.args.len:Int)).toNat=args.length by omega];dsimp only;rw[map_replicate];exact MT
   .rintro⟨i,l,zm,zh⟩ ⟨hi,g,L,E,O,V,y⟩;dsimp only at hi g L O V y⊢
    have a1:dU zm:=by
     obtain⟨T,fz,e1⟩:=hT;exact⟨T,fz,by rw[L.other 1 (Ne.symm a')];exact e1⟩
    refine aE (λb1=>?_) (λc5=>?_)
    .obtain⟨p,hp⟩:=eN b0 b1;obtain⟨b,o,u,ea,b3,b4⟩:=bN.at (xM.mono n g) hp;have b6:=(List.getElem?_eq_some_iff.1 hp).1
     have b7:SizeOf.sizeOf p<N:=by
      have:=sizeOf_lt_of_mem (mem_of_getElem? hp);simp only[Query.mk.sizeOf_spec]at hN;omega
     have P:args=args.take i++p::args.drop (i+1):=by
      have A:args[i]=p:=(List.getElem?_eq_some_iff.1 hp).2;rw[<-A,getElem_cons_drop b6,take_append_drop]
     have a2:Zo d p (gM d (args.take i) k).2:=Zn (b:=args.drop (i+1)) (by rw[<-P];exact a0)
     have a3:gM d (args.take (i+1)) k=((gM d (args.take i) k).1++[(lB d p (gM d (args.take i) k).2).1],(lB d p (gM d (args.take i) k).2).2):=by
      rw[take_add_one,hp,Option.toList_some,L5]
     refine⟨b,o,ea,aC,aC,u,.imm b3,S,u,p,lv,d,(gM d (args.take i) k).2,rfl,b4,b7,a',L.at_,bN.mono J g (λl s hr=>bN.mono hr g λr t hv=>bP.mono hv g),a1,a2,λR m' h' C a4 a5=>⟨R,rfl,λb2 W Q a6=>?_⟩⟩;have c6:l.length=args.length:=by rw[V,length_append,length_map,length_replicate];omega
     have b8:l[i]? =some .nilFunc:=by
      rw[V,getElem?_append_right (by simp;omega),getElem?_replicate,if_pos (by simp;omega)]
     refine⟨aC,by simp;omega,[.nilFunc],by simp[b8],bg,(i+1,l.set i (PS b2),m',W),⟨by dsimp only;omega,g.trans (C.trans Q),?_,E++[b2],by simp[O],?_,?_⟩,by dsimp only;omega,?_⟩
     .dsimp only;rw[a3];exact⟨a5.at_,λb5 a7=>by rw[a5.other b5 a7,L.other b5 a7]⟩
     .dsimp only;rw[V,set_append,if_neg (by simp;omega),map_append,append_assoc];congr 1;rw[show args.length-i=(args.length-(i+1))+1 by omega,replicate_succ];simp[O]
     .dsimp only;rw[a3];intro j b5 l5 A F;have b9:(gM d (args.take i) k).1.length=E.length:=by rw[HL,length_take];omega
      by_cases hj:j<E.length
      .rw[getElem?_append_left hj]at A;rw[getElem?_append_left aC]at F;exact(y j b5 l5 A F).mono (C.trans Q)
      .rw[getElem?_append_right aC]at A;rw[getElem?_append_right aC]at F;have:j-E.length=0:=by have:=(List.getElem?_eq_some_iff.1 A).1;simp at this;omega
       rw[this]at A;rw[b9,this]at F;simp at A F;subst A F
       obtain⟨X,Y,U⟩:=(show∃X,cZ h' R 1 (X.map eS)/\eE h' X _ from by
        obtain⟨X,Y,U,Z⟩:=a4.ex;exact⟨X,Y,U.symm,Z⟩)
       exact⟨X,⟨R,a6,Y.mono Q,by have Z:=a4.len;rw[U.len];exact Z⟩,U.mono Q⟩
     .dsimp only;rw[iJ aC]
      have e9:((l.map λx=>[x]).set ((i:Int)).toNat (PS b2::List.drop 1 [.nilFunc]))=(l.set i (PS b2)).map λx=>[x]:=by
       rw[map_set];rfl
      exact⟨MT,rfl,rfl,rfl,rfl,rfl,rfl,by rw[<-e9];rfl,rfl,rfl,trivial⟩
    .have c':i=args.length:=by omega
     subst c';rw[take_length]at L y;rw[Nat.sub_self,replicate_zero,append_nil]at V
     have fin:∀{okF:Query->List bt->Prop}{f:Query->List bt->bt},okF (.mk op ta w co on gr od li args) (gM d args k).1->WQ op (.mk op ta w co on gr od li args) (gM d args k).1=f (.mk op ta w co on gr od li args) (gM d args k).1->∀(s:Sl)(h':PH),zh.le h'->cZ h' s 1 (l.map λx=>[x])->
      ∃(v1:QV)(t:Sl)(q:Query)(E:ck)(d:List bt),[aQ v,cS s]=[aQ v1,cS t]/\dQ h' q v1/\tW h' t E d/\dU zm/\okF q d/\∀(R:Sl)(G:PH),h'.le G->Rows G R (f q d)->K (cS R) zm G:=fun{okF f} h1 W s h' C a8=>by
      refine⟨v,s,_,E,_,rfl,hq.mono (g.trans C),⟨?_,by rw[HL];exact O,λj b l5 A F=>(y j b l5 A F).mono C⟩,a1,h1,λR c0 a9 hr=>hK R zm c0 (g.trans (C.trans a9)) (by rw[W];exact hr) L⟩;rw[V,map_map]at a8;exact a8
     have c3:=M;refine⟨op,by rw[D],λH=>fin (okF:=G9 1) ?_ ?_,λH=>fin (okF:=Kf) ?_ ?_,λH=>fin (okF:=Kg) ?_ ?_,λH=>fin (okF:=Kd) ?_ ?_,λH=>fin (okF:=G9 2) ?_ ?_,λH=>fin (okF:=AE) ?_ ?_,λH=>fin (okF:=AE) ?_ ?_,λH=>fin (okF:=Ke) ?_ ?_,λH=>fin (okF:=Dh) ?_ ?_⟩
     all_goals first
      |(subst H;exact M)
      |(subst H;rfl)
      |(obtain⟨W,h3,h4,A,F,Y,U,Z⟩:=H;first|(rw[NZ,if_neg W,if_neg h3,if_neg h4,if_neg A,if_neg F,if_neg Y,if_neg U,if_neg Z]at M;exact M)|(rw[WQ,if_neg W,if_neg h3,if_neg h4,if_neg A,if_neg F,if_neg Y,if_neg U,if_neg Z]))
def TS:Vc.Spec:=λc m h K=>∃s r,c=[cS s]/\bP h s r/\r.length<=1000/\∀d h',PH.le h h'->bP h' d r->K (cS d) m h'
def Z6:Vc.Spec:=λd m h K=>∃e v c q,d=[cS e,aQ v]/\Leaves h e c/\dQ h q v/\Zo c q 0/\dU m/\(lB c q 0).1.length<=1000000/\(∀r∈(lB c q 0).1,r.length<=1000)/\∀f h',PH.le h h'->Rows h' f (lB c q 0).1->K (cS f) m h'
noncomputable def brQ(N:Nat):Ctx:=pF [(137,TQ N),(62,TS)] [(5,{A:=Nat×ca×Sl×MH×PH,st:=λ⟨i,c,s,m,h⟩=>bO 31 33 [(7,.at (.lst 16)),(17,sv s),(18,iv s.len),(19,iv i)] [(16,.lst 100 1 (c.map eS))] m h})] [] [] [200005] [] false
def Vm(a:Addr)(n c:Nat)(m:MH)(h:PH)(K:bo):Prop:=
  ∃(y:List bm),aA (eR 3 y) (cZ h (Sl.mk (Option.some a) n c) 3 y) (aA (iY (0+y.length) 32) (lN (0+y.length)) (bZ h 3 (Ew y) (λs d=>K (rC s) m d)))
theorem bQZ(a:Addr)(n c:Nat)(m:MH)(h:PH)(K:bo):Vm a n c m h K=(sC (dG [] [] [] [] false) Tryz.f62 (cC Tryz.f62) (entry Tryz.f62.ntmps [.val (.slice (some a) n c)] m h) K):=bf
def QR(n c:Nat)(m:MH)(h:PH)(K:bo):Prop:=
  K jG m h
theorem bsJ(n c:Nat)(m:MH)(h:PH)(K:bo):QR n c m h K=(sC (dG [] [] [] [] false) Tryz.f62 (cC Tryz.f62) (entry Tryz.f62.ntmps [.val (.slice none n c)] m h) K):=bf
abbrev DH(a:bu):Prop:=mT a.length
abbrev IJ(a:Sl)(b:Nat->Nat->Option Value)(c:Sl->PH->Prop):Prop:=oA (λx d=>aA (gW a=gW x) (bP b x d) (DH d/\∀(f:Sl)(e:PH),dA b e (bP e f d) (c f e)))
attribute [push_cast] DH IJ
def Vg(N:Nat)(C:Sl)(v:QV)(m:MH)(h:PH)(K:bo):Prop:=
  fR (λb n=>aY (bW m h b) (cM m n b (gV rV bJ) 190) (Fp (λc E=>aA (Lo n b (qL c E 0)) (2<=c.size) (∀(f:MH),cM n f b (bA (dT C) bJ (List.drop 2 c.toList)) E->∃(g:Nat),oU (λu q=>HB (λl j=>∃(k:Nat),aA (wN b v=wN g u) (dQ h q u) (aA (oR q N) (jU (g=1)) (aA (f g=Option.some (qL (Array.mk (gV (dT l) (fD (↑k:Int)))) 190 0)) (Leaves h l j) (aA (dU f) (Zo j q k) (∀(s:Sl),jQ (λz t=>dA h t (Rows t s (lB j q k).1) (cM f z g (gV (dT l) (fD (↑(lB j q k).2:Int))) 190->Be s 24 (MY (λI x=>aA (I x) (eL 16) (aA (bB s (fJ x)) (bQ s (fJ x)) (aA (bC x.1) (wT 100 s gA (lI x)) (aA (cT z (iO x)) (eA t (iO x)) True)))) (λI A x=>I x->aZ (↑x.1:
 Int) (aG (fJ x)) (aK (λB o=>aA (aL (fJ x).a B o) (0<=(↑x.1:Int)) ((↑x.1:Int)<aG (fJ x)/\∃(y:Sl),aJ (iO x).1 (oG x) B (bK o x.1 1) (aM y)/\IJ y (oG x) (λD F=>oO (↑x.1:Int) (lI x) (λe=>Od (jC (lI x) (lK x.1) e) (yG 0 e) (λd=>aA (I d) (A d<A x) (aA (eL 16) (bB (fJ x) (fJ d)) (aA (bQ (fJ x) (fJ d)) (bD (fP (bE x.1 1)) d.1) (aA (Option.some (Own.lst 100 1 (List.set (lI x) (lK x.1) (xS (dT D) 1 e)))=Option.some (Own.lst 100 1 (lI d))) (eU (iO x) (iO d)) (j4 (eA F (iO d)))))))))))) (uM (oG x) (lI x) K (iO x).1)))))))))))))))
theorem QS:bk 62 TS:=by
 refine eV (fn:=Tryz.f62) (c:=cC Tryz.f62) func62 rfl bh ?_;rintro z m h K ⟨⟨a,n,c⟩,r,rfl,g,F,j⟩;refine⟨dG [] [] [] [] false,rfl,aF,?_⟩;cases a with
 |none=>
  show sC _ Tryz.f62 (cC Tryz.f62) (entry Tryz.f62.ntmps [.val (.slice none n c)] m h) K;rw[<-bsJ n c m h K];dsimp only[QR,push_cast];refine j ⟨none,0,0⟩ h (.refl _) ?_;cases r with
  |nil=>exact⟨⟨[],cZ.nil _ _,rfl,λi x A=>by simp at A⟩,bg⟩
  |cons x r=>
   obtain⟨b,o,v,e,_⟩:=bN.at g (i:=0) (x:=x) rfl;cases e
 |some a=>
  show sC _ Tryz.f62 (cC Tryz.f62) (entry Tryz.f62.ntmps [.val (.slice (some a) n c)] m h) K;rw[<-bQZ a n c m h K];dsimp only[Vm,push_cast];obtain⟨⟨t,B,C,D⟩,E⟩:=g;refine⟨t.map VV.enc,?_,B,by rw[length_map];omega,by rw[length_map];omega,λs h' le d=>j s h' le ⟨⟨t,bj d,C,D⟩,E⟩⟩;constructor
  .intro e f;obtain⟨x,_,rfl⟩:=mem_map.1 f;rfl
  .intro e f u y;obtain⟨x,_,rfl⟩:=mem_map.1 f;simp[VV.enc]at y;rcases y with rfl|rfl|rfl<;>rfl
theorem aoJ:bk 71 Z6:=by
 refine ED func71 ?_;rintro a0 m h K ⟨U,v,V,q,rfl,F,hq,G,W,hl,X,Y⟩;refine⟨brQ (SizeOf.sizeOf q+1),rfl,aD (VQ _) (aD QS aF),Vg (SizeOf.sizeOf q+1) U v m h (kA h K),bf,?_⟩;dsimp only[Vg,push_cast];intro b m1 H n;obtain⟨s1,I⟩:=gH (Sub.refl m) H n;refine⟨_,_,⟨n.at_⟩,bg,λm2 t=>?_⟩;have Z:Sub m m2:=s1.upd I t.other
 have y:b≠1:=λe=>by
  obtain⟨T,fz,A⟩:=W;rw[<-e,I]at A;cases A
 refine⟨b,v,q,U,V,0,rfl,hq,aC,y,t.at_,F,W.sub Z,G,λs J L B M O=>?_⟩;have s3:Sub m J:=Z.upd I O.other;generalize (lB V q 0).1=rs at hl X Y M;have a1:=bN.slen M;refine⟨aC,aC,aC,aC,λz=>z.1<=rs.length/\z.2.2.1=s/\z.2.2.2.1=J/\PH.le L z.2.2.2.2/\∃C,z.2.1=C++replicate (rs.length-z.1) ⟨none,0,0⟩/\eE z.2.2.2.2 C (rs.take z.1),λz=>rs.length-z.1,⟨(0,replicate rs.length ⟨none,0,0⟩,s,J,L),⟨bg,rfl,rfl,.refl _,[],bg,bj (eE.nil L)⟩,?_⟩,?_⟩
 .rw[show((s.len:Int)).toNat=rs.length by omega];dsimp only;rw[map_replicate];exact MT
 .rintro⟨i,f,s',m',hz⟩ ⟨hi,A,e2,c,C,d,g⟩;dsimp only at hi A e2 c d g⊢
  subst A e2;have P:=g.len;rw[length_take]at P;refine aE (λa2=>?_) (λa3=>?_)
  .have D:i<rs.length:=by omega
   obtain⟨b2,o,u,ea,rd,hv⟩:=bN.at M (getElem?_eq_getElem D);have a':f.length=rs.length:=by rw[d,length_append,length_replicate];omega
   have Q:f[i]? =some ⟨none,0,0⟩:=by
    rw[d,getElem?_append_right aC,getElem?_replicate,if_pos aC]
   refine⟨b2,o,ea,aC,aC,u,.imm ((rd.mono c)),u,rs[i],rfl,bP.mono hv c,X _ (getElem_mem _),λsc h5 E R=>⟨aC,by rw[length_map];omega,[rV],by rw[getElem?_map,show((i:Int)).toNat=i from rfl,Q];rfl,bg,(i+1,f.set i sc,s',m',h5),⟨by dsimp only;omega,rfl,rfl,c.trans E,C++[sc],?_,?_⟩,by dsimp only;omega,?_⟩⟩
   .dsimp only;rw[d,set_append,if_neg aC,append_assoc];congr 1;rw[show rs.length-i=(rs.length-(i+1))+1 by omega,replicate_succ,show i-C.length=0 by omega];rfl
   .dsimp only;rw[take_add_one,getElem?_eq_getElem D];exact(g.mono E).snoc R
   .dsimp only
    have e9:((f.map eS).set ((i:Int)).toNat (dT sc::List.drop 1 [rV]))=(f.set i sc).map eS:=by
     rw[map_set];rfl
    exact⟨MT,rfl,rfl,by rw[iJ aC],by rw[<-e9],rfl,rfl,trivial⟩
  .have:i=rs.length:=by omega
   subst this;rw[Nat.sub_self,replicate_zero,append_nil]at d;subst d;rw[take_length]at g;intro s6 h6 j S;exact⟨m,h6,s3,B.trans (c.trans j),.refl _,Y s6 h6 (B.trans (c.trans j)) ((g.mono j).rows S aC)⟩
mutual
def vQ(h:PH):Query->QV->Nat->cw->Prop
 |.mk _ _ _ _ _ _ _ _ args,v,d,f=>∃e c,cZ h v.args 21 (e.map QV.enc)/\jJ h args e (d+1) c/\f=(d,v)::c
def jJ(h:PH):ce->cu->Nat->cw->Prop
 |[],e,_,f=>e=[]/\f=[]
 |q::qs,e,d,f=>∃v c g j,e=v::c/\dQ h q v/\vQ h q v d g/\jJ h qs c d j/\f=g++j
end
def bBZ(e:Nat×QV):bm:=[.int .i64 (e.1:Nat),.agg e.2.enc.toArray]
def TF(N:Nat):Vc.Spec:=λc m h K=>∃(v:QV)(q:Query)(d l f:Nat)(g xs:cw)(J:Nat->MH->PH->Prop),c=[aQ v,cI d,.val (.func (.yield l) #[] #[])]/\vQ h q v d g/\SizeOf.sizeOf q<N/\d+Bl q<=1000000/\(∀j e,g[j]? =some e->xs[f+j]? =some e)/\J f m h/\
 (∀k e m' h',xs[k]? =some e->PH.le h h'->J k m' h'->YDo Tryz.prog l (bBZ e) m' h' (λr o n=>r=true/\PH.le h' n/\J (k+1) o n))/\
 ∀m' h',PH.le h h'->J (f+g.length) m' h'->K (cB true) m' h'
noncomputable def ayQ(N:Nat)(v:QV)(d l:Nat):Ctx:=
 {dG [(141,TF N)] [(4,{A:=Nat×MH×PH,st:=λ⟨i,m,h⟩=>bO 28 31 [(1,iv d),(2,vv (.func (.yield l) #[] #[])),(15,sv v.args),(16,iv v.args.len),(17,iv i)] [] m h})] [] [] false with yield:=some (a8X Tryz.prog)}
def Nk:PH->bm->List bm->Prop:=λh c xs=>∃b v q d,c=[.pointer (some ⟨b,0,none⟩)]/\bT h b 0 (QV.enc v)/\vQ h q v 1 d/\Bl q<=900000/\xs=d.map bBZ
def TE:Vc.Spec:=λc m h K=>∃v,c=[aQ v]/\∀b h',PH.le h h'->bT h' b 0 (QV.enc v)->K (.val (.func (.func 140) #[] #[.pointer (some ⟨b,0,none⟩)])) m h'
abbrev Jd(a:Nat->(Nat×QV)->Prop):Prop:=∀(x:Nat)(c:Nat×QV),a x c
abbrev Es(a:cw)(b:Nat)(c:Nat×QV):Prop:=a[b]? =Option.some c
attribute [push_cast] Jd Es
def OY(N:Nat)(v:QV)(d l:Nat)(m:MH)(h:PH)(K:bo):Prop:=
  M6 (a8X Proofs.Tryz.prog)/\Oc (λC D=>∃(R:Bool->MH->PH->Prop),aA (CG l::gJ (fQ (↑d:Int)) (dL v)=CG C::List.map CV.val D) (YDo Proofs.Tryz.prog C D m h R) (∀(u:Bool),jQ (λt z=>fA (R u t z) (!u) (K aX t z) (∃(I:Nat×MH×PH->Prop)(E:Nat×MH×PH->Nat),(∃(x:Nat×MH×PH),aA (I x) (qW d) (aA (Eu l) (aH v.args) (aA (bG v.args) (bC x.1) (aA (cT t x.2) (eA z x.2) True))))/\∀(x:Nat×MH×PH),I x->aZ (↑x.1:Int) (aG v.args) (aK (λb o=>aA (aL v.args.a b o) (0<=(↑x.1:Int)) ((↑x.1:Int)<aG v.args/\∃(y:QV),aJ (mO x) (jO x) b (bK o x.1 21) y.enc/\oU (λF q=>aK (λA G=>∃(k:Nat)(e H:cw)(J:Nat->MH->PH->Prop),aA (A2 y (bE d 1) l=A2 F (↑A:Int) G)
 (vQ (jO x) q F A e) (aA (oR q N) (A+Bl q<=1000000) (aA (Jd (λj f=>Es e j f->Es H (k+j) f)) (J k (mO x) (jO x)) (Jd (λB f=>jQ (λg c=>aY (Es H B f) (PH.le (jO x) c) (J B g c->YDo Proofs.Tryz.prog G (gV (fD (↑f.1:Int)) (Value.agg (Array.mk f.2.enc))) g c (fun(r:Bool)=>fun(M:MH)=>fun(L:PH)=>aA (fS r) (PH.le c L) (J (B+1) M L)))))/\jQ (λg c=>dA (jO x) c (J (k+e.length) g c) (∃(n:Nat×MH×PH),aA (I n) (E n<E x) (aA (qW d) (Eu l) (aA (aH v.args) (bG v.args) (aA (bD (fP (bE x.1 1)) n.1) (cT g n.2) (j4 (eA c n.2))))))))))))))) (K gL (mO x) (jO x))))))
def Yj(N:Nat)(l u:Nat)(m:MH)(h:PH)(K:bo):Prop:=
  AX m h u 0 (λy=>oU (λv q=>aK (λd o=>∃(k:Nat)(e x:cw)(J:Nat->MH->PH->Prop),aA (A2 y 1 l=A2 v (↑d:Int) o) (vQ h q v d e) (aA (oR q N) (d+Bl q<=1000000) (aA (Jd (λj f=>Es e j f->Es x (k+j) f)) (J k m h) (Jd (λn f=>jQ (λg c=>aY (Es x n f) (PH.le h c) (J n g c->YDo Proofs.Tryz.prog o (gV (fD (↑f.1:Int)) (Value.agg (Array.mk f.2.enc))) g c (fun(r:Bool)=>fun(z:MH)=>fun(t:PH)=>aA (fS r) (PH.le c t) (J (n+1) z t)))))/\jQ (λg c=>dA h c (J (k+e.length) g c) (K (CV.tup []) g c))))))))
def OB(v:QV)(m:MH)(h:PH)(K:bo):Prop:=
  fR (λb A=>aY (bW m h b) (cM m A b gA 30) (∃(B:QV),jP (tT (dL v)=tT (dL B)) (λC=>∀(o:PH),dA h o (bT o C 0 B.enc) (∃(S:PH->bm->List bm->Prop)(x:List (Int×QV))(I:Nat->MH->PH->Prop),aA (FR Proofs.Tryz.prog 140 S) (S o (jD (WE C 0)) (List.map (fun(g:Int×QV)=>gV (fD g.1) (Value.agg (Array.mk g.2.enc))) x)) (aA (I 0 A o) (∀(k:Nat)(e:Int)(d:QV),jQ (λj f=>aY (x[k]? =Option.some (e,d)) (PH.le o f) (I k j f->fR (λt u=>aY (bW j f t) (cM j u t zV 35) (Fp (λc E=>aA (Lo u t (qL c E 0)) (21<=c.size) (∀(n:MH),cM u n t (Gf d d (bA (oY (jV d)) (iZ (gY d)) (bA (xR (gY d)) (fD (oP (gY d))) (bA (sB (gY d)) (oY (gY d)) (bA
 (Fq d) (Fs d) (bA (dT d.on) (dT d.group) (bA (dT d.order) (fD d.limit) (xS (dT d.args) 21 c.toList)))))))) E->uN n f t 0 (λy=>eD y 1 (∃(z:Sl),aJ n f b 0 (aM z)/\∃(D:Int),aJ n f t 1 (bL D)/\∃(g:List bm),aA (cR n (dJ z) 3 1 g) (Cf g) (dO g/\iF (λs F=>eK n F (dJ z) s 3 1 (jW g (bL D))->fN F b (dT s) (λG=>I (k+1) G f)))) (I (k+1) n f))))))))) (jQ (λj f=>dA o f (I x.length j f) (∃(y:Sl),aJ j f b 0 (aM y)/\K (rC y) j f))))))))
mutual
theorem vQ.mono{h h':PH}(le:PH.le h h'):∀{q:Query}{v:QV}{d:Nat}{es:cw},vQ h q v d es->vQ h' q v d es
 |.mk _ _ _ _ _ _ _ _ args,v,d,es,w=>by
  rw[vQ]at w⊢
  obtain⟨e,c,f,g,j⟩:=w;exact⟨e,c,f.mono le,jJ.mono le g,j⟩
theorem jJ.mono{h h':PH}(le:PH.le h h'):∀{c:ce}{vs:cu}{d:Nat}{es:cw},jJ h c vs d es->jJ h' c vs d es
 |[],vs,d,es,w=>by rw[jJ]at w⊢;exact w
 |q::c,vs,d,es,w=>by
  rw[jJ]at w⊢
  obtain⟨v,e,f,g,j,n,o,t,u⟩:=w;exact⟨v,e,f,g,j,n.mono le,vQ.mono le o,jJ.mono le t,u⟩
end
theorem jJ.len{h:PH}:∀{c:ce}{vs:cu}{d:Nat}{es:cw},jJ h c vs d es->vs.length=c.length
 |[],vs,d,es,w=>by rw[jJ]at w;obtain⟨rfl,_⟩:=w;rfl
 |q::c,vs,d,es,w=>by
  rw[jJ]at w;obtain⟨v,e,j,n,f,o,t,g,u⟩:=w;rw[f,length_cons,length_cons,jJ.len g]
mutual
theorem vQ.of{h:PH}:∀{q:Query}{v:QV},dQ h q v->∀d,∃es,vQ h q v d es
 |.mk _ _ _ _ _ _ _ _ args,v,f,d=>by
  obtain⟨_,_,_,_,_,_,_,_,_,g,c,e⟩:=f;obtain⟨es,j⟩:=jJ.of e (d+1);exact⟨(d,v)::es,by rw[vQ];exact⟨g,es,c,j,rfl⟩⟩
theorem jJ.of{h:PH}:∀{c:ce}{vs:cu},AA h c vs->∀d,∃es,jJ h c vs d es
 |[],vs,e,d=>⟨[],by rw[jJ];exact⟨e,rfl⟩⟩
 |q::c,vs,e,d=>by
  obtain⟨v,f,rfl,g,o⟩:=e;obtain⟨j,t⟩:=vQ.of g d;obtain⟨n,u⟩:=jJ.of o d;exact⟨j++n,by rw[jJ];exact⟨v,f,j,n,rfl,g,t,u,rfl⟩⟩
end
mutual
def j7:Query->br
 |.mk op ta _ _ _ _ _ _ args=>(if op=1 then[ta]else[])++i6 args
def i6:ce->br
 |[]=>[]
 |q::qs=>j7 q++i6 qs
end
def Bx(es:cw):br:=(es.filter λe=>e.2.op==1).map λe=>e.2.table
theorem J8{a b:cw}:Bx (a++b)=Bx a++Bx b:=by simp[Bx]
mutual
theorem vQ.scans{h:PH}:∀{q:Query}{v:QV}{d:Nat}{es:cw},dQ h q v->vQ h q v d es->Bx es=j7 q
 |.mk op ta _ _ _ _ _ _ args,v,d,es,f,w=>by
  rw[vQ]at w;obtain⟨o,c,t,g,rfl⟩:=w;obtain⟨j,n,_⟩:=f;rw[j7, <-jJ.scans g,show((d,v)::c)=[(d,v)]++c from rfl,J8];congr 1;simp only[Bx,filter_cons,filter_nil,j];by_cases e:op=1
  .simp[e,n]
  .simp[e]
theorem jJ.scans{h:PH}:∀{c:ce}{vs:cu}{d:Nat}{es:cw},jJ h c vs d es->Bx es=i6 c
 |[],vs,d,es,w=>by rw[jJ]at w;rw[w.2];rfl
 |q::c,vs,d,es,w=>by
  rw[jJ]at w;obtain⟨v,e,n,o,t,f,g,j,rfl⟩:=w;rw[J8,i6,vQ.scans f g,jJ.scans j]
end
mutual
theorem vQ.small{h:PH}:∀{q:Query}{v:QV}{d:Nat}{es:cw},vQ h q v d es->es.length<=Bl q
 |.mk op ta _ _ _ _ _ _ args,v,d,es,w=>by
  rw[vQ]at w;obtain⟨f,c,g,e,rfl⟩:=w;have:=jJ.small e;simp only[length_cons,Bl];omega
theorem jJ.small{h:PH}:∀{c:ce}{vs:cu}{d:Nat}{es:cw},jJ h c vs d es->es.length<=xI c
 |[],vs,d,es,w=>by rw[jJ]at w;rw[w.2];simp
 |q::c,vs,d,es,w=>by
  rw[jJ]at w;obtain⟨v,e,j,n,o,t,f,g,rfl⟩:=w;have u:=vQ.small f;have y:=jJ.small g;simp only[length_append,xI];omega
end
theorem bBJ:∀q:Query,1<=Bl q
 |.mk _ _ _ _ _ _ _ _ _=>by rw[Bl];omega
theorem Zq:∀l:ce,l.length<=xI l
 |[]=>bg
 |a::l=>by have:=Zq l;have:=bBJ a;simp only[length_cons,xI];omega
theorem ZW:∀{l:ce}{a:Query},a∈l->Bl a<=xI l
 |b::l,a,h=>by
  rw[xI];rcases mem_cons.1 h with rfl|h
  .omega
  .have:=ZW h;omega
theorem RF:∀N,bk 141 (TF N)
 |0=>by
  refine eV (fn:=Tryz.f141) (c:=cC Tryz.f141) func141 rfl bh ?_;rintro U m h K ⟨v,q,d,l,y,es,xs,J,rfl,_,hN,_⟩;omega
 |N+1=>by
  refine iB func141 ?_;rintro U m h K ⟨v,q,d,l,y,es,xs,J,rfl,hw,hN,hd,hx,h0,f,I⟩;refine⟨ayQ N v d l,rfl,aD (RF N) aF,OY N v d l m h K,bf,?_⟩;dsimp only[OY,push_cast];obtain⟨op,ta,w,co,on,gr,od,li,args⟩:=q;rw[vQ]at hw;obtain⟨L,A,E,M,rfl⟩:=hw;simp only[Query.mk.sizeOf_spec]at hN;rw[Bl]at hd;have a':=M.len;have V:=E.len;have a0:=Zq args;rw[length_map]at V;refine⟨Np _,l,bBZ (d,v),_,rfl,f y (d,v) m h (hx 0 _ rfl) (.refl _) h0,?_⟩;rintro u m' h' ⟨rfl,O,hJ⟩;refine aB (λe=>by cases e) (λ_=>?_);refine⟨λz=>z.1<=args.length/\PH.le h z.2.2/\∃g W,A=g++W/\jJ z.2.2 (args.drop z.1) (L.drop z.1) (d+1) W/\J (y+1+g.length) z.2.1 z.2.2,λz=>args.length-z.1,⟨(0,m',h'),⟨bg,O,[],A,rfl,M.mono O,hJ⟩,MT⟩,?_⟩;rintro⟨i,mz,hz⟩ ⟨hi,n,g,W,B,t,F⟩;dsimp only at hi n t F⊢
  refine aE (λa1=>?_) (λa2=>?_)
  .have G:i<args.length:=by omega
   rw[drop_eq_getElem_cons G,jJ]at t;obtain⟨P,Q,C,X,R,a3,Y,S,rfl⟩:=t
   have Z:L[i]? =some P:=by
    have:(L.drop i)[0]? =some P:=by rw[R];rfl
    simpa using this
   have T:Q=L.drop (i+1):=by
    have:(L.drop i).drop 1=Q:=by rw[R];rfl
    rw[<-this,drop_drop]
   obtain⟨b,o,ea,rd⟩:=E.get (i:=i) (e:=P.enc) (by rw[getElem?_map,Z];rfl);have a4:=sizeOf_lt_of_mem (getElem_mem G);have a5:=ZW (getElem_mem G);refine⟨b,o,ea,aC,aC,P,.imm (rd.mono n),P,args[i],d+1,l,y+1+g.length,C,xs,J,by rw[iJ aC],Y,aC,aC,λj e hj=>?_,F,λk e m2 h2 hk D H=>f k e m2 h2 hk (n.trans D) H,λm2 h2 D H=>⟨(i+1,m2,h2),⟨by dsimp only;omega,n.trans D,g++C,X,by rw[B,append_assoc],?_,?_⟩,by dsimp only;omega,?_⟩⟩
   .have h5:=(List.getElem?_eq_some_iff.1 hj).1
    have:=hx (1+g.length+j) e (by
     rw[B,show 1+g.length+j=(g.length+j)+1 by omega,getElem?_cons_succ,getElem?_append_right aC,show g.length+j-g.length=j by omega,getElem?_append_left h5];exact hj)
    rw[show y+1+g.length+j=y+(1+g.length+j)by omega];exact this
   .dsimp only;rw[<-T];exact S.mono D
   .dsimp only;rw[length_append,show y+1+(g.length+C.length)=y+1+g.length+C.length by omega];exact H
   .dsimp only;rw[iJ aC];exact MT
  .have:i=args.length:=by omega
   subst this;rw[drop_of_length_le (Nat.le_refl _),jJ]at t;obtain⟨_,rfl⟩:=t;rw[append_nil]at B;subst B;exact I mz hz n (by rw[length_cons,show y+(A.length+1)=y+1+A.length by omega];exact F)
theorem VP:bk 140 (bfQ Tryz.prog Nk):=by
 refine iB func140 ?_;rintro o m h K ⟨l,g,xs,J,rfl,⟨b,v,q,n,rfl,t,u,B,rfl⟩,y,c,d⟩;refine⟨dG [(141,TF (SizeOf.sizeOf q+1))] [] [] [] false,rfl,aD (RF _) aF,Yj (SizeOf.sizeOf q+1) l b m h K,bf,?_⟩;exact⟨v,.imm t,v,q,1,l,0,n,n,J,rfl,u,aC,aC,λj e z=>by rw[Nat.zero_add];exact z,y,λk e m' h' A le f=>c k (bBZ e) m' h' (by rw[getElem?_map,A];rfl) le f,λm' h' le f=>d _ m' h' le (by rw[length_map];rw[Nat.zero_add]at f;exact f)⟩
theorem Zu:FR Tryz.prog 140 Nk:=⟨VP⟩
theorem Oz:bk 76 TE:=by
 refine Tm func76 ?_;rintro g m h K ⟨v,rfl,j⟩;refine⟨dG [] [] [] [] false,rfl,aF,OA v m h (cE h K),bf,?_⟩;dsimp only[OA,push_cast];intro b m' c d _;have sub:Sub m m':=(gH (Sub.refl m) c d).1;refine⟨m,nG h b (QV.enc v),sub,CK c.h_,λn i o e=>?_,j b _ (CK c.h_) Zw⟩;by_cases f:n=b
 .subst f;simp only[nG,if_true]at e;exact .inr ⟨_,_,_,d.at_,by rw[<-Array.getElem?_toList];exact e,c.m_⟩
 .simp only[nG,if_neg f]at e;exact .inl e
structure aDJ(T E:TypeId)(m mx:MH)(b:Nat)(vs:bm):Prop where
 ex:∃s:Sl,mx b=some (.cells #[.slice s.a s.len s.cap] T (0,0))/\cR mx s E 1 (vs.map λv=>[v])/\∀i x,s.a=some ⟨x,i,none⟩->m x=none
theorem aDJ.new{T E:TypeId}(d:m' b=some (.cells #[rV] T (0,0))):aDJ T E m m' b []:=⟨⟨none,0,0⟩,d,⟨⟨λe c=>by simp at c,λe c=>by simp at c⟩,.inl ⟨rfl,rfl⟩⟩,λi x e=>by cases e⟩
theorem aIJ{T E:TypeId}{y:MH}{s:Sl}{vs:bm}{e:Value}{Q:MH->Prop}(d:∃o,m b=some o)(D:Ds m y b)(A:y b=some (.cells #[.slice s.a s.len s.cap] T (0,0)))(F:cR y s E 1 (vs.map λv=>[v]))(g:∀i x,s.a=some ⟨x,i,none⟩->m x=none)(H:∀m',Ds m m' b->aDJ T E m m' b (vs++[e])->Q m'):
 ∀(z:Sl)(m':MH),eK y m' (Sl.mk s.a s.len s.cap) z E 1 ((vs.map λv=>[v])++[[e]])->
  ∃(cs:Array Value)(E:TypeId),Lo m' b (.cells cs E (0,0))/\0<cs.size/\∀m2:MH,gG m' m2 b (.cells (Array.mk (dT z::cs.toList.drop 1)) E (0,0))->Q m2:=by
 obtain⟨M,d⟩:=d;have n:∀i,s.a≠some ⟨b,i,none⟩:=λi f=>by rw[g i b f]at d;cases d
 refineλz m' t=>⟨_,_,⟨t.other b _ A n⟩,bg,λm2 B=>H m2 ?_ ⟨z,B.at_,?_,?_⟩⟩
 .intro x o C u;rw[B.other x u];exact t.other x o (D x o C u) (λi f=>by have f:s.a=some ⟨x,i,none⟩:=f;rw[g i x f]at C;cases C)
 .have I:(vs++[e]).map (λv=>[v])=vs.map (λv=>[v])++[[e]]:=bg
  rw[I];refine cR.keep t.row (λx i f=>B.other x (λJ=>?_));subst J;rcases t.fresh x i f with c|⟨j,c⟩
  .rw[A]at c;cases c
  .exact n j c
 .intro i x f;rcases t.fresh x i f with c|⟨j,c⟩
  .cases L:m x with
   |none=>rfl
   |some o=>
    by_cases G:x=b
    .subst G;rw[A]at c;cases c
    .rw[D x o L G]at c;cases c
  .exact g j x c
theorem cE.rowG{E:TypeId}{hx:PH}{s:Sl}{vs:bm}(sub:Sub m m')(le:PH.le h hx)(D:cR m' s E 1 (vs.map λv=>[v]))(F:∀i b,s.a=some ⟨b,i,none⟩->m b=none)(t:∀h',PH.le hx h'->cZ h' s 1 (vs.map λv=>[v])->K (cS s) m h'):cE h K (cS s) m' hx:=by
 intro G;rcases D.ex with⟨rfl,n⟩|⟨b,H,f,rfl,y,I,P,Q,z⟩
 .refine⟨m,hx,sub,le,λb i v e=>.inl e,t hx (.refl _) ?_⟩;rw[n];exact cZ.nil _ _
 .have A:∀i,hx b i=none:=G b _ y;refine⟨m,nG hx b f.toList,sub,le.trans (CK A),λB i v e=>?_,t _ (CK A) ⟨?_,?_,?_⟩⟩
  .by_cases C:B=b
   .subst C;simp only[nG,if_true]at e;exact .inr ⟨f,E,(0,0),y,by rw[<-Array.getElem?_toList];exact e,F 0 B rfl⟩
   .simp only[nG,if_neg C]at e;exact .inl e
  .simp
  .by_cases J:vs.map (λv=>[v])=[]
   .exact .inl J
   .refine .inr ⟨b,0,rfl,λi e d=>⟨λj v g=>?_⟩⟩;rw[getElem?_map]at d;cases c:vs[i]? with
    |none=>rw[c]at d;cases d
    |some u=>
     rw[c]at d;simp at d;subst d;have L:j=0:=by have:=(List.getElem?_eq_some_iff.1 g).1;simp at this;omega
     subst L;have g:u=v:=bj g
     subst g;have M:=(List.getElem?_eq_some_iff.1 c).1
     have o:∀l:bm,(l.map λv=>[v]).flatten=l:=λl=>by
      induction l with
      |nil=>rfl
      |cons a l O=>simp only[map_cons,flatten_cons,O];rfl
     rw[o]at z;rw[<-z,getElem?_take,length_map,if_pos aC]at c;simp only[nG,if_true];rw[show 0+i*1+0=i by omega];exact c
  .simpa using I
def bbX:Vc.Spec:=λc m h K=>∃v q,c=[aQ v]/\dQ h q v/\Bl q<=900000/\∀d h',PH.le h h'->Ints h' d (j7 q)->K (cS d) m h'
theorem apQ:bk 70 bbX:=by
 refine Hg func70 ?_;rintro a2 m h K ⟨v,q,rfl,hq,hs,hK⟩;refine⟨{pF [(76,TE)] [] [] [] [200003,200005,1030,0] [] false with elemT:=[3,35]},rfl,aD Oz aF,OB v m h (cE h K),bf,?_⟩;show OB v m h (cE h K);dsimp only[OB,push_cast];intro b S U A;obtain⟨s1,n1⟩:=gH (Sub.refl m) U A;refine⟨v,rfl,λbw h1 u V=>?_⟩;obtain⟨t,W⟩:=vQ.of (hq.mono u) 1;have a3:=W.small;have G:=vQ.scans (hq.mono u) W;refine⟨Nk,t.map λe=>((e.1:Int),e.2),λk H X=>X=h1/\Ds S H b/\aDJ 30 3 S H b ((Bx (t.take k)).map λn=>.int .i64 n),Zu,⟨bw,v,q,t,rfl,V,W,hs,?_⟩,⟨rfl,λx o e _=>e,aDJ.new A.at_⟩,?_,?_⟩
 .rw[map_map];rfl
 .rintro k d e' H X F-⟨rfl,B,c⟩ Y m2 Z I;rw[getElem?_map]at F;cases C:t[k]? with
  |none=>rw[C]at F;cases F
  |some e=>
   rw[C]at F;simp only[Option.map_some,Option.some.injEq,Prod.mk.injEq]at F;obtain⟨rfl,rfl⟩:=F;refine⟨_,_,⟨I.at_⟩,bg,λT J=>?_⟩
   have up:∀{z o},H z=some o->T z=some o/\z≠Y:=fun{z o} D=>by
    have:z≠Y:=λe3=>by rw[e3,Z.m_]at D;cases D
    exact⟨by rw[J.other z this,I.other z this];exact D,this⟩
   have L:T Y=some (.cells ⟨e.2.enc⟩ 35 (0,0)):=J.at_;have M:Ds S T b:=λx o D a'=>(up (B x o D a')).1
   have g:aDJ 30 3 S T b ((Bx (t.take k)).map λn=>.int .i64 n):=by
    obtain⟨s,O,h6,h7⟩:=c.ex;refine⟨s,(up O).1,cR.keep h6 λz i e3=>?_,h7⟩;obtain⟨a4,h8⟩:=h6.blk e3;rw[h8];exact(up h8).1
   have P:Bx (t.take (k+1))=Bx (t.take k)++(if e.2.op==1 then[e.2.table]else[]):=by
    rw[take_add_one,C,Option.toList_some,J8];congr 1;simp only[Bx,filter_cons,filter_nil];split<;>rfl
   refine⟨e.2.op,.of_m L rfl,aB (λO=>?_) (λO=>⟨rfl,M,by rw[P,O];simpa using g⟩)⟩;obtain⟨s,y,f,E⟩:=g.ex
   have Q:(Bx (t.take k)).length<=t.length:=by
    simp only[Bx,length_map];exact Nat.le_trans (length_filter_le _ _) (by rw[length_take];omega)
   refine⟨s,.of_m y rfl,e.2.table,.of_m L rfl,_,f,by simp;omega,by simp;omega,aIJ ⟨_,A.at_⟩ M y f E λm' a0 a1=>⟨rfl,a0,?_⟩⟩;rw[P,O];simpa using a1
 .rintro H X-⟨rfl,B,c⟩
  rw[length_map,take_length,G]at c;obtain⟨s,y,f,E⟩:=c.ex
  have Q:(j7 q).length<=t.length:=by
   rw[<-G];simp only[Bx,length_map];exact length_filter_le _ _
  refine⟨s,.of_m y rfl,cE.rowG (s1.x n1 B) u f (λj z e=>?_) (λh' le R=>hK s h' (u.trans le) ⟨by rw[map_map]at R;exact R,aC⟩)⟩;cases D:m z with
  |none=>rfl
  |some o=>have e1:=E j z e;rw[s1 z o D]at e1;cases e1
end Go.Ps
