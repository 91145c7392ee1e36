/- Own work. -/
import Derived.Test.YtbpoogcannjnbaaGreatDoorGh
set_option linter.unusedVariables false
set_option linter.unusedSimpArgs false
namespace Go.Ps
open Go Go.Vc Go.Proofs List Tryz
variable{K:dc}{m:MH}{h:PH}{s:j4}{ps:dd}{cb:Nat}{sc:bJ}{v:QV}{q:Query}{p:Pred}{l:dd}{i:Nat}{N:Nat}{m':MH}{h':PH}{co:dd}{gr:dd}{od:dg}{w:Pred}{ta:Int}{li:Int}{xs:List cv}{sz:Nat}{k:Nat}{ks:List dd}{rs:dd}{r:Sl}{a:dd}{b:Nat}
structure Nw(h:PH)(w:Wr)(v:Mx):Prop where
 cols_:Ints h v.columns w.cols
 bef_:Rows h v.before w.bef
 aft_:Rows h v.after w.aft
 befS:nA w.bef
 aftS:nA w.aft
 befL:w.bef.length<=8000000
 aftL:w.aft.length<=8000000
theorem Nw.mono{w:Wr}{v:Mx}(x:Nw h w v)(le:PH.le h h'):Nw h' w v:=⟨x.cols_.mono le,x.bef_.mono le,x.aft_.mono le,x.befS,x.aftS,x.befL,x.aftL⟩
structure Z2(h:PH)(d:Den)(v:zC):Prop where
 chg_:v.change=d.chg
 aft_:v.after=d.aft
 tab_:v.table=d.tab
 key_:bO h v.key d.key
 col_:v.column=d.col
theorem Z2.mono{d:Den}{v:zC}(x:Z2 h d v)(le:PH.le h h'):Z2 h' d v:=⟨x.chg_,x.aft_,x.tab_,x.key_.mono le,x.col_⟩
def eB(b:Bool):cv:=[.bool b]
structure iW(m0 m:MH)(h:PH)(b:Nat)(s:j4)(wr:Int->fb)(ds:fe):Prop where
 sub:Sub m0 m
 new:m0 b=none
 ex:∃(sc:bJ)(y:Nat)(d:Sl)(kvs:List (Int×Sl))(dvs:List zC),m b=some (.cells ⟨bJ.enc sc++[.map (some y),Sl.val d]⟩ 111 (0,0))/\dM h s sc/\tB m y (kvs.map λp=>(Value.int .i64 p.1,Sl.val p.2))/\
  (∀t u,(t,u)∈kvs->bC h 3 Mx.enc (Nw h) u (wr t))/\(∀t,(∀u,(t,u)∉kvs)->wr t=[])/\kS m0 m d 77 5 (dvs.map zC.enc)/\ds.length=dvs.length/\∀(i:Nat) x,ds[i]? =some x->∃v,dvs[i]? =some v/\Z2 h x v
def bZJ:Vc.Spec:=λc m h K=>∃v s t d r,c=[aS v,cI t,cS d]/\dM h s v/\bO h d r/\r.length<=1000/\∀e h',PH.le h h'->bO h' e (iI s t r)->K (cS e) m h'
def btX:Vc.Spec:=λd m h K=>∃f b v c s g j,d=[cP b,ZV v]/\iW f m h b s g j/\Bh h c v/\c.old.length<=1000/\c.new.length<=1000/\∀e h',PH.le h h'->bO h' e (yS s c)->K (cS e) m h'
def btJ:Vc.Spec:=λc m h K=>∃s n l,c=[cS s,cI n]/\Ints h s l/\∀k:Int,(0<=k↔n∈l)->K (cI k) m h
def b4Q:Vc.Spec:=λc m h K=>∃s n l,c=[cS s,cI n]/\Ints h s l/\K (cB (l.contains n)) m h
def bsQ:Vc.Spec:=λf m h K=>∃j b v c d e s g n,f=[cP b,ZV v,cB d,cI e]/\iW j m h b s g n/\Bh h c v/\c.old.length<=1000/\c.new.length<=1000/\∀h',PH.le h h'->K (cB (kO (g c.tab) (yS s c) d e)) m h'
def b3J:Vc.Spec:=λe m h K=>∃g b i v c d u l s j f,e=[cP b,cI i,ZV v,cI d,cS u]/\iW g m h b s j f/\Bh h c v/\c.old.length<=1000/\c.new.length<=1000/\bC h 1 eB Eq u l/\f.length+l.length<=1000000/\
 ∀m' h',PH.le h h'->iW g m' h' b s j (f++l.map λa=>⟨i,a,c.tab,yS s c,d⟩)->K (.tup []) m' h'
def atX:Vc.Spec:=λd m h K=>∃g b i v c s e f,d=[cP b,cI i,ZV v]/\iW g m h b s e f/\Bh h c v/\c.old.length<=1000/\c.new.length<=1000/\(c.old≠[]->c.new≠[]->c.old.length=c.new.length)/\f.length<=900000/\
 ∀m' h',PH.le h h'->iW g m' h' b s e (f++P4 s (e c.tab) i c)->K (.tup []) m' h'
noncomputable def bdQ(s:Sl)(n:Int)(m:MH)(h:PH):Ctx:=dD [] [(2,{A:=Nat,st:=λi=>bU 19 21 [(0,sv s),(1,iv n),(7,iv s.len),(8,iv i)] [] m h})] [] [] false
noncomputable def bgJ(b:Nat)(v:fO)(m:MH)(h:PH):Ctx:=rT [(154,bZJ),(125,UA)] [] [(4,{A:=Sl,st:=λu=>bU 22 24 [(0,pv b),(3,.at (.ptr 3 0)),(5,sv u)] [(3,.cells 84 (v.enc.map .val))] m h})] [] [0] [] false
noncomputable def bFQ(d:Bool)(e:Int)(m:MH):Ctx:=rT [(126,btX),(127,b4Q),(120,bvQ)] [(3,{A:=Nat×Sl×Sl×PH,st:=λ⟨i,k,c,h⟩=>bU 52 56 [(2,bv d),(3,iv e),(9,sv k),(24,sv c),(25,iv c.len),(26,iv i)] [] m h})]
 [(3,{A:=Sl×Sl×PH,st:=λ⟨k,c,h⟩=>bU 52 56 [(2,bv d),(3,iv e),(9,sv k),(24,sv c),(25,iv c.len),(26,iv 0)] [] m h}),
  (6,{A:=Nat×Sl×Sl×Mx×PH,st:=λ⟨i,k,c,w,h⟩=>bU 52 56 [(2,bv d),(3,iv e),(9,sv k),(11,.at (.ptr 11 0)),(24,sv c),(25,iv c.len),(26,iv i)] [(11,.cells 114 (w.enc.map .val))] m h}),
  (9,{A:=Nat×Sl×Sl×Sl×PH,st:=λ⟨i,k,c,u,h⟩=>bU 52 56 [(2,bv d),(3,iv e),(9,sv k),(12,sv u),(24,sv c),(25,iv c.len),(26,iv i)] [] m h})] [] [0] [] false
noncomputable def bEJ(b:Nat)(i c:Int)(v:fO)(u:Sl):Ctx:=rT [(126,btX)] [(2,{A:=Nat×MH×PH,st:=λ⟨k,m,h⟩=>bU 37 42 [(0,pv b),(1,iv i),(3,iv c),(7,.at (.ptr 7 0)),(12,sv u),(13,iv u.len),(14,iv k)] [(7,.cells 84 (v.enc.map .val))] m h})] [] [] [1046,0] [] false
noncomputable def bKX(b:Nat)(i:Int)(v:fO):Ctx:=rT [(83,bsQ),(84,b3J)]
 [(2,{A:=Nat×MH×PH,st:=λ⟨k,m,h⟩=>bU 79 82 [(0,pv b),(1,iv i),(5,.at (.ptr 5 0)),(12,iv v.old.len),(13,iv k)] [(5,.cells 84 (v.enc.map .val))] m h}),
  (7,{A:=Nat×ez×Nat×MH×PH,st:=λ⟨j,l,k,m,h⟩=>bU 79 82 [(0,pv b),(1,iv i),(5,.at (.ptr 5 0)),(6,iv k),(7,.at (.lst 42)),(12,iv v.old.len),(13,iv k),(27,.at (.lst 27)),(28,iv 2),(29,iv j)] [(5,.cells 84 (v.enc.map .val)),(27,.lst 4 1 [eB false,eB true]),(42,.lst 4 1 (l.map eB))] m h})] [] [] [0] [] false
def R0(v:bJ)(t:Int)(s:Sl)(m:MH)(h:PH)(K:dc):Prop:=
  CR v t h (λe f=>branch (!(i7 e f)) (K CE m h) (Ai v t (λb o y=>aJ m h b (eM o t 5+2) (bG y)/\aY y 0 (K CE m h) (Ai v t (λg j c=>aI (aJ m h g (eM j t 5+2) (bG c)) (0<=ite (aG s<c) (aG s) c) (uN (ite (aG s<c) (aG s) c) s) (∃(d:List cv),aA (dQ 3 d) (bX h (Sl.mk s.a (ite (aG s<c) (aG s) c).toNat s.cap) 3 d) (aA (cW (qW d*32)) (cW (qW d)) (bQ h 3 (Dd d) (λn u=>K (mL n) m u)))))))))
def RZ(s:Sl)(n:Int)(m:MH)(h:PH)(K:dc):Prop:=
  nG (λI x=>aA (I x) (aH s) (aA (bL n) (bI s) (cF (bE x) m m h h))) (λI d x=>I x->aY (↑x:Int) (aG s) (bD (λb o=>aI (bF s.a b o) (0<=(↑x:Int)) ((↑x:Int)<aG s) (∃(y:Int),aJ m h b (bB o x 1) (bG y)/\branch (n==y) (K (jA (↑x:Int)) m h) (∃(c:Nat),aA (I c) (d c<d x) (aA (aH s) (bL n) (aA (bI s) (fJ (aW x 1)=bY c) (aA (m=m) (h=h) True))))))) (K (jA (Int.negSucc 0)) m h))
abbrev Kf(a:Sl->Int->dd->Prop):Prop:=∃(x:Sl)(c:Int)(d:dd),a x c d
attribute [push_cast] Kf
def Si(s:Sl)(n:Int)(m:MH)(h:PH)(K:dc):Prop:=
  Kf (λc d l=>aA (eJ s n=eJ c d) (Ints h c l) (∀(k:Int),(dG k↔List.Mem d l)->K (Cr (decide (k>=0))) m h))
abbrev EO(a:bJ)(b:Int)(c:Sl)(d:Nat->Nat->Option Value)(e:Sl->PH->Prop):Prop:=zS (λx j n=>tH (λo f=>aA (cE (dX a) (fT b (mL c))=cE (dX x) (fT n (mL o))) (dM d j x) (aA (bO d o f) (jT f) (lE (λt g=>cR d g (bO g t (iI j n f)) (e t g))))))
attribute [push_cast] EO
def Sj(b:Nat)(v:fO)(m:MH)(h:PH)(K:dc):Prop:=
  ∃(I:Sl->Prop),bK (aG v.new) 0 (∃(x:Sl),aA (I x) (bZ b) (aA fW (aX v.old x) (cF (mT v) m m h h))) (∃(x:Sl),aA (I x) (bZ b) (aA fW (aX v.new x) (cF (mT v) m m h h)))/\∀(x:Sl),I x->∃(y:bJ),aJ m h b 0 (dX y)/\EO y v.table x h (λs c=>aJ m c b 0 (dX y)/\Bw s c (λe d=>aJ m d b 0 (dX y)/\K (mL e) m d))
abbrev HA(a:MH->Nat->Prop):Prop:=∃(x:MH)(c:Nat),a x c
abbrev DB(a:fO->tD->Prop):Prop:=∃(x:fO)(c:tD),a x c
abbrev DF(a:j4->(Int->fb)->fe->Prop):Prop:=∃(x:j4)(c:Int->fb)(d:fe),a x c d
noncomputable abbrev Dc(a:fO):Value:=cV a.table
noncomputable abbrev BG(a:Nat×Sl×Sl×Mx×PH):Sl:=a.2.2.1
noncomputable abbrev J6(a:Mx):dt:=cG (fY a.columns) (fY a.before) (qB a.after)
noncomputable abbrev Kl(a:Nat×Sl×Sl×Mx×PH):Mx:=a.2.2.2.1
noncomputable abbrev BH(a:Nat×Sl×Sl×Sl×PH):Nat->Nat->Option Value:=a.2.2.2.2
attribute [push_cast] HA DB DF Dc BG J6 Kl BH
def V5(b:Nat)(v:fO)(A:Bool)(t:Int)(m:MH)(h:PH)(K:dc):Prop:=
  HA (λQ H=>DB (λJ c=>DF (λs w d=>aA (qS (F1 b 0) (nS (jQ v))=qS (F1 H 0) (nS (jQ J))) (iW Q m h H s w d) (aA (Bh h c J) (jT c.old) (jT c.new/\lE (λF C=>cR h C (bO C F (yS s c)) (∃(I:Sl×Sl×PH->Prop),(∃(y:Nat),aJ m C b 2 (bN y)/\v8 m y (λO=>jU 3 O) (λO=>O (Dc v)) (Dc v) (∃(x:Sl×Sl×PH),aA (I x) (eQ (sQb A)) (aA (bL t) (aX F x.1) (aA (sQn=sQs x.2.1) (bE x.2.1.len) (aA (bL 0) (m=m) (dH C x.2.2))))) (λL=>∃(x:Sl×Sl×PH),aA (I x) (eQ (sQb A)) (aA (bL t) (aX F x.1) (aA (aX L x.2.1) (cD L x.2.1) (aA (bL 0) (m=m) (dH C x.2.2))))))/\∀(x:Sl×Sl×PH),I x->∃(I1:Nat×Sl×Sl×PH->Prop)(E:Nat×Sl×Sl×PH->Nat),(∃(f:Nat×Sl×Sl×PH),
 aA (I1 f) (eQ (sQb A)) (aA (bL t) (aX x.1 f.2.1) (aA (aX x.2.1 (lX f)) (cD x.2.1 (lX f)) (aA (bE f.1) (m=m) (dH x.2.2 (oO f))))))/\∀(f:Nat×Sl×Sl×PH),I1 f->aY (↑f.1:Int) (aG (lX f)) (bD (λM o=>aI (bF (lX f).a M o) (0<=(↑f.1:Int)) ((↑f.1:Int)<aG (lX f)) (∃(y:Mx),aJ m (oO f) M (bB o f.1 3) (bH (eF y.columns) (eF y.before) (aM y.after))/\∃(I2:Nat×Sl×Sl×Mx×PH->Prop),A7 t 0 (Kf (λD n l=>aA (eJ y.columns t=eJ D n) (Ints (oO f) D l) (branch (!(contains l n)) (∃(e:Nat×Sl×Sl×PH),aA (I1 e) (E e<E f) (aA (eQ (sQb A)) (bL t) (aA (aX f.2.1 e.2.1) (aX (lX f) (lX e)) (aA (cD (lX f) (lX e)) (fJ (aW f.1 1)=bY e.1) (dP m m
 (oO f) (oO e)))))) (∃(e:Nat×Sl×Sl×Mx×PH),aA (I2 e) (eQ (sQb A)) (aA (bL t) (aX f.2.1 e.2.1) (aA gW (aX (lX f) (BG e)) (aA (cD (lX f) (BG e)) (bP f.1 e.1) (cF (oQ 114 (J6 y)=oQ 114 (J6 (Kl e))) m m (oO f) e.2.2.2.2)))))))) (∃(e:Nat×Sl×Sl×Mx×PH),aA (I2 e) (eQ (sQb A)) (aA (bL t) (aX f.2.1 e.2.1) (aA gW (aX (lX f) (BG e)) (aA (cD (lX f) (BG e)) (bP f.1 e.1) (cF (oQ 114 (J6 y)=oQ 114 (J6 (Kl e))) m m (oO f) e.2.2.2.2)))))/\∀(e:Nat×Sl×Sl×Mx×PH),I2 e->∃(I3:Nat×Sl×Sl×Sl×PH->Prop),branch A (∃(j:Nat×Sl×Sl×Sl×PH),aA (I3 j) (eQ (sQb A)) (aA (bL t) (aX e.2.1 j.2.1) (aA (aX (Kl e).after j.2.2.2.1) (aX
 (BG e) j.2.2.1) (aA (cD (BG e) j.2.2.1) (bP e.1 j.1) (dP m m e.2.2.2.2 (BH j)))))) (∃(j:Nat×Sl×Sl×Sl×PH),aA (I3 j) (eQ (sQb A)) (aA (bL t) (aX e.2.1 j.2.1) (aA (aX (Kl e).before j.2.2.2.1) (aX (BG e) j.2.2.1) (aA (cD (BG e) j.2.2.1) (bP e.1 j.1) (dP m m e.2.2.2.2 (BH j))))))/\∀(j:Nat×Sl×Sl×Sl×PH),I3 j->jE (λD u=>Ks (λg P=>N7 (λl k=>∃(G:de->de),aA (cQ j.2.2.2.1 (fP j.2.1 (qU 117 uX))=cQ D (fP u (qU g (Array.mk P)))) (Rows (BH j) D l) (aA (l.length<=8000000) (UpK G l) ((∀(B:Sl)(r:de),aR (List.Mem r l) (bO (BH j) B r) (J7 g 3 B u P m (BH j) (λz R S=>aA (z=bG (cN (G r) k)) (R=m) (S=BH j))))/\branch
 (lC G l k) (K fB m (BH j)) (∃(B:Nat×Sl×Sl×PH),aA (I1 B) (E B<E f) (aA (eQ (sQb A)) (bL t) (aA (aX j.2.1 B.2.1) (aX j.2.2.1 (lX B)) (aA (cD j.2.2.1 (lX B)) (fJ (aW j.1 1)=bY B.1) (dP m m (BH j) (oO B)))))))))))))) (K aZ m (oO f)))))))))
def V4(b:Nat)(i:Int)(v:fO)(e:Int)(u:Sl)(m:MH)(h:PH)(K:dc):Prop:=
  E5 (λI x=>aA (I x) (bZ b) (aA (bL i) (bL e) (aA hX (aH u) (aA (bI u) (bE x.1) (aI (mT v) (iK m x) (fI h x.2) True))))) (λI t x=>I x->aY (↑x.1:Int) (aG u) (bD (λz o=>aI (bF u.a z o) (0<=(↑x.1:Int)) ((↑x.1:Int)<aG u) (∃(y:Bool),aJ (cA x) (bW x) z (bB o x.1 1) (tI y)/\∃(f:Sl),aA (aJ (cA x) (bW x) b 3 (aM f)) (aJ (cA x) (bW x) b 3 (aM f)) (HA (λF A=>DB (λB c=>DF (λs w d=>aA (qS (F1 b 0) (nS (jQ v))=qS (F1 A 0) (nS (jQ B))) (iW F (cA x) (bW x) A s w d) (aA (Bh (bW x) c B) (jT c.old) (jT c.new/\lE (λC g=>cR (bW x) g (bO g C (yS s c)) (vE (aJ (cA x) g b 3 (aM f)) (aJ (cA x) g b 3 (aM f)) (λn=>
 aI (cT (cA x) (cH f) 77 5 n) (cW (iA n 1*56)) (fN n) (∀(D:Sl)(E:MH),dV (cA x) E (cH f) D 77 5 (eK n (bH (cV i) (Value.bool y) (bH (cV v.table) (eF C) (bG e))))->pK E b 3 (aM D) (λG=>∃(j:Nat×MH×PH),aA (I j) (t j<t x) (aA (bZ b) (bL i) (aA (bL e) hX (aA (aH u) (bI u) (nO (fJ (aW x.1 1)=bY j.1) (mT v) (iK G j) (fI g j.2))))))))))))))))))) (K A3 (cA x) (bW x)))
noncomputable abbrev kP(a:Nat×ez×Nat×MH×PH):Nat×MH×PH:=a.2.2
abbrev NT(a b:Nat):Prop:=eQ (Option.some (Own.lst a b (mI vF::fV (mI xN))))
noncomputable abbrev CS(a:Nat×ez×Nat×MH×PH):List cv:=List.map eB a.2.1
attribute [push_cast] kP NT CS
def Wk(b:Nat)(i:Int)(v:fO)(m:MH)(h:PH)(K:dc):Prop:=
  bK (aG v.old) 0 (HA (λE F=>DB (λt c=>∃(a:Bool)(z:Int),DF (λs w d=>aA (cZ b (cE (jQ v) (cO fB (Int.negSucc 0)))=cZ F (cE (jQ t) (cO (Cr a) z))) (iW E m h F s w d) (aA (Bh h c t) (jT c.old) (jT c.new/\∀(j:PH),lA (PH.le h j) (!(kO (w c.tab) (yS s c) a z)) (bQ j 1 (fV (mI xN)) (λH n=>∃(B:MH),Jw (λC G=>DB (λP A=>∃(Q:Int)(u:Sl)(l:ez),DF (λJ R L=>aA (cZ b (nH i (cE (jQ v) (fT (Int.negSucc 0) (mL H))))=cZ C (nH G (cE (jQ P) (fT Q (mL u))))) (iW B m n C J R L) (aA (Bh n A P) (jT A.old) (aI (jT A.new) (bC n 1 eB Eq u l) (L.length+l.length<=1000000) (eZ (λD M=>cR n M (iW B D M C J R (L++
 List.map (fun(S:Bool)=>Den.mk G S A.tab (yS J A) Q) l)) (K A3 D M)))))))))) (K A3 m j))))))) (bK (aG v.new) 0 (HA (λE F=>DB (λt c=>∃(a:Bool)(z:Int),DF (λs w d=>aA (cZ b (cE (jQ v) (cO aZ (Int.negSucc 0)))=cZ F (cE (jQ t) (cO (Cr a) z))) (iW E m h F s w d) (aA (Bh h c t) (jT c.old) (jT c.new/\∀(j:PH),lA (PH.le h j) (!(kO (w c.tab) (yS s c) a z)) (bQ j 1 (fV (mI vF)) (λH n=>∃(B:MH),Jw (λC G=>DB (λP A=>∃(Q:Int)(u:Sl)(l:ez),DF (λJ R L=>aA (cZ b (nH i (cE (jQ v) (fT (Int.negSucc 0) (mL H))))=cZ C (nH G (cE (jQ P) (fT Q (mL u))))) (iW B m n C J R L) (aA (Bh n A P) (jT A.old) (aI (jT A.new) (bC
 n 1 eB Eq u l) (L.length+l.length<=1000000) (eZ (λD M=>cR n M (iW B D M C J R (L++List.map (fun(S:Bool)=>Den.mk G S A.tab (yS J A) Q) l)) (K A3 D M)))))))))) (K A3 m j))))))) (E5 (λI x=>aA (I x) (bZ b) (aA (bL i) bS (aA (bI v.old) (bE x.1) (aA (mT v) (iK m x) (eA h x.2))))) (λI E x=>I x->aY (↑x.1:Int) (aG v.old) (bD (λF o=>aI (bF v.old.a F o) (0<=(↑x.1:Int)) ((↑x.1:Int)<aG v.old) (∃(y:VV),aJ (cA x) (bW x) F (bB o x.1 3) y.enc/\bD (λC U=>aI (bF v.new.a C U) (0<=(↑x.1:Int)) ((↑x.1:Int)<aG v.new) (∃(V:VV),aJ (cA x) (bW x) C (bB U x.1 3) V.enc/\qY 58 y.enc V.enc (λr=>branch r (∃(f:Nat×MH×PH),aA (I f) (E f<E x) (aA (bZ b) (bL i) (aA
 bS (bI v.old) (aA (fJ (aW x.1 1)=bY f.1) (mT v) (fM (cA x) f.2 (bW x)))))) (∃(I1:Nat×ez×Nat×MH×PH->Prop)(B:Nat×ez×Nat×MH×PH->Nat),(∃(f:Nat×ez×Nat×MH×PH),aA (I1 f) (bZ b) (aA (bL i) bS (aA (bP x.1 (kP f).1) (eL 42) (aA (bI v.old) (bP x.1 (kP f).1) (aA (eL 27) (bL 2) (aA (bE f.1) (mT v) (aA (NT 4 1) (pE 4 1 (CS f)) (aA (iK (cA x) (kP f)) (fI (bW x) (kP f).2) True))))))))/\∀(f:Nat×ez×Nat×MH×PH),I1 f->aY (↑f.1:Int) 2 (aA (sC f.1) ((↑f.1:Int)<2) (∃(e:cv),pW (mI vF::fV (mI xN)) (nL f.1) e/\∃(T:Bool),DA 1 0 e (tI T)/\HA (λD O=>DB (λt c=>∃(a:Bool)(z:Int),DF (λs w d
 =>aA (cZ b (cE (jQ v) (cO (Cr T) (↑(kP f).1:Int)))=cZ O (cE (jQ t) (cO (Cr a) z))) (iW D (cA (kP f)) (bW (kP f)) O s w d) (aA (Bh (bW (kP f)) c t) (jT c.old) (jT c.new/\∀(j:PH),lA (PH.le (bW (kP f)) j) (!(kO (w c.tab) (yS s c) a z)) (kX (CS f) 1 (∃(g:Nat×ez×Nat×MH×PH),aA (I1 g) (B g<B f) (aA (bZ b) (bL i) (aA bS (bP (kP f).1 (kP g).1) (aA (eL 42) (bI v.old) (aA (bP (kP f).1 (kP g).1) (eL 27) (aA (bL 2) (fJ (aW f.1 1)=bY g.1) (aA (mT v) (NT 4 1) (aA (Option.some (Own.lst 4 1 (eK (CS f) (tI T)))=Option.some (Own.lst 4 1 (CS g))) (iK (cA (kP f)) (kP g)) (eA j (kP g).2)))))))))) (∃(g:Nat×ez×
 Nat×MH×PH),aA (I1 g) (B g<B f) (aA (bZ b) (bL i) (aA bS (bP (kP f).1 (kP g).1) (aA (eL 42) (bI v.old) (aA (bP (kP f).1 (kP g).1) (eL 27) (aA (bL 2) (fJ (aW f.1 1)=bY g.1) (aA (mT v) (NT 4 1) (aA (Option.some (Own.lst 4 1 (CS f))=Option.some (Own.lst 4 1 (CS g))) (iK (cA (kP f)) (kP g)) (eA j (kP g).2)))))))))))))))) (bQ (bW (kP f)) 1 (CS f) (λs j=>∃(D:MH),Jw (λO G=>DB (λt c=>∃(z:Int)(u:Sl)(l:ez),DF (λH w d=>aA (cZ b (nH i (cE (jQ v) (fT (↑(kP f).1:Int) (mL s))))=cZ O (nH G (cE (jQ t) (fT z (mL u))))) (iW D (cA (kP f)) j O H w d) (aA (Bh j c t) (jT c.old) (aI (jT c.new) (bC j 1 eB Eq u
 l) (d.length+l.length<=1000000) (eZ (λW n=>cR j n (iW D W n O H w (d++List.map (fun(a:Bool)=>Den.mk G a c.tab (yS H c) z) l)) (∃(g:Nat×MH×PH),aA (I g) (E g<E x) (aA (bZ b) (bL i) (aA bS (bI v.old) (aA (fJ (aW (kP f).1 1)=bY g.1) (mT v) (fM W g.2 n))))))))))))))))))))) (K A3 (cA x) (bW x)))))
theorem Ti:Tryz.prog.underlying 3=some (.int .i64):=be
theorem X3:KeyLaw Tryz.prog 3 (λv=>∃n,v= .int .i64 n):=by
 refine⟨⟨_,Ti⟩,?_,?_,?_⟩
 .rintro _ w b ⟨n,rfl⟩
  have e:∀k:Nat,(Instr.checkKey b (k+1) 3 (.int .i64 n)).run Tryz.prog w= .ok () w:=λk=>by
   unfold Instr.checkKey;simp only[Sem.run_bind,run_underlying Ti,Result.andThen];simp
  exact e 9999
 .rintro _ _ w ⟨a,rfl⟩ ⟨b,rfl⟩;refine⟨_,run_equalIn_int w 9999 3 .i64 .i64 a b Ti,?_⟩;simp
 .rintro d _ _ r c ⟨a,rfl⟩ ⟨b,rfl⟩ h;rw[Ti]at c;cases c;simp only[Instr.sameNow,if_true,ce]at h
  grind
theorem bSZ{s:Sl}{n:Int}(d:Ints h s l)(f:K (cB (l.contains n)) m h):Si s n m h K:=
 ⟨s,n,l,rfl,d,λk c=>jM f (by
  cases e:l.contains n with
  |true=>rw[eq_comm,cm];exact c.2 (contains_iff_mem.1 e)
  |false=>
   rw[eq_comm,decide_eq_false_iff_not];intro g;have:n∈l:=c.1 g
   grind)⟩
theorem Zc:cu 154 bZJ:=by
 refine iB func154 ?_;rintro B m h K ⟨v,s,t,c,r,rfl,j,n,R,u⟩;refine⟨dD [(113,aUZ)] [] [] [] false,rfl,aD Cp aF,R0 v t c m h K,be,?_⟩;dsimp only[R0,push_cast];have C:=bC.slen n;have D:=j.tables.slen;have d:iI s t r=[]->K (.val (.slice none 0 0)) m h:=λe=>u ⟨none,0,0⟩ h (.refl _) (by rw[e];exact bC.nil _ _ _ _);refine⟨v,s,t,rfl,j,aB (λf=>d ?_) (λf=>?_)⟩
 .simp only[Bool.not_eq_true']at f;simp[iI,f]
 simp only[Bool.not_eq_false']at f;have E:=f;simp only[i7,cg,cm]at E;obtain⟨x,b,o,w,F,y,rd,G⟩:=j.table (t:=t) aC aC;have z:=G.key;have e:iI s t r=r.take (max 0 (min x.key r.length)).toNat:=by simp only[iI,f,if_true,F];rfl
 refine⟨b,o,y,aC,aC,w.key,.imm (bA.part rd 2 1),aE (λH=>d ?_) (λH=>?_)⟩
 .rw[e,show(max 0 (min x.key r.length)).toNat=0 by omega,take_zero]
 have A:c.len<=c.cap:=by obtain⟨⟨_,k,_⟩,_⟩:=n;exact k.cap
 have S:(if(c.len:Int)<w.key then(c.len:Int)else w.key).toNat=(max 0 (min x.key r.length)).toNat:=by omega
 have I:(max 0 (min x.key r.length)).toNat<=r.length:=by omega
 obtain⟨⟨g,T,J,L⟩,M⟩:=bO.cut (a:=c.a) (len:=c.len) (cap:=c.cap) n I;have O:g.length<=1000:=bk
 refine⟨b,o,y,aC,aC,w.key,.imm (bA.part rd 2 1),aC,aC,g.map VV.enc,B8 g,bk,bk,bk,λP h' le Q=>u P h' le ?_⟩;rw[e];exact⟨⟨g,bk,J,L⟩,M⟩
theorem Zb:cu 155 btJ:=by
 refine iB func155 ?_;rintro u m h K ⟨s,n,l,rfl,d,g⟩;refine⟨bdQ s n m h,rfl,aF,RZ s n m h K,be,?_⟩;dsimp only[RZ,push_cast];have f:=d.slen;have C:=d.len;refine⟨λi=>i<=l.length/\∀x∈l.take i,x≠n,λi=>l.length-i,⟨0,⟨aC,bf⟩,MT⟩,λi⟨D,j⟩=>aE (λc=>?_) (λz=>g _ ⟨λe=>by omega,λe=>?_⟩)⟩
 .obtain⟨x,t⟩:=eO f c;obtain⟨b,o,A,rd⟩:=d.at' t;refine⟨b,o,A,aC,c,x,.imm rd,aB (λe=>g _ ⟨λ_=>?_,λ_=>by omega⟩) (λe=>⟨i+1,⟨aC,λy B=>?_⟩,bk,MT⟩)⟩
  .grind
  .rw[cj,t,mem_append]at B
   grind
 grind
theorem Zr:cu 127 b4Q:=by
 refine iB func127 ?_;rintro c m h K ⟨s,n,l,rfl,d,e⟩;refine⟨dD [(155,btJ)] [] [] [] false,rfl,aD Zb aF,Si s n m h K,be,?_⟩;exact bSZ d e
theorem PL:cu 126 btX:=by
 refine iB func126 ?_;rintro A m h K ⟨Q,b,v,c,s,R,S,rfl,B,f,o,g,C⟩;refine⟨bgJ b v m h,rfl,aD Zc (aD PN aF),Sj b v m h K,be,?_⟩;dsimp only[Sj,push_cast];obtain⟨sc,y,d,D,E,F,G,_⟩:=B.ex;have H:=bC.slen f.new_;refine⟨λu=>bO h u (if c.new.length=0 then c.old else c.new),aB (λI=>⟨v.old,?_,MT⟩) (λI=>⟨v.new,?_,MT⟩),λu J=>?_⟩
 .rw[if_pos bk];exact f.old_
 .rw[if_neg bk];exact f.new_
 have rd:∀t,aJ m t b 0 (bJ.enc sc):=λt=>.of_m F rfl;have e:(if c.new.length=0 then c.old else c.new).length<=1000:=bk
 have L:(iI s c.tab (if c.new.length=0 then c.old else c.new)).length<=1000:=by
  unfold iI;split
  .unfold dU;grind
  .simp
 exact⟨sc,rd h,sc,s,v.table,u,_,rfl,G,J,e,λM o j z=>⟨rd o,M,_,rfl,by rw[f.tab_]at z;exact z,L,λO g n P=>⟨rd g,C O g (j.trans n) P⟩⟩⟩
theorem aAX{l:cw}{key:de}(d:nA l):lC (λr=>r) l key=X4 l key:=by
 have c:UpK (λr=>r) l:=d;cases e:X4 l key with
 |true=>exact(LJ c).2 ⟨key,Od.1 e,rfl⟩
 |false=>
  rw[Bool.eq_false_iff];intro f;obtain⟨r,g,rfl⟩:=(LJ c).1 f;rw[Od.2 g]at e;cases e
theorem iW.look{m0:MH}{wr:Int->fb}{ds:fe}{t:Int}{P0:Prop}{P:Sl->Prop}(j:iW m0 m h b s wr ds)(le:PH.le h h')(n:bC h' 3 Mx.enc (Nw h') ⟨none,0,0⟩ (wr t)->P0)(o:∀ws,bC h' 3 Mx.enc (Nw h') ws (wr t)->P ws):
 ∃y,aJ m h' b 2 [Value.map (some y)]/\∃(c:List (Value×Sl))(Ok:Value->Prop),tB m y (c.map λp=>(p.1,eF p.2))/\KeyLaw Tryz.prog 3 Ok/\Ok (.int .i64 t)/\(∀e,List.Mem e c->Ok e.1)/\((∀e,List.Mem e c->e.1=Value.int .i64 t->False)->P0)/\∀u,List.Mem (Value.int .i64 t,u) c->P u:=by
 obtain⟨sc,y,d,c,z,A,_,B,C,D,_⟩:=j.ex;refine⟨y,.of_m A rfl,c.map λp=>(Value.int .i64 p.1,p.2),_,by rw[map_map];exact B,X3,⟨t,rfl⟩,λe E=>?_,λF=>n ?_,λu g=>o u ?_⟩
 .obtain⟨k,_,rfl⟩:=mem_map.1 (show e∈_ from E)
  grind
 .rw[D t λu g=>F (Value.int .i64 t,u) (mem_map_of_mem (f:=λp:Int×Sl=>(Value.int .i64 p.1,p.2)) g) rfl];exact bC.nil _ _ _ _
 .obtain⟨p,G,e⟩:=mem_map.1 (show(Value.int .i64 t,u)∈_ from g);simp only[Prod.mk.injEq,Value.int.injEq,true_and]at e;obtain⟨H,I⟩:=e;subst H I;exact bC.mono (C _ _ G) le λ_ _ x=>x.mono le
theorem aDQ:cu 83 bsQ:=by
 refine iB func83 ?_;rintro U m h K ⟨V,b,v,c,d,f,s,I,X,rfl,Q,R,Y,Z,A⟩;refine⟨bFQ d f m,rfl,aD PL (aD Zr (aD PO aF)),V5 b v d f m h K,be,?_⟩;dsimp only[V5,push_cast];refine⟨V,b,v,c,s,I,X,rfl,Q,R,Y,Z,λk h' le S=>?_⟩;have ht:=R.tab_;refine⟨λz=>k=z.1/\h'=z.2.2/\bC h' 3 Mx.enc (Nw h') z.2.1 (I v.table),iW.look Q le (t:=v.table) (λhn=>⟨(k,⟨none,0,0⟩,h'),⟨rfl,rfl,hn⟩,MT⟩) (λj g=>⟨(k,j,h'),⟨rfl,rfl,g⟩,MT⟩),?_⟩;rintro⟨_,j,_⟩ ⟨rfl,rfl,g⟩;dsimp only at g⊢
 rw[ht]at g;generalize I c.tab=W at A g;generalize yS s c=key at A S;have J:=bC.slen g;have L:=g.len;refine⟨λz=>k=z.2.1/\j=z.2.2.1/\h'=z.2.2.2/\z.1<=W.length/\kO W key d f=kO (W.drop z.1) key d f,λz=>W.length-z.1,⟨(0,k,j,h'),⟨rfl,rfl,rfl,Nat.zero_le _,bk⟩,MT⟩,?_⟩;rintro⟨i,_,_,_⟩ ⟨rfl,rfl,rfl,hi,B⟩;dsimp only at hi B⊢
 refine aE (λC=>?_) (λa'=>?_)
 .obtain⟨w,T⟩:=eO J C;obtain⟨b1,o1,u,ea,rd,o⟩:=bC.at g T;rw[drop_cons T]at B
  have next:(!((decide (f<0)||w.cols.contains f)&&X4 (if d then w.aft else w.bef) key))=true->(i+1<=W.length/\kO W key d f=kO (W.drop (i+1)) key d f):=λe=>by
   refine⟨aC,?_⟩;rw[B];rw[Bool.not_eq_true']at e;simp only[kO,any_cons,e,Bool.false_or]
  refine⟨b1,o1,ea,aC,C,u,.imm rd,λz=>z=(i,k,j,u,h')/\(decide (f<0)||w.cols.contains f)=true,aE (λn=>⟨u.columns,f,w.cols,rfl,o.cols_,aB (λa2=>?_) (λa2=>⟨(i,k,j,u,h'),⟨rfl,?_⟩,MT⟩)⟩) (λn=>⟨(i,k,j,u,h'),⟨rfl,?_⟩,MT⟩),?_⟩
  .obtain⟨M,O⟩:=next (by
    grind)
   exact⟨(i+1,k,j,h'),⟨rfl,rfl,rfl,M,O⟩,aC,MT⟩
  .grind
  .grind
  rintro _ ⟨rfl,D⟩;dsimp only;refine⟨λz=>∃H,z=(i,k,j,H,h')/\Rows h' H (if d then w.aft else w.bef),aB (λn=>⟨(i,k,j,u.after,h'),⟨_,rfl,by rw[n];exact o.aft_⟩,MT⟩) (λn=>⟨(i,k,j,u.before,h'),⟨_,rfl,by rw[n];exact o.bef_⟩,MT⟩),?_⟩;rintro _ ⟨H,rfl,E⟩;dsimp only
  have y:nA (if d then w.aft else w.bef):=by
   split
   .exact o.aftS
   .exact o.befS
  have F:(if d then w.aft else w.bef).length<=8000000:=by
   split
   .exact o.aftL
   .exact o.befL
  have G:X4 (if d then w.aft else w.bef) key=true->kO W key d f=true:=λe=>by
   rw[B];simp only[kO,any_cons,D,e,Bool.true_and,Bool.true_or]
  generalize (if d then w.aft else w.bef)=l at E y F next G
  refine⟨H,k,117,[],l,key,λr=>r,rfl,E,F,y,λx r _ P=>akZ tN λK A=>⟨x,k,r,key,rfl,P,S,A⟩,?_⟩;rw[aAX y];refine aB (λn=>?_) (λn=>?_)
  .have:=A h' le;rw[G n]at this;exact this
  .obtain⟨M,O⟩:=next (by rw[n,Bool.and_false];rfl)
   exact⟨(i+1,k,j,h'),⟨rfl,rfl,rfl,M,O⟩,bm,MT⟩
 .have:i=W.length:=by omega
  subst this;rw[drop_length]at B;have:=A h' le;rw[B]at this;exact this
theorem iW.deny{m0 m2:MH}{y:Nat}{wr:Int->fb}{ds:fe}{d F:Sl}{z:List (Int×Sl)}{f:List zC}{nd:Den}{nv:zC}{cs:Array Value}{E:TypeId}(G:iW m0 m h b s wr ds)(B:m b=some (.cells ⟨bJ.enc sc++[.map (some y),Sl.val d]⟩ 111 (0,0)))(T:dM h s sc)(P:tB m y (z.map λp=>(Value.int .i64 p.1,Sl.val p.2)))
 (U:∀t u,(t,u)∈z->bC h 3 Mx.enc (Nw h) u (wr t))(V:∀t,(∀u,(t,u)∉z)->wr t=[])(H:kS m0 m d 77 5 (f.map zC.enc))(Q:ds.length=f.length)(W:∀(i:Nat) x,ds[i]? =some x->∃v,f[i]? =some v/\Z2 h x v)
 (le:PH.le h h')(g:dV m m' d F 77 5 (f.map zC.enc++[nv.enc]))(A:m' b=some (.cells cs E (0,0)))(I:gR m' m2 b (.cells ⟨splice cs.toList 3 [Sl.val F]⟩ E))(X:Z2 h' nd nv):iW m0 m2 h' b s wr (ds++[nd]):=by
 have R:∀i,d.a≠some ⟨b,i,none⟩:=λi e=>by
  obtain⟨J,c⟩:=cT.blk H.row e;rw[B]at c;simp only[ce,Obj.cells.injEq]at c;exact absurd c.2.1 bg
 have Y:m' b=m b:=by rw[B];exact g.other b _ B R
 rw[Y,B]at A;simp only[ce,Obj.cells.injEq]at A;obtain⟨rfl,rfl,_⟩:=A;obtain⟨es,ck,C,Z⟩:=P.ex
 have ny:∀i,d.a≠some ⟨y,i,none⟩:=λi e=>by
  obtain⟨J,c⟩:=cT.blk H.row e;rw[C]at c;cases c
 have L:y≠b:=λe=>by rw[e,B]at C;cases C
 have D:∀x i,F.a=some ⟨x,i,none⟩->x≠b/\m0 x=none:=λx i e=>by
  rcases g.fresh x i e with k|⟨j,k⟩
  .exact⟨λc=>(by rw[c,B]at k;cases k),G.sub.free k⟩
  .exact⟨λc=>R j (c▸k),H.fresh x j k⟩
 refine⟨λx o e=>?_,G.new,sc,y,F,z,f++[nv],I.at_,T.mono le,tB.keep P ?_,λt u k=>bC.mono (U t u k) le λ_ _ x=>x.mono le,V,⟨cT.keep ?_ λx i e=>I.other x (D x i e).1,λx i e=>(D x i e).2⟩,by simp[Q],λi x e=>?_⟩
 .have M:x≠b:=λc=>by rw[c,G.new]at e;cases e
  rw[I.other x M];exact g.other x o (G.sub x o e) λi c=>by rw[H.fresh x i c]at e;cases e
 .rw[I.other y L,C];exact g.other y _ C ny
 .rw[cd];exact g.row
 .rw[getElem?_append]at e⊢
  rw[Q]at e;split at e
  .rename_i O;rw[if_pos O];obtain⟨w,k1,k2⟩:=W i x e;exact⟨w,k1,k2.mono le⟩
  .rename_i O;rw[if_neg O];cases S:i-f.length with
   |zero=>rw[S]at e;simp at e;subst e;exact⟨nv,rfl,X⟩
   |succ n=>rw[S]at e;simp at e
theorem ZR{s:Sl}{l:ez}(x:bX h s 1 (l.map eB))(c:l.length<=1000000):bC h 1 eB Eq s l:=⟨⟨l,x,rfl,λ_ v e=>⟨v,e,rfl⟩⟩,aC⟩
theorem iW.mono{m0:MH}{wr:Int->fb}{ds:fe}(g:iW m0 m h b s wr ds)(le:PH.le h h'):iW m0 m h' b s wr ds:=by
 obtain⟨j,n,sc,y,d,c,f,o,z,A,B,C,D,E,F⟩:=g;exact⟨j,n,sc,y,d,c,f,o,z.mono le,A,λt u k=>bC.mono (B t u k) le λ_ _ x=>x.mono le,C,D,E,λi x e=>by obtain⟨w,G,H⟩:=F i x e;exact⟨w,G,H.mono le⟩⟩
theorem LK{α:Type}{D:Nat->List α}(c:∀k,(D k).length<=2):∀n,((List.range n).flatMap D).length<=2*n
 |0=>bf
 |n+1=>by
  have:=LK c n;have:=c n;rw[range_succ,flatMap_append,bz,flatMap_singleton];omega
theorem aCJ:cu 84 b3J:=by
 refine iB func84 ?_;rintro V m h K ⟨D,b,i,v,c,f,u,l,s,E,M,rfl,W,O,X,Y,P,hl,Z⟩;refine⟨bEJ b i f v u,rfl,aD PL aF,V4 b i v f u m h K,be,?_⟩;dsimp only[V4,push_cast];have F:=bC.slen P;refine⟨λz=>z.1<=l.length/\PH.le h z.2.2/\iW D z.2.1 z.2.2 b s E (M++(l.take z.1).map λa=>⟨i,a,c.tab,yS s c,f⟩),λz=>l.length-z.1,⟨(0,m,h),⟨bf,.refl _,br W⟩,MT⟩,?_⟩;rintro⟨k,Q,G⟩ ⟨hk,le,J⟩;dsimp only at hk le J⊢
 refine aE (λn=>?_) (λa'=>?_)
 .obtain⟨a,R⟩:=eO F n;obtain⟨b1,o1,_,ea,rd,rfl⟩:=bC.at P R;obtain⟨sc,y,d,a0,o,B,hs,hm,e1,e2,H,S,e4⟩:=J.ex;have C:∀T,aJ Q T b 3 [Sl.val d]:=λT=>.of_m B rfl;have a1:o.length<=1000000:=by rw[<-S,bz,length_map,length_take];omega
  refine⟨b1,o1,ea,aC,n,a,.imm (rd.mono le),d,C G,C G,D,b,v,c,s,E,_,rfl,J,O.mono le,X,Y,λs' h' t I=>⟨C h',C h',o.map zC.enc,H.row,bi,bi,λd' m' g=>?_⟩⟩
  have A:m' b=some (.cells ⟨bJ.enc sc++[.map (some y),Sl.val d]⟩ 111 (0,0)):=g.other b _ B λj e=>by
   obtain⟨a2,L⟩:=cT.blk H.row e;rw[B]at L;simp only[ce,Obj.cells.injEq]at L;exact absurd L.2.1 bg
  refine⟨_,111,⟨A⟩,by simp[bJ.enc],λU up=>⟨(k+1,U,h'),⟨bo,le.trans t,?_⟩,bm,MT⟩⟩;have:=J.deny (nd:=⟨i,a,c.tab,yS s c,f⟩) (nv:=⟨i,a,v.table,s',f⟩) B hs hm e1 e2 H S e4 t g A up ⟨rfl,rfl,O.tab_,I,rfl⟩;rw[append_assoc]at this;show iW D U h' b s E (M++(l.take (k+1)).map _);rw[iE R];exact this
 .rw[ca aC]at J;exact Z Q G le J
theorem aIQ:cu 43 atX:=by
 refine iB func43 ?_;rintro b3 m h K ⟨E,b,i,v,c,s,o,I,rfl,L,y,M,u,h3,hl,A⟩;refine⟨bKX b i v,rfl,aD aDQ (aD aCJ aF),Wk b i v m h K,be,?_⟩;dsimp only[Wk,push_cast];have X:=bC.slen y.old_;have Y:=bC.slen y.new_;unfold P4 at A;refine aB (λG=>?_) (λG=>aB (λH=>?_) (λH=>?_))
 .have G:c.old.length=0:=by simp only[beq_iff_eq]at G;omega
  rw[if_pos G]at A;refine⟨E,b,v,c,true, -1,s,o,I,rfl,L,y,M,u,λh' le=>aB (λn=>λQ h4 f R=>⟨E,b,i,v,c, -1,Q,[true],s,o,I,rfl,L.mono (le.trans f),y.mono (le.trans f),M,u,ZR R bg,bj,λm' h' t J=>A m' h' (le.trans (f.trans t)) ?_⟩) (λn=>A m h' le ?_)⟩
  .rw[Bool.not_eq_true']at n;rw[n];exact J
  .rw[Bool.not_eq_false']at n;rw[n,if_pos rfl,append_nil];exact L.mono le
 all_goals have G:c.old.length≠0:=by simp only[beq_eq_false_iff_ne]at G;omega
 all_goals rw[if_neg G]at A
 .have H:c.new.length=0:=by simp only[beq_iff_eq]at H;omega
  rw[if_pos H]at A;refine⟨E,b,v,c,false, -1,s,o,I,rfl,L,y,M,u,λh' le=>aB (λn=>λQ h4 f R=>⟨E,b,i,v,c, -1,Q,[false],s,o,I,rfl,L.mono (le.trans f),y.mono (le.trans f),M,u,ZR R bg,bj,λm' h' t J=>A m' h' (le.trans (f.trans t)) ?_⟩) (λn=>A m h' le ?_)⟩
  .rw[Bool.not_eq_true']at n;rw[n];exact J
  .rw[Bool.not_eq_false']at n;rw[n,if_pos rfl,append_nil];exact L.mono le
 have H:c.new.length≠0:=by simp only[beq_eq_false_iff_ne]at H;omega
 rw[if_neg H]at A;have h3:c.old.length=c.new.length:=h3 (λe=>G (by rw[e];rfl)) (λe=>H (by rw[e];rfl));generalize Z:(λj:Nat=>if W4 (c.old.getD j zeroV) (c.new.getD j zeroV)=true then[]else([false,true].filter λa=> !kO (o c.tab) (yS s c) a j).map λa=>(⟨i,a,c.tab,yS s c,j⟩:Den))=D at A
 have a':∀k,(D k).length<=2:=λk=>by
  subst Z;dsimp only;split
  .simp
  .rw[length_map];exact length_filter_le _ _
 have g:∀k,D k=if W4 (c.old.getD k zeroV) (c.new.getD k zeroV)=true then[]else([false,true].filter λa=> !kO (o c.tab) (yS s c) a k).map λa=>(⟨i,a,c.tab,yS s c,k⟩:Den):=λk=>by rw[<-Z]
 clear Z;refine⟨λz=>z.1<=c.old.length/\PH.le h z.2.2/\iW E z.2.1 z.2.2 b s o (I++(List.range z.1).flatMap D),λz=>c.old.length-z.1,⟨(0,m,h),⟨bf,.refl _,br L⟩,MT⟩,?_⟩;rintro⟨k,F,P⟩ ⟨hk,le,J⟩;dsimp only at hk le J⊢
 have B:∀m2 u,PH.le P u->iW E m2 u b s o ((I++(List.range k).flatMap D)++D k)->iW E m2 u b s o (I++(List.range (k+1)).flatMap D):=λm2 u _ x=>by
  rw[range_succ,flatMap_append,flatMap_singleton, <-append_assoc];exact x
 have b4:=LK a' k;refine aE (λS=>?_) (λb5=>?_)
 .obtain⟨x,hx⟩:=eO X S;obtain⟨x2,T⟩:=eO Y (i:=k) aC;obtain⟨b1,o1,_,ea,rd,rfl⟩:=bC.at y.old_ hx;obtain⟨b2,o2,_,a0,a5,rfl⟩:=bC.at y.new_ T;have g1:c.old.getD k zeroV=x:=by rw[getD_eq_getElem?_getD,hx];rfl
  have g2:c.new.getD k zeroV=x2:=by rw[getD_eq_getElem?_getD,T];rfl
  have g:=g k;rw[g1,g2]at g;refine⟨b1,o1,ea,aC,S,x,.imm (rd.mono le),b2,o2,a0,aC,aC,x2,.imm (a5.mono le),_,Oe x x2,aB (λn=>?_) (λn=>?_)⟩
  .rw[if_pos n]at g;exact⟨(k+1,F,P),⟨bo,le,B F P (.refl _) (by rw[g,append_nil];exact J)⟩,bm,MT⟩
  rw[if_neg (by rw[n];decide)]at g;generalize hN:(λa=> !kO (o c.tab) (yS s c) a (k:Int))=N at g;have U:∀a,(!kO (o c.tab) (yS s c) a (k:Int))=N a:=λa=>by rw[<-hN]
  refine⟨λz=>k=z.2.2.1/\F=z.2.2.2.1/\PH.le P z.2.2.2.2/\z.1<=2/\z.2.1=([false,true].take z.1).filter N,λz=>2-z.1,⟨(0,[],k,F,P),⟨rfl,rfl,.refl _,bf,rfl⟩,MT⟩,?_⟩;rintro⟨j,lb,_,_,hy⟩ ⟨rfl,rfl,d,a6,V⟩;dsimp only at d a6 V⊢
  subst V;refine aE (λb'=>?_) (λb0=>?_)
  .have a7:j=0\/j=1:=by omega
   rcases a7 with rfl|rfl
   .refine⟨aC,aC,_,rfl,false,rfl,E,b,v,c,false,k,s,o,_,rfl,J.mono d,y.mono (le.trans d),M,u,λh' C=>?_⟩;rw[U];refine aB (λO=>⟨bf,bf,(1,[false],k,F,h'),⟨rfl,rfl,d.trans C,bf,by simp[O]⟩,by show(2-1:Nat)<2-0;omega,MT⟩) (λO=>⟨(1,[],k,F,h'),⟨rfl,rfl,d.trans C,bf,by simp[O]⟩,by show(2-1:Nat)<2-0;omega,MT⟩)
   .refine⟨aC,aC,_,rfl,true,rfl,E,b,v,c,true,k,s,o,_,rfl,J.mono d,y.mono (le.trans d),M,u,λh' C=>?_⟩;rw[U];have W:(([false,true].take 1).filter N).length<=2:=cr (length_filter_le _ _) bf;refine aB (λO=>⟨bi,bi,(2,([false,true].take 1).filter N++[true],k,F,h'),⟨rfl,rfl,d.trans C,bf,?_⟩,by show(2-2:Nat)<2-1;omega,?_⟩) (λO=>⟨(2,([false,true].take 1).filter N,k,F,h'),⟨rfl,rfl,d.trans C,bf,?_⟩,by show(2-2:Nat)<2-1;omega,MT⟩)
    .show _=([false,true].take 2).filter N;rw[show[false,true].take 2=[false,true].take 1++[true]from rfl,filter_append];simp[O]
    .dsimp only;rw[cd];exact MT
    .show _=([false,true].take 2).filter N;rw[show[false,true].take 2=[false,true].take 1++[true]from rfl,filter_append];simp[O]
  .have a8:j=2:=by omega
   subst a8;have W:(([false,true].take 2).filter N).length<=2:=length_filter_le _ _;intro Q h4 f R;refine⟨E,b,i,v,c,k,Q,([false,true].take 2).filter N,s,o,_,rfl,J.mono (d.trans f),y.mono (le.trans (d.trans f)),M,u,ZR R aC,by rw[bz];omega,λm' h' t J2=>⟨(k+1,m',h'),⟨bo,le.trans (d.trans (f.trans t)),B m' h' (d.trans (f.trans t)) (by rw[g];exact J2)⟩,bm,MT⟩⟩
 .have a9:k=c.old.length:=by omega
  subst a9;exact A F P le J
structure lR where
 kind:Int
 table:Int
 cols:dd
 query:Query
structure Nx(h:PH)(r:lR)(v:bM):Prop where
 kind_:v.kind=r.kind
 table_:v.table=r.table
 cols_:Ints h v.columns r.cols
 query_:dR h r.query v.query
theorem Nx.mono{r:lR}{v:bM}(x:Nx h r v)(le:PH.le h h'):Nx h' r v:=⟨x.kind_,x.table_,x.cols_.mono le,x.query_.mono le⟩
structure iH(h:PH)(p r:Sl)(ps:dd)(rs:List lR):Prop where
 params:Ints h p ps
 rules:bC h 24 bM.enc (Nx h) r rs
theorem iH.mono{p:Sl}{rs:List lR}(x:iH h p r ps rs)(le:PH.le h h'):iH h' p r ps rs:=⟨x.params.mono le,bC.mono x.rules le λ_ _ y=>y.mono le⟩
def ciX(v:bM):CV:=.val (.agg ⟨v.enc⟩)
def bnJ(p r:Sl):CV:=.val (.agg ⟨[.slice p.a p.len p.cap,.slice r.a r.len r.cap]⟩)
def lS(n:Int):Int->dd->Bool
 |_,[]=>true
 |l,c::cs=>decide (l<c)&&decide (c<n)&&lS n c cs
def rI(s:j4)(r:lR):Bool:=(r.kind==1||r.kind==2)&&i7 s r.table&&(match s.tables[r.table.toNat]? with|some t=>lS t.columns.length (t.key-1) r.cols|none=>false)
def jL(s:j4)(t:Int):dd:=match(if i7 s t then s.tables[t.toNat]? else none)with|some c=>if 0<=c.key then(dT s t).take (min c.key.toNat (dT s t).length)else[]|none=>[]
noncomputable def jC(s:j4)(ps:dd)(r:lR):Int:=if rI s r=false then 160 else if(eG s ps r.query).2≠0 then(eG s ps r.query).2 else if(eG s ps r.query).1=jL s r.table then 0 else 160
noncomputable def zL(s:j4)(ps:dd)(rs:List lR):Int:=if dK s≠0 then dK s else if 16<rs.length\/8<ps.length then 2 else if ps.all cX=false then 160 else lM (rs.map (jC s ps))
def Xv:Vc.Spec:=λc m h K=>∃sc v s r,c=[aS sc,ciX v]/\dM h s sc/\Nx h r v/\dK s=0/\K (cB (rI s r)) m h
def S6:Vc.Spec:=λc m h K=>∃v s t,c=[aS v,cI t]/\dM h s v/\mQ s/\∀d h',PH.le h h'->Ints h' d (jL s t)->K (cS d) m h'
def SY:Vc.Spec:=λc m h K=>∃sc p r s ps rs,c=[aS sc,bnJ p r]/\dM h s sc/\iH h p r ps rs/\∀h',PH.le h h'->K (cI (zL s ps rs)) m h'
def nW(ks:dd)(vs:de):Bool:=decide (vs.length=ks.length)&&(List.range vs.length).all λi=>mF (vs.getD i zeroV)&&((vs.getD i zeroV).kind==ks.getD i 0)
def apQ:Vc.Spec:=λc m h K=>∃k v ks d,c=[cS k,cS v]/\Ints h k ks/\bO h v d/\K (cB (nW ks d)) m h
noncomputable def bJQ(sc:bJ)(v:bM)(m:MH)(h:PH):Ctx:=dD [] [(8,{A:=Nat×bR×Int,st:=λ⟨i,t,l⟩=>bU 56 58 [(5,.at (.ptr 5 0)),(6,iv l),(38,sv v.columns),(39,iv v.columns.len),(40,iv i)] [(5,.cells 74 (t.enc.map .val))] m h})] [(3,{A:=Unit,st:=λ_=>bU 56 58 [(2,.at (.ptr 2 0)),(3,.at (.ptr 3 0))] [(2,.cells 29 (sc.enc.map .val)),(3,.cells 70 (v.enc.map .val))] m h}),(6,{A:=bR,st:=λt=>bU 56 58 [(3,.at (.ptr 3 0)),(5,.at (.ptr 5 0))] [(3,.cells 70 (v.enc.map .val)),(5,.cells 74 (t.enc.map .val))] m h})] [] false
noncomputable def bLX(k v:Sl)(m:MH)(h:PH):Ctx:=dD [(71,Qk)] [(4,{A:=Nat,st:=λi=>bU 32 34 [(0,sv k),(12,sv v),(13,iv v.len),(14,iv i)] [] m h})] [] [] false
noncomputable def bLZ(sc:bJ)(p r:Sl):Ctx:=dD [(66,z7),(67,Xv),(68,tV),(70,S6),(69,Cv)]
 [(7,{A:=Nat×MH×PH,st:=λ⟨i,m,h⟩=>bU 76 78 [(2,.at (.ptr 2 0)),(3,.at (.ptr 3 0)),(28,sv p),(29,iv p.len),(30,iv i)] [(2,.cells 29 (sc.enc.map .val)),(3,.cells 34 [.val (.slice p.a p.len p.cap),.val (.slice r.a r.len r.cap)])] m h}),
  (13,{A:=Nat×MH×PH,st:=λ⟨i,m,h⟩=>bU 76 78 [(2,.at (.ptr 2 0)),(3,.at (.ptr 3 0)),(46,sv r),(47,iv r.len),(48,iv i)] [(2,.cells 29 (sc.enc.map .val)),(3,.cells 34 [.val (.slice p.a p.len p.cap),.val (.slice r.a r.len r.cap)])] m h})] [] [] false
abbrev NU(a:Nat)(b:bM):Prop:=eQ (oQ a (cG (iN b.kind) (iN b.table) (cG (fY b.columns) (iN b.query.op) (wT b.query::yK b.query (zO b.query) (fY b.query.on) (fZ (DC b.query) (fY b.query.args))))))
noncomputable abbrev Kr(a:Nat×bR×Int):bR:=a.2.1
attribute [push_cast] NU Kr
def Wd(sc:bJ)(v:bM)(m:MH)(h:PH)(K:dc):Prop:=
  JN (λI=>nK v.kind 1 (branch (v.kind !=2) (K aZ m h) (∃(x:Unit),aA (I x) gV (aA fW (aU sc) (cF (NU 70 v) m m h h)))) (∃(x:Unit),aA (I x) gV (aA fW (aU sc) (cF (NU 70 v) m m h h)))) (aY v.table 0 (K aZ m h) (branch (decide (v.table>=gY sc)) (K aZ m h) (∃(I:bR->Prop),bD (λb o=>aI (bF (mD sc) b o) (0<=v.table) (v.table<aG sc.tables) (∃(y:bR),aJ m h b (eM o v.table 5) (wB y)/\∃(x:bR),aA (I x) fW (aA bS (NU 70 v) (cF (oQ 74 (hU y)=oQ 74 (hU x)) m m h h))))/\∀(x:bR),I x->∃(I1:Nat×bR×Int->Prop)(e:Nat×bR×Int->Nat),(∃(c:Nat×bR×Int),aA (I1 c) bS (aA (bV (eE (x.key-1)) c.2.2) (aH v.columns) (aA (bI v.columns) (bE c.1) (aA (oQ 74 (hU x)=oQ 74
 (hU (Kr c))) (m=m) (dH h h)))))/\∀(c:Nat×bR×Int),I1 c->aY (↑c.1:Int) (aG v.columns) (bD (λb o=>aI (bF v.columns.a b o) (0<=(↑c.1:Int)) ((↑c.1:Int)<aG v.columns) (∃(y:Int),aJ m h b (bB o c.1 1) (bG y)/\branch (decide (y<=c.2.2)) (K aZ m h) (branch (decide (y>=AE (Kr c))) (K aZ m h) (∃(d:Nat×bR×Int),aA (I1 d) (e d<e c) (aA bS (bV y d.2.2) (aA (aH v.columns) (bI v.columns) (aA (fJ (aW c.1 1)=bY d.1) (oQ 74 (hU (Kr c))=oQ 74 (hU (Kr d))) (dP m m h h))))))))) (K fB m h))))
def Wc(v:bJ)(t:Int)(m:MH)(h:PH)(K:dc):Prop:=
  Am (cO (gL v) t) h (λs d=>CR v t d (λe f=>branch (!(i7 e f)) (K CE m d) (Ai v t (λb o y=>aJ m d b (eM o t 5+2) (bG y)/\aY y 0 (K CE m d) (Ai v t (λg j c=>aI (aJ m d g (eM j t 5+2) (bG c)) (0<=ite (aG s<c) (aG s) c) (uN (ite (aG s<c) (aG s) c) s) (K (CV.val (Value.slice s.a (ite (aG s<c) (aG s) c).toNat s.cap)) m d)))))))
def Wn(k v:Sl)(m:MH)(h:PH)(K:dc):Prop:=
  branch (aG v !=aG k) (K aZ m h) (nG (λI x=>aA (I x) (aH k) (aA (aH v) (bI v) (cF (bE x) m m h h))) (λI d x=>I x->aY (↑x:Int) (aG v) (bD (λb o=>aI (bF v.a b o) (0<=(↑x:Int)) ((↑x:Int)<aG v) (∃(y:VV),aJ m h b (bB o x 3) y.enc/\∃(e:VV),eW (oD y) (oD e)/\branch (!(mF e)) (K aZ m h) (bD (λf g=>aI (bF k.a f g) (0<=(↑x:Int)) ((↑x:Int)<aG k) (∃(j:Int),aJ m h f (bB g x 1) (bG j)/\oF (y.kind !=j) K m h (λc=>aA (I c) (d c<d x) (aA (aH k) (aH v) (aA (bI v) (fJ (aW x 1)=bY c) (aA (m=m) (h=h) True)))))))))) (K fB m h)))
noncomputable abbrev E9(a:bM)(b:cv):cv:=bH (cV a.kind) (cV a.table) (bH (eF a.columns) (cV a.query.op) b)
noncomputable abbrev E8(a:bM)(b:cv):cv:=bH (cV a.query.table) (cV a.query.where_.op) (bH (cV a.query.where_.cmp) (cV (Gj a.query).kind) (A9 (Gj a.query) (Gi (vQ a.query) b)))
noncomputable abbrev E7(a:bM):cv:=xP (vQ a.query) a.query a.query.on (zE a.query.limit (eF a.query.args))
attribute [push_cast] E9 E8 E7
def Wo(sc:bJ)(p r:Sl)(m:MH)(h:PH)(K:dc):Prop:=
  G7 sc h (λs=>Hw s K m h (iG (aG r) 16 K lG m h (iG (aG p) 8 K lG m h (E5 (λI x=>aA (I x) gV (aA (eP 3) (aH p) (aA (bI p) (bE x.1) (aA (aU sc) (eQ (oQ 34 (fZ (fY p) (fY r)))) (fM m x.2 h))))) (λI d x=>I x->aY (↑x.1:Int) (aG p) (bD (λb o=>aI (bF p.a b o) (0<=(↑x.1:Int)) ((↑x.1:Int)<aG p) (∃(y:Int),aJ (cA x) (bW x) b (bB o x.1 1) (bG y)/\nK y 3 (nK y 4 (branch (y !=5) (K (jA 160) (cA x) (bW x)) (∃(c:Nat×MH×PH),aA (I c) (d c<d x) (aA gV fW (aA (aH p) (bI p) (aA (fJ (aW x.1 1)=bY c.1) (aU sc) (aI (eQ (oQ 34 (fZ (fY p) (fY r)))) (iK (cA x) c) (fI (bW x) c.2) True)))))) (∃(c:Nat×MH×PH),aA (I c) (d c<d x) (aA gV fW (aA (aH p)
 (bI p) (aA (fJ (aW x.1 1)=bY c.1) (aU sc) (aI (eQ (oQ 34 (fZ (fY p) (fY r)))) (iK (cA x) c) (fI (bW x) c.2) True)))))) (∃(c:Nat×MH×PH),aA (I c) (d c<d x) (aA gV fW (aA (aH p) (bI p) (aA (fJ (aW x.1 1)=bY c.1) (aU sc) (aI (eQ (oQ 34 (fZ (fY p) (fY r)))) (iK (cA x) c) (fI (bW x) c.2) True)))))))) (E5 (λI1 c=>aA (I1 c) gV (aA (eP 3) (aH r) (aA (bI r) (bE c.1) (aA (aU sc) (eQ (oQ 34 (fZ (fY p) (fY r)))) (fM (cA x) c.2 (bW x)))))) (λI1 u c=>I1 c->aY (↑c.1:Int) (aG r) (bD (λb o=>aI (bF r.a b o) (0<=(↑c.1:Int)) ((↑c.1:Int)<aG r) (∃(y:bM),aJ (cA c) (bW c) b (bB o c.1 24) (E9 y (E8 y (E7 y)))/\∃(z:bJ)(v:bM)(g:j4)(A:lR),
 aA (eC (dX sc) (nS (E9 y (E8 y (E7 y))))=eC (dX z) (nS (E9 v (E8 v (E7 v))))) (dM (bW c) g z) (aA (Nx (bW c) A v) (dK g=0) (branch (!(rI g A)) (K (jA 160) (cA c) (bW c)) (EL sc p y.query (bW c) (λB C q G j=>branch ((eG B C q).2 !=0) (K (CV.val (cV (eG B C q).2)) (cA c) j) (zS (λD n t=>aI (cO (gL sc) y.table=cO (gL D) t) (dM j n D) (mQ n) (lE (λE e=>cR j e (Ints e E (jL n t)) (EJ G E e (λa H F=>(gO F↔a=H)->branch (!F) (K (jA 160) (cA c) e) (∃(f:Nat×MH×PH),aA (I1 f) (u f<u c) (aA gV fW (aA (aH r) (bI r) (aA (fJ (aW c.1 1)=bY f.1) (aU sc) (aI (eQ (oQ 34 (fZ (fY p) (fY r)))) (iK (cA c) f) (fI
 e f.2) True)))))))))))))))))) (K (jA 0) (cA c) (bW c)))))))))
theorem U4(h:dK s=0):K8 s:=Classical.byContradiction λd=>by
 by_cases c:DN s
 .rw[It c d]at h;cases h
 .rw[wM c]at h;cases h
theorem Vl{rs:List lR}(c:dK s=0)(d:¬(16<rs.length\/8<ps.length))(e:ps.all cX=true):zL s ps rs=lM (rs.map (jC s ps)):=by
 simp only[zL,c,ne_eq,not_true_eq_false,if_false,if_neg d,e,Bool.true_eq_false]
theorem T1{e:Int}(c:∀x∈l.take i,x=0)(d:l[i]? =some e)(f:e≠0):lM l=e:=by
 rw[<-take_append_drop i l,wH _ _ c,drop_cons d];simp[lM,f]
theorem aHX:cu 67 Xv:=by
 refine iB func67 ?_;rintro O m h K ⟨sc,v,s,r,rfl,H,P,I,y⟩;refine⟨bJQ sc v m h,rfl,aF,Wd sc v m h K,be,?_⟩;dsimp only[Wd,push_cast];have hl:=H.tables.slen;obtain⟨Q,R,A,_⟩:=P;have d:rI s r=false->K (cB false) m h:=λe=>bk
 refine⟨λ_=>r.kind=1\/r.kind=2,aB (λB=>aB (λC=>d ?_) (λC=>⟨(),Or.inr ?_,MT⟩)) (λB=>⟨(),Or.inl ?_,MT⟩),λ_ J=>?_⟩
 .simp only[bne_iff_ne,Q]at B C;simp[rI,B,C]
 .grind
 .grind
 have J:(r.kind==1||r.kind==2)=true:=bk
 refine aE (λS=>d ?_) (λS=>aE (λT=>d ?_) (λT=>?_))
 .simp only[rI,i7,decide_eq_false (show¬0<=r.table by omega),Bool.false_and,Bool.and_false]
 .simp only[rI,i7,decide_eq_false (show¬r.table<s.tables.length by omega),Bool.false_and,Bool.and_false]
 obtain⟨x,b,o,w,D,U,rd,L⟩:=H.table (t:=r.table) aC aC;have V:=bC.slen L.columns;have x8:=BX I x (bx D);have W:=(U4 I).2.2.1 _ x D;have g:=L.key
 have j:rI s r=lS x.columns.length (x.key-1) r.cols:=by
  simp only[rI,i7,J,decide_eq_true (show 0<=r.table by omega),decide_eq_true (show r.table<s.tables.length by omega),D,Bool.true_and]
 rw[j]at y d;refine⟨λz=>w=z,⟨b,o,by rw[U],aC,aC,w,.imm (by rw[R];exact rd),w,rfl,MT⟩,?_⟩;rintro _ rfl;have E:=A.slen;refine⟨λz=>z.1<=r.cols.length/\w=z.2.1/\lS x.columns.length (x.key-1) r.cols=lS x.columns.length z.2.2 (r.cols.drop z.1),λz=>r.cols.length-z.1,⟨(0,w,IntKind.i64.wrap (w.key-1)),⟨bf,rfl,?_⟩,MT⟩,?_⟩
 .obtain⟨_,y1,y2,_⟩:=W;rw[g,drop_zero,show IntKind.i64.wrap (x.key-1)=x.key-1 from dO aC aC]
 rintro⟨i,_,l⟩ ⟨X,rfl,f⟩;dsimp only at X f⊢
 have M:=A.len;refine aE (λn=>?_) (λY=>?_)
 .obtain⟨c,u⟩:=eO E n;obtain⟨Z,o1,F,G⟩:=A.at' u;rw[drop_cons u]at f;refine⟨Z,o1,F,aC,n,c,.imm G,aE (λc1=>d ?_) (λc1=>aE (λc2=>d ?_) (λc2=>⟨(i+1,_,c),⟨aC,rfl,?_⟩,aC,MT⟩))⟩
  .rw[f];simp[lS,show¬l<c by omega]
  .rw[f];simp[lS,show¬c<x.columns.length by omega]
  .rw[f];simp[lS,show l<c by omega,show c<x.columns.length by omega]
 .have:i=r.cols.length:=by omega
  subst this;rw[f,drop_length]at y;exact y
theorem aHQ:cu 70 S6:=by
 refine iB func70 ?_;rintro C m h K ⟨v,s,t,rfl,n,D,y⟩;refine⟨dD [(109,tW),(113,aUZ)] [] [] [] false,rfl,aD IM (aD Cp aF),Wc v t m h K,be,?_⟩;dsimp only[Wc,push_cast];have H:=n.tables.slen;refine⟨v,s,t,rfl,n,D,λd u c j=>⟨v,s,t,rfl,n.mono c,?_⟩⟩;have f:jL s t=[]->K (.val (.slice none 0 0)) m u:=λe=>y ⟨none,0,0⟩ u c (by rw[e];exact⟨.nil _ _,bf⟩);refine aB (λg=>f ?_) (λg=>?_)
 .simp only[Bool.not_eq_true']at g;simp[jL,g]
 simp only[Bool.not_eq_false']at g;have E:=g;simp only[i7,cg,cm]at E;obtain⟨x,b,o,w,z,A,rd,F⟩:=(n.mono c).table (t:=t) aC aC;have B:=F.key;refine⟨b,o,A,aC,aC,w.key,.imm (bA.part rd 2 1),aE (λG=>f ?_) (λG=>⟨b,o,A,aC,aC,w.key,.imm (bA.part rd 2 1),?_,?_,?_⟩)⟩
 .simp only[jL,g,if_true,z];grind
 .omega
 .have:=j.row.cap;omega
 .have e:jL s t=(dT s t).take (if(d.len:Int)<w.key then(d.len:Int)else w.key).toNat:=by
   simp only[jL,g,if_true,z];rw[if_pos aC];congr 1;have:=j.slen;omega
  have I:(if(d.len:Int)<w.key then(d.len:Int)else w.key).toNat<=(dT s t).length:=by
   have:=j.slen;omega
  exact y ⟨d.a,(if(d.len:Int)<w.key then(d.len:Int)else w.key).toNat,d.cap⟩ u c (by rw[e];exact⟨by rw[map_take];exact bX.cut j.row _ bk,by rw[length_take];have:=j.len;omega⟩)
theorem aJQ:cu 39 apQ:=by
 refine iB func39 ?_;rintro G m h K ⟨k,v,ks,c,rfl,D,n,E⟩;refine⟨bLX k v m h,rfl,aD HI aF,Wn k v m h K,be,?_⟩;dsimp only[Wn,push_cast];have t:=D.slen;have z:=bC.slen n;have H:=n.len;have A:nW ks c=false->K (cB false) m h:=λe=>bk
 refine aB (λd=>A ?_) (λd=>?_)
 .simp only[bne_iff_ne]at d;simp[nW,show c.length≠ks.length by omega]
 simp only[bne_eq_false_iff_eq]at d;have d:c.length=ks.length:=by omega
 have f:∀i<c.length,¬(mF (c.getD i zeroV)=true/\(c.getD i zeroV).kind=ks.getD i 0)->nW ks c=false:=λi I U=>by
  simp only[nW,Bool.and_eq_false_iff]
  grind
 refine⟨λi=>i<=c.length/\∀j<i,mF (c.getD j zeroV)=true/\(c.getD j zeroV).kind=ks.getD j 0,λi=>c.length-i,⟨0,⟨aC,λj J=>by omega⟩,MT⟩,λi⟨I,F⟩=>aE (λg=>?_) (λL=>?_)⟩
 .obtain⟨x,M⟩:=eO z g;obtain⟨y,O⟩:=eO t (i:=i) aC;obtain⟨b,o,u,P,rd,rfl⟩:=bC.at n M;obtain⟨Q,R,B,C⟩:=D.at' O;have V:c.getD i zeroV=x:=bk
  have W:ks.getD i 0=y:=bk
  refine⟨b,o,P,aC,g,x,.imm rd,x,rfl,aB (λS=>A (f i aC λe=>?_)) (λS=>⟨Q,R,B,aC,aC,y,.imm C,aB (λT=>A (f i aC λe=>?_)) (λT=>⟨i+1,⟨aC,λj J=>?_⟩,bk,MT⟩)⟩)⟩
  .grind
  .grind
  grind
 .have e:nW ks c=true:=by
   simp only[nW,decide_eq_true d,Bool.true_and,all_eq_true]
   grind
  rw[e]at E;exact E
theorem aJX:cu 38 SY:=by
 refine iB func38 ?_;rintro a' m h K ⟨sc,p,r,s,ps,rs,rfl,M,F,B⟩;refine⟨bLZ sc p r,rfl,aD HK (aD aHX (aD Ry (aD aHQ (aD HJ aF)))),Wo sc p r m h K,be,?_⟩;dsimp only[Wo,push_cast];obtain⟨F,Y⟩:=F;have O:=F.slen;have P:=Y.slen;refine⟨sc,s,rfl,M,aB (λt=>?_) (λt=>?_)⟩
 .have t:dK s≠0:=bk
  have:=B h (.refl _);simp only[zL,if_pos t]at this;exact this
 have t:dK s=0:=bk
 have G:16<rs.length\/8<ps.length->K (cI 2) m h:=λe=>by
  have:=B h (.refl _);simp only[zL,t,ne_eq,not_true_eq_false,if_false,if_pos e]at this;exact this
 refine aE (λa1=>G aC) (λa1=>aE (λa2=>G aC) (λa2=>?_));have Z:¬(16<rs.length\/8<ps.length):=by omega
 have H:ps.all cX=false->K (cI 160) m h:=λe=>by
  have:=B h (.refl _);simp only[zL,t,ne_eq,not_true_eq_false,if_false,if_neg Z,e,if_true]at this;exact this
 refine⟨λz=>z.1<=ps.length/\(∀x∈ps.take z.1,cX x=true)/\z.2=(m,h),λz=>ps.length-z.1,⟨(0,m,h),⟨bf,bf,rfl⟩,MT⟩,?_⟩;rintro⟨i,_,_⟩ ⟨Q,c,e⟩;cases e;dsimp only at Q c⊢
 refine aE (λj=>?_) (λR=>?_)
 .obtain⟨x,E⟩:=eO O j;obtain⟨b,o,S,rd⟩:=F.at' E
  have step:cX x=true->∀y∈ps.take (i+1),cX y=true:=λhc y hy=>by
   rw[cj,E,mem_append]at hy
   grind
  have T:cX x=true->(i+1<=ps.length/\(∀y∈ps.take (i+1),cX y=true)/\(m,h)=(m,h)):=λhc=>⟨aC,step hc,rfl⟩
  refine⟨b,o,S,aC,j,x,.imm rd,aB (λf=>aB (λg=>aB (λC=>H ?_) (λC=>⟨(i+1,m,h),T ?_,aC,MT⟩)) (λg=>⟨(i+1,m,h),T ?_,aC,MT⟩)) (λf=>⟨(i+1,m,h),T ?_,aC,MT⟩)⟩
  .simp only[bne_iff_ne]at f g C;exact all_eq_false.2 ⟨x,bx E,by simp[cX,f,g,C]⟩
  .simp only[bne_eq_false_iff_eq]at C;simp[cX,C]
  .simp only[bne_eq_false_iff_eq]at g;simp[cX,g]
  .simp only[bne_eq_false_iff_eq]at f;simp[cX,f]
 have U:ps.all cX=true:=all_eq_true.2 λx E=>c x bk;rw[Vl t Z U]at B;refine⟨λz=>z.1<=rs.length/\(∀x∈(rs.map (jC s ps)).take z.1,x=0)/\m=z.2.1/\PH.le h z.2.2,λz=>rs.length-z.1,⟨(0,m,h),⟨bf,bf,rfl,.refl _⟩,MT⟩,?_⟩;rintro⟨i,_,V⟩ ⟨Q,c,rfl,d⟩;dsimp only at Q c d⊢
 refine aE (λj=>?_) (λR=>?_)
 .obtain⟨x,E⟩:=eO P j;obtain⟨b,o,u,S,rd,I⟩:=Y.at E;have I:=I.mono d;have J:(rs.map (jC s ps))[i]? =some (jC s ps x):=bk
  have n:∀e h',PH.le V h'->jC s ps x=e->e≠0->K (cI e) m h':=λe h' le he hn=>by
   have:=B h' (d.trans le)
   rwa [T1 c J aC,he]at this
  refine⟨b,o,S,aC,j,u,.imm (rd.mono d),sc,u,s,x,rfl,M.mono d,I,t,aB (λf=>n 160 V (.refl _) ?_ bg) (λf=>⟨sc,p,u.query,s,ps,x.query,rfl,M.mono d,F.mono d,I.query_,λsl h2 A W=>aB (λg=>n _ h2 A ?_ bk) (λg=>⟨sc,s,u.table,rfl,(M.mono d).mono A,BX t,λX h3 D L=>⟨sl,X,_,_,rfl,W.mono D,L,λq hq=>aB (λC=>n 160 h3 (A.trans D) ?_ bg) (λC=>⟨(i+1,m,h3),⟨aC,?_,rfl,d.trans (A.trans D)⟩,aC,MT⟩)⟩⟩)⟩)⟩
  .simp only[Bool.not_eq_true']at f;simp only[jC,if_pos f]
  all_goals simp only[Bool.not_eq_false']at f
  .have g:(eG s ps x.query).2≠0:=bk
   simp only[jC,f,Bool.true_eq_false,if_false,if_pos g]
  all_goals have g:(eG s ps x.query).2=0:=br g
  all_goals rw[I.table_]at hq
  .have:¬(eG s ps x.query).1=jL s x.table:=λe=>bk
   simp only[jC,f,g,Bool.true_eq_false,if_false,ne_eq,not_true_eq_false,if_neg this]
  .have:(eG s ps x.query).1=jL s x.table:=hq.1 bk;exact Lg J c (by simp only[jC,f,g,Bool.true_eq_false,if_false,ne_eq,not_true_eq_false,if_pos this])
 .rw[vU _ (by rwa [ca bk]at c)]at B;exact B V d
noncomputable def rM(s:j4)(st:List cw)(q:Query):cw×Int:=
 if(eG s [] q).2≠0 then([],(eG s [] q).2)else if xE s st≠0 then([],xE s st)else(OD st q,0)
def Qz(st:List cw)(q:Query):Prop:=∃c,1<=c/\(∀l∈st,l.length<=c)/\rW c q<=8000000
structure tS(h:PH)(sl:Sl)(st:List cw):Prop where
 lea:Leaves h sl st
 len:st.length<=1000
 val:StV st
theorem tS.mono{sl:Sl}{st:List cw}(x:tS h sl st)(le:PH.le h h'):tS h' sl st:=⟨bC.mono x.lea le λl s c=>bC.mono c le λr t d=>bO.mono d le,x.len,x.val⟩
def b0Q:Vc.Spec:=λd m h K=>∃v s e c w q,d=[aS v,QO e,aQ w]/\dM h s v/\tS h e c/\dR h q w/\iL m/\((eG s [] q).2=0->xE s c=0->Qz c q)/\∀f h',PH.le h h'->Rows h' f (rM s c q).1->K (.tup [cS f,cI (rM s c q).2]) m h'
def apJ:Vc.Spec:=λc m h K=>∃n,c=[cI n]/\K (aV ⟨4,n,⟨#[]⟩⟩) m h
noncomputable def bKZ(w:QV)(sl:Sl):Ctx:=dD [(68,tV),(72,Nn),(81,bpJ),(82,anJ)] [(10,{A:=Nat×dk×Sl×MH×PH,st:=λ⟨i,c,s,m,h⟩=>bU 54 57 [(4,.at (.ptr 4 0)),(5,.at (.ptr 5 0)),(12,.at (.lst 34)),(35,sv s),(36,iv s.len),(37,iv i)] [(4,.cells 38 [.val (.slice sl.a sl.len sl.cap)]),(5,.cells 68 (w.enc.map .val)),(34,.lst 95 1 (c.map eS))] m h})] [] [] false
abbrev mU(a:Sl):Prop:=eQ (oQ 38 (qB a))
attribute [push_cast] mU
def Wl(v:bJ)(sl:Sl)(w:QV)(m:MH)(h:PH)(K:dc):Prop:=
  DG (λs p=>∃(D:QV),DT (λn t=>∃(q:Query),aA (cE (dX v) (qS CE (eH w))=cE (dX s) (fP p (eH D))) (dM h n s) (aA (Ints h p t) (dR h q D) (lE (λM c=>cR h c (Ints c M (eG n t q).1) (branch ((eG n t q).2 !=0) (K (CV.tup (qS CE (CV.val (cV (eG n t q).2)))) m c) (Bi (λE z=>Ch (λF u=>aA (cE (dX v) (fT 3 (pR sl))=cE (dX E) (fT 3 (pR F))) (dM c z E) (aA (Leaves c F u) (jV u.length) (branch (xE z u !=0) (K (sH (xE z u)) m c) (sG (λG A=>aI (eW (eH w) (eH G)) (dR c A G) (BT A<=900000) (lE (λf B=>cR c B (Ints B f (lV A)) (J8 f 24 (NW (λI x=>aA (I x) iC (aA (eP 5) (eL 34) (aA (aX f (fK x)) (cD f (fK x)) (aA
 (bE x.1) (mU sl) (nO (fE w) (Option.some (Own.lst 95 1 (replicate (wC f) iT))=Option.some (Own.lst 95 1 (lY x))) (j8 m (tL x)) (fI B (tL x).2)))))) (λI H x=>I x->aY (↑x.1:Int) (aG (fK x)) (bD (λb o=>aI (bF (fK x).a b o) (0<=(↑x.1:Int)) ((↑x.1:Int)<aG (fK x)) (∃(y:Int),aJ (qZ x) (oP x) b (bB o x.1 1) (bG y)/\dN sl.a y sl (λO P J=>aI (aJ (qZ x) (oP x) O (eM P y 1) (aM J)) (0<=(↑x.1:Int)) ((↑x.1:Int)<oE (lY x)) (∃(e:cv),O5 (pW (lY x) (nL x.1) e) (0<e.length) (λd=>aA (I d) (H d<H x) (aA iC bS (aA (eL 34) (aX (fK x) (fK d)) (aA (cD (fK x) (fK d)) (fJ (aW x.1 1)=bY d.1) (aA (mU sl) (fE w) (aA (Option.some
 (Own.lst 95 1 (List.set (lY x) (nL x.1) (eF J::List.drop 1 e)))=Option.some (Own.lst 95 1 (lY d))) (j8 (qZ x) (tL d)) (eA (oP x) (tL d).2)))))))))))) (bQ (oP x) 1 (lY x) (λQ C=>∃(l:Sl)(L:QV)(g:List cw)(j:Query),aA (fP Q (eH w)=fP l (eH L)) (Leaves C l g) (aA (dR C j L) (okQ g j 0) (aI (iL (qZ x)) ((lT g j 0).1.length<=8000000) (Al (lT g j 0).1 (λr=>jT r)) (mV C (lT g j 0).1 (λR S=>rE K R (qZ x) S))))))))))))))))))))))))
mutual
theorem Q4:∀q:Query,(lV q).length<=BT q
 |.mk op ta _ _ _ _ _ _ args=>by
  have:=OE args;rw[lV,BT,bz]
  grind
theorem OE:∀c:dl,(jY c).length<=yW c
 |[]=>by simp[jY,yW]
 |q::c=>by
  have:=Q4 q;have:=OE c;rw[jY,yW,bz];omega
end
theorem aIX:cu 42 b0Q:=by
 refine iB func42 ?_;rintro a8 m h K ⟨v,s,Q,C,w,q,rfl,hs,g,R,hT,hb,n⟩;refine⟨bKZ w Q,rfl,aD Ry (aD aGJ (aD aDZ (aD aDX aF))),Wl v Q w m h K,be,?_⟩;dsimp only[Wl,push_cast];unfold rM at n;refine⟨v,bT,w,s,[],q,rfl,hs,qD h,R,λa9 h1 d _=>aB (λe=>?_) (λe=>?_)⟩
 .rw[if_pos (br e)]at n;exact n ⟨none,0,0⟩ h1 d (bC.nil _ _ _ _)
 have e:(eG s [] q).2=0:=br e
 rw[if_neg (by simp[e])]at n;refine⟨v,s,Q,C,rfl,hs.mono d,(g.mono d).lea,g.len,aB (λH=>?_) (λH=>?_)⟩
 .rw[if_pos bk]at n;exact n ⟨none,0,0⟩ h1 d (bC.nil _ _ _ _)
 have H:xE s C=0:=bk
 rw[if_neg (by simp[H])]at n;dsimp only at n;obtain⟨c,c1,c2,c3⟩:=hb e H;obtain⟨_,_,S,T⟩:=Vj e;have J:cJ s [] q=((cJ s [] q).1,0):=Prod.ext rfl T;obtain⟨ok,ev,U,len⟩:=aXX H g.val c2 c1 J c3;have a5:=awQ S;have V:=Q4 q;have L:=OF J;have b':=(UX H).2.1;refine⟨w,q,rfl,R.mono d,aC,λW X D Y=>?_⟩;have M:=Y.slen;have A:=g.mono (d.trans D);have a6:=bC.slen A.lea;generalize E:lV q=f at Y M V L;refine⟨aC,aC,aC,aC,λz=>z.1<=f.length/\z.2.2.1=W/\z.2.2.2.1=m/\z.2.2.2.2=X/\∃I,z.2.1=I++replicate (f.length-z.1) ⟨none,0,0⟩/\I.length=z.1/\∀(j:Nat) u t,I[j]? =some u->f[j]? =some t->Rows X u (C.getD t.toNat []),λz=>f.length-z.1,⟨(0,replicate f.length ⟨none,0,0⟩,W,m,X),⟨bf,rfl,rfl,rfl,[],bf,rfl,λj u t h=>by simp at h⟩,?_⟩,?_⟩
 .rw[show((W.len:Int)).toNat=f.length by omega];dsimp only;rw[map_replicate];exact MT
 rintro⟨i,l,s2,m2,h3⟩ ⟨Z,e3,e4,e5,I,O,F,B⟩;dsimp only at Z e3 e4 e5 O F B⊢
 subst e3 e4 e5;refine aE (λa'=>?_) (λb0=>?_)
 .obtain⟨t,G⟩:=eO M a';obtain⟨b,o,ea,rd⟩:=Y.at' G;have ht:=L t (bx G);have b1:t.toNat<C.length:=by omega
  have e6:C[t.toNat]? =some (C.getD t.toNat []):=bk
  obtain⟨b2,o2,u,a0,a1,P⟩:=bC.at A.lea e6;have b3:l.length=f.length:=bk
  have a2:l[i]? =some ⟨none,0,0⟩:=by
   grind
  refine⟨b,o,ea,aC,aC,t,.imm rd,b2,o2,a0,ht.1,aC,u,.imm a1,aC,bk,[tE],by rw[getElem?_map,show((i:Int)).toNat=i from rfl,a2];rfl,bf,(i+1,l.set i u,s2,m2,h3),⟨aC,rfl,rfl,rfl,I++[u],?_,by simp[F],λj u' t' h7 h8=>?_⟩,aC,?_⟩
  .dsimp only;rw[O,set_append,if_neg aC,append_assoc];congr 1;rw[show f.length-i=(f.length-(i+1))+1 by omega,replicate_succ,show i-I.length=0 by omega];rfl
  .grind
  .dsimp only
   have e9:((l.map eS).set ((i:Int)).toNat (eF u::List.drop 1 [tE]))=(l.set i u).map eS:=by
    rw[map_set];rfl
   rw[e9,jG aC];exact MT
 .have:i=f.length:=by omega
  subst this;rw[Nat.sub_self,replicate_zero,append_nil]at O;subst O;intro s3 h4 y a3;refine⟨s3,w,yR C q,q,rfl,⟨⟨l,a3,by rw[yR,length_map,E,F],λi x G=>?_⟩,by rw[yR,length_map,E];omega⟩,R.mono ((d.trans D).trans y),ok,hT,bk,λr P=>?_,λs5 h5 a4 P=>n s5 h5 (((d.trans D).trans y).trans a4) bk⟩
  .rw[yR,E,getElem?_map]at G;cases e7:f[i]? with
   |none=>grind
   |some t=>
    rw[e7]at G;simp only[Option.map_some,ce]at G;subst G;have a7:=(bt e7);exact⟨l[i],bu aC,bC.mono (B i _ t (bu aC) e7) y λr t hv=>bO.mono hv y⟩
  .rw[ev]at P;have:=(U.row r P).len;omega
def sM(cs:List tD)(t:Int):Bool:=cs.any λc=>c.tab==t
noncomputable def pI(s:j4)(ps:de)(st st2:List cw)(cs:List tD)(rs:List lR)(t:Int):fb:=
 (rs.filter λr=>r.kind==2&&sM cs r.table&&r.table==t).map λr=>⟨r.cols,(rM s st (gP ps r.query)).1,(rM s st2 (gP ps r.query)).1⟩
def vH(s:j4)(wr:Int->fb):List tD->Nat->fe
 |[],_=>[]
 |c::cs,i=>P4 s (wr c.tab) i c++vH s wr cs (i+1)
structure tX(s:j4)(pk:dd)(rs:List lR)(ps:de)(st st2:List cw)(cs:List tD):Prop where
 pol:zL s pk rs=0
 par:nW pk ps=true
 app:yZ 1 s st cs=(st2,0)
 q1:∀r∈rs,r.kind=2->(rM s st (gP ps r.query)).2=0/\nA (rM s st (gP ps r.query)).1/\(rM s st (gP ps r.query)).1.length<=8000000/\Qz st (gP ps r.query)
 q2:∀r∈rs,r.kind=2->(rM s st2 (gP ps r.query)).2=0/\nA (rM s st2 (gP ps r.query)).1/\(rM s st2 (gP ps r.query)).1.length<=8000000/\Qz st2 (gP ps r.query)
 v2:StV st2
 n2:st2.length<=1000
 wid:∀c∈cs,c.old.length<=1000/\c.new.length<=1000/\(c.old≠[]->c.new≠[]->c.old.length=c.new.length)
 few:cs.length<=400/\rs.length<=1000
def tU(h:PH)(s:Sl)(ds:fe):Prop:=bC h 5 zC.enc (Z2 h) s ds
def Lc:Vc.Spec:=λd m h K=>∃sc p r pv f g s j rs ps e c cs,d=[aS sc,bnJ p r,cS pv,QO f,cS g]/\dM h s sc/\iH h p r j rs/\bO h pv ps/\tS h f e/\pH h g cs/\iL m/\tX s j rs ps e c cs/\
 ∀x h',PH.le h h'->tU h' x (vH s (pI s ps e c cs rs) cs 0)->K (.tup [cS x,cI 0]) m h'
def ccJ(y:Nat):SV:=vv (.map (some y))
noncomputable def bPJ(sc:bJ)(p r vs sl c:Sl):Ctx:=rT [(38,SY),(39,apQ),(40,bxQ),(41,bwZ),(42,b0Q),(43,atX)]
 [(11,{A:=Nat×Sl×Nat×MH×PH,st:=λ⟨i,w,y,m,h⟩=>bU 132 137 [(2,sv vs),(4,sv c),(5,.at (.ptr 5 0)),(6,.at (.ptr 6 0)),(8,.at (.ptr 8 0)),(13,.at (.ptr 13 0)),(15,ccJ y),(47,sv c),(48,iv c.len),(49,iv i)] [(5,.cells 29 (sc.enc.map .val)),(6,.cells 34 [.val (.slice p.a p.len p.cap),.val (.slice r.a r.len r.cap)]),(8,.cells 38 [.val (.slice sl.a sl.len sl.cap)]),(13,.cells 38 [.val (.slice w.a w.len w.cap)])] m h}),
  (17,{A:=Nat×Sl×Nat×Nat×MH×PH,st:=λ⟨i,w,y,b,m,h⟩=>bU 132 137 [(2,sv vs),(4,sv c),(5,.at (.ptr 5 0)),(8,.at (.ptr 8 0)),(13,.at (.ptr 13 0)),(15,ccJ y),(18,pv b),(61,sv r),(62,iv r.len),(63,iv i)] [(5,.cells 29 (sc.enc.map .val)),(8,.cells 38 [.val (.slice sl.a sl.len sl.cap)]),(13,.cells 38 [.val (.slice w.a w.len w.cap)])] m h}),
  (31,{A:=Nat×Nat×MH×PH,frz:=true,st:=λ⟨i,b,m,h⟩=>bU 132 137 [(18,pv b),(119,sv c),(120,iv c.len),(121,iv i)] [] m h})]
 [(20,{A:=Nat×Sl×Nat×Nat×bM×MH×PH,st:=λ⟨i,w,y,b,u,m,h⟩=>bU 132 137 [(2,sv vs),(4,sv c),(5,.at (.ptr 5 0)),(8,.at (.ptr 8 0)),(13,.at (.ptr 13 0)),(15,ccJ y),(18,pv b),(20,.at (.ptr 20 0)),(61,sv r),(62,iv r.len),(63,iv i)] [(5,.cells 29 (sc.enc.map .val)),(8,.cells 38 [.val (.slice sl.a sl.len sl.cap)]),(13,.cells 38 [.val (.slice w.a w.len w.cap)]),(20,.cells 70 (u.enc.map .val))] m h})] [] [200018,1117,400000,0] [] false
noncomputable def bNZ:Ctx:=dD [(16,Lc)] [] [] [] false
def bxX:Vc.Spec:=λd m h K=>∃sc p r pv f g s j rs ps e c cs,d=[aS sc,bnJ p r,cS pv,QO f,cS g]/\dM h s sc/\iH h p r j rs/\bO h pv ps/\tS h f e/\pH h g cs/\iL m/\tX s j rs ps e c cs/\
 ∀h',PH.le h h'->K (cI (if(vH s (pI s ps e c cs rs) cs 0).length=0 then 0 else 170)) m h'
abbrev vC(a:j4->dd->(List lR)->Prop):Prop:=DT (λx c=>∃(d:List lR),a x c d)
noncomputable abbrev fF(a:Nat×Sl×Nat×Nat×MH×PH):Nat×MH×PH:=sI a.2
abbrev uK(a:Nat)(b:Nat×Sl×Nat×Nat×MH×PH):Prop:=eU a (fF b).1
noncomputable abbrev Aw(a:Nat×Sl×Nat×Nat×bM×MH×PH):Nat:=a.2.2.1
noncomputable abbrev iJ(a:Nat×Sl×Nat×Nat×bM×MH×PH):Nat:=a.2.2.2.1
abbrev EK(a b:dt):Prop:=oQ 70 a=oQ 70 b
noncomputable abbrev xO(a:Nat×Sl×Nat×Nat×bM×MH×PH):bM:=a.2.2.2.2.1
noncomputable abbrev iZ(a:Nat×Sl×Nat×Nat×bM×MH×PH):Nat->Option Obj:=a.2.2.2.2.2.1
noncomputable abbrev l9(a:Nat×Sl×Nat×Nat×bM×MH×PH):Value:=cV (xO a).table
noncomputable abbrev J9(a:Nat×Sl×Nat×Nat×bM×MH×PH)(b c:Sl):cv:=bH (eF (xO a).columns) (eF b) (aM c)
abbrev Bt(a:MH)(b:Nat)(c:dh)(d:MH->(Nat×Sl×Nat×Nat×MH×PH)->Prop):Prop:=∀(x:MH),aR (iV a x b) (mO x b c) (∃(e:Nat×Sl×Nat×Nat×MH×PH),d x e)
abbrev BI(a:Nat×Sl×Nat×Nat×bM×MH×PH)(b:Nat×Sl×Nat×Nat×MH×PH):Prop:=gG a.2.1 b.2.1
attribute [push_cast] vC fF uK Aw iJ EK xO iZ l9 J9 Bt BI
def PJ(sc:bJ)(p r vs sl t:Sl)(m:MH)(h:PH)(K:dc):Prop:=
  ∃(s:bJ),jE (λp1 r1=>vC (λs1 p2 r2=>aI (eC (dX sc) (nS (xR p r))=eC (dX s) (nS (xR p1 r1))) (dM h s1 s) (iH h p1 r1 p2 r2) (∀(L:PH),PH.le h L->branch (zL s1 p2 r2 !=0) (K (sH (zL s1 p2 r2)) m L) (jE (λk v=>∃(k1:dd)(v1:de),aI (gK p vs=gK k v) (Ints L k k1) (bO L v v1) (branch (!(nW k1 v1)) (K (sH 1) m L) (∃(s2:bJ)(R:Int),jE (λs3 c=>∃(s4:j4)(s5:List cw)(c1:List tD),aA (cE (dX sc) (nH 1 (eC (aM sl) (mL t)))=cE (dX s2) (nH R (eC (aM s3) (mL c)))) (dM L s4 s2) (aA (Leaves L s3 s5) (pH L c c1) (aI (1<=R) (R<=3) (jV s5.length) (lE (λw h2=>cR L h2 (Leaves h2 w (yZ R s4 s5 c1).1) (branch ((yZ R s4 s5 c1).2 !=0) (K (CV.tup (qS CE
 (CV.val (cV (yZ R s4 s5 c1).2)))) m h2) (Ah m h2 (λb m2=>∃(I:Nat×Sl×Nat×MH×PH->Prop)(m3:Nat×Sl×Nat×MH×PH->Nat),(∃(x:Nat×Sl×Nat×MH×PH),aA (I x) (aH vs) (aA (aH t) bS (aA jH dC (aA j6 (lJ b (oL x)) (aA (aH t) (bI t) (aA (bE x.1) (aU sc) (aA (eQ (oQ 34 (fZ (fY p) (fY r)))) (mU sl) (aA (gG w x.2.1) (iK m2 (j9 x)) (eA h2 (j9 x).2)))))))))/\∀(x:Nat×Sl×Nat×MH×PH),I x->aY (↑x.1:Int) (aG t) (bD (λb1 o=>aI (bF t.a b1 o) (0<=(↑x.1:Int)) ((↑x.1:Int)<aG t) (∃(y:fO),aJ (cA (j9 x)) (bW (j9 x)) b1 (bB o x.1 3) (jQ y)/\pL (cA (j9 x)) (oL x) (λO=>jU 3 O) (λO=>O (Dc y)) (Dc y) (λF=>∀(M:MH),aR (iV (cA (j9 x)) M
 (oL x)) (mO M (oL x) (fA F (Dc y) xN [])) (∃(g:Nat×Sl×Nat×MH×PH),aA (I g) (m3 g<m3 x) (aA (aH vs) (aH t) (aA bS jH (aA dC j6 (aA (lJ (oL x) (oL g)) (aH t) (aA (bI t) (fJ (aW x.1 1)=bY g.1) (aA (aU sc) (eQ (oQ 34 (fZ (fY p) (fY r)))) (aA (mU sl) (gG x.2.1 g.2.1) (fM M (j9 g).2 (bW (j9 x)))))))))))) (λl P C=>fA l (Dc y) P C) (λl C=>∀(M:MH),aR (iV (cA (j9 x)) M (oL x)) (mO M (oL x) (fA l (Dc y) xN C)) (∃(g:Nat×Sl×Nat×MH×PH),aA (I g) (m3 g<m3 x) (aA (aH vs) (aH t) (aA bS jH (aA dC j6 (aA (lJ (oL x) (oL g)) (aH t) (aA (bI t) (fJ (aW x.1 1)=bY g.1) (aA (aU sc) (eQ (oQ 34 (fZ (fY p)
 (fY r)))) (aA (mU sl) (gG x.2.1 g.2.1) (fM M (j9 g).2 (bW (j9 x))))))))))))))) (Ah (cA (j9 x)) (bW (j9 x)) (λb1 M=>GR M (bW (j9 x)) (bH (cV 0) tE (bH Gf tE [])) 111 4 (λH=>bH (cV sc.version) (eF sc.tables) (bH (FI b1) tE (List.drop 4 H.toList))) (λb2 m5=>∃(I1:Nat×Sl×Nat×Nat×MH×PH->Prop)(B:Nat×Sl×Nat×Nat×MH×PH->Nat),(∃(g:Nat×Sl×Nat×Nat×MH×PH),aA (I1 g) (aH vs) (aA (aH t) bS (aA dC j6 (aA (lJ (oL x) (kJ g.2)) (uK b2 g) (aA (aH r) (bI r) (aA (bE g.1) (aU sc) (aA (mU sl) (gG x.2.1 g.2.1) (aA (iK m5 (fF g)) (fI (bW (j9 x)) (fF g).2) True))))))))/\∀(g:Nat×Sl×Nat×Nat×MH×PH),I1 g->aY (↑g.1:Int) (aG r) (bD (λb3
 o=>aI (bF r.a b3 o) (0<=(↑g.1:Int)) ((↑g.1:Int)<aG r) (∃(y:bM),aJ (cA (fF g)) (bW (fF g)) b3 (bB o g.1 24) (E9 y (E8 y (E7 y)))/\∃(I2:Nat×Sl×Nat×Nat×bM×MH×PH->Prop),nK y.kind 2 (∃(f:Nat×Sl×Nat×Nat×MH×PH),aA (I1 f) (B f<B g) (aA (aH vs) (aH t) (aA bS dC (aA j6 (lJ (kJ g.2) (kJ f.2)) (aA (uK (fF g).1 f) (aH r) (aA (bI r) (fJ (aW g.1 1)=bY f.1) (aA (aU sc) (mU sl) (aA (gG g.2.1 f.2.1) (iK (cA (fF g)) (fF f)) (eA (bW (fF g)) (fF f).2))))))))) (∃(F:List (Value×Bool))(O:Value->Prop),aA (tB (cA (fF g)) (kJ g.2) (List.map (fun(p3:Value×Bool)=>(p3.1,Value.bool p3.2)) F)) (jU 3 O) (aA (O (cV y.table)) (∀(e:Value
 ×Bool),List.Mem e F->O e.1) (((∀(e:Value×Bool),aR (List.Mem e F) (e.1=cV y.table) False)->∃(f:Nat×Sl×Nat×Nat×MH×PH),aA (I1 f) (B f<B g) (aA (aH vs) (aH t) (aA bS dC (aA j6 (lJ (kJ g.2) (kJ f.2)) (aA (uK (fF g).1 f) (aH r) (aA (bI r) (fJ (aW g.1 1)=bY f.1) (aA (aU sc) (mU sl) (aA (gG g.2.1 f.2.1) (iK (cA (fF g)) (fF f)) (eA (bW (fF g)) (fF f).2)))))))))/\∀(z:Bool),lA (List.Mem (cV y.table,z) F) (!z) (∃(f:Nat×Sl×Nat×Nat×MH×PH),aA (I1 f) (B f<B g) (aA (aH vs) (aH t) (aA bS dC (aA j6 (lJ (kJ g.2) (kJ f.2)) (aA (uK (fF g).1 f) (aH r) (aA (bI r) (fJ (aW g.1 1)=bY f.1) (aA (aU sc) (mU sl) (aA (gG g.2.1
 f.2.1) (iK (cA (fF g)) (fF f)) (eA (bW (fF g)) (fF f).2))))))))) (∃(f:Nat×Sl×Nat×Nat×bM×MH×PH),aA (I2 f) (aH vs) (aA (aH t) bS (aA dC j6 (aA (lJ (kJ g.2) (Aw f)) (eU (fF g).1 (iJ f)) (aA (eP 20) (aH r) (aA (bI r) (bP g.1 f.1) (aA (aU sc) (mU sl) (aA (gG g.2.1 f.2.1) (EK (cG (iN y.kind) (iN y.table) (cG (fY y.columns) (iN y.query.op) (wT y.query::yK y.query (zO y.query) (fY y.query.on) (fZ (DC y.query) (fY y.query.args))))) (cG (iN (xO f).kind) (iN (xO f).table) (cG (fY (xO f).columns) (iN (xO f).query.op) (wT (xO f).query::yK (xO f).query (zO (xO f).query) (fY (xO f).query.on) (fZ (DC (xO f).query) (fY (xO f).query.args))))))
 (fM (cA (fF g)) f.2.2.2.2.2 (bW (fF g))))))))))))))/\∀(f:Nat×Sl×Nat×Nat×bM×MH×PH),I2 f->∃(P:QV),A8 (λS q=>∃(p3:de),aI (kI (xO f).query vs=kI P S) (dR f.2.2.2.2.2.2 q P) (bO f.2.2.2.2.2.2 S p3) (∀(v3:QV)(J:PH),cR f.2.2.2.2.2.2 J (dR J (gP p3 q) v3) (Bi (λv4 T=>Ch (λs8 U=>sG (λV W=>aA (cE (dX sc) (eC (aM sl) (eH v3))=cE (dX v4) (eC (aM s8) (eH V))) (dM J T v4) (aA (tS J s8 U) (dR J W V) (aA (iL (iZ f)) (aR ((eG T [] W).2=0) (xE T U=0) (Qz U W)) (mV J (rM T U W).1 (λa h4=>branch ((rM T U W).2 !=0) (K (CV.tup (qS CE (CV.val (cV (rM T U W).2)))) (iZ f) h4) (Bi (λv5 X=>Ch (λa2 Y=>sG (λw2 Z=>aA
 (cE (dX sc) (eC (aM f.2.1) (eH v3))=cE (dX v5) (eC (aM a2) (eH w2))) (dM h4 X v5) (aA (tS h4 a2 Y) (dR h4 Z w2) (aA (iL (iZ f)) (aR ((eG X [] Z).2=0) (xE X Y=0) (Qz Y Z)) (mV h4 (rM X Y Z).1 (λa4 n=>branch ((rM X Y Z).2 !=0) (K (CV.tup (qS CE (CV.val (cV (rM X Y Z).2)))) (iZ f) n) (∃(z:Nat),aJ (iZ f) n (iJ f) 2 (bN z)/\∃(G:Nat),aA (aJ (iZ f) n (iJ f) 2 (bN G)) (aJ (iZ f) n (iJ f) 2 (bN z)/\v8 (iZ f) G (λO=>jU 3 O) (λO=>O (l9 f)) (l9 f) (Gh (aJ (iZ f) n (iJ f) 2 (bN z)) (aJ (iZ f) n (iJ f) 2 (bN G)) (aJ (iZ f) n (iJ f) 2 (bN z)) (aJ (iZ f) n (iJ f) 2 (bN G)) (λA=>aI (cT (iZ f)
 uD 114 3 A) (cW (iA A 1*72)) (fN A) (∀(E:Sl)(u:MH),dV (iZ f) u uD E 114 3 (eK A (J9 f a a4))->aA (aJ u n (iJ f) 2 (bN z)) (aJ u n (iJ f) 2 (bN G)) (pL u z (λO=>jU 3 O) (λO=>O (l9 f)) (l9 f) (λF=>Bt u z (fA F (l9 f) (eF E) []) (λD j=>aA (I1 j) (B j<B g) (aA (aH vs) (aH t) (aA bS dC (aA j6 (lJ (Aw f) (kJ j.2)) (aA (uK (iJ f) j) (aH r) (aA (bI r) (fJ (aW f.1 1)=bY j.1) (aA (aU sc) (mU sl) (aA (BI f j) (iK D (fF j)) (eA n (fF j).2)))))))))) (λl Q C=>fA l (l9 f) Q C) (λl C=>Bt u z (fA l (l9 f) (eF E) C) (λD j=>aA (I1 j) (B j<B g) (aA (aH vs) (aH t) (aA
 bS dC (aA j6 (lJ (Aw f) (kJ j.2)) (aA (uK (iJ f) j) (aH r) (aA (bI r) (fJ (aW f.1 1)=bY j.1) (aA (aU sc) (mU sl) (aA (BI f j) (iK D (fF j)) (eA n (fF j).2)))))))))))))) (λy3=>Gh (aJ (iZ f) n (iJ f) 2 (bN z)) (aJ (iZ f) n (iJ f) 2 (bN G)) (aJ (iZ f) n (iJ f) 2 (bN z)) (aJ (iZ f) n (iJ f) 2 (bN G)) (λA=>aI (cT (iZ f) (cH y3) 114 3 A) (cW (iA A 1*72)) (fN A) (∀(E:Sl)(u:MH),dV (iZ f) u (cH y3) E 114 3 (eK A (J9 f a a4))->aA (aJ u n (iJ f) 2 (bN z)) (aJ u n (iJ f) 2 (bN G)) (pL u z (λO=>jU 3 O) (λO=>O (l9 f)) (l9 f) (λF=>Bt u z (fA F (l9 f) (eF E) []) (λD
 j=>aA (I1 j) (B j<B g) (aA (aH vs) (aH t) (aA bS dC (aA j6 (lJ (Aw f) (kJ j.2)) (aA (uK (iJ f) j) (aH r) (aA (bI r) (fJ (aW f.1 1)=bY j.1) (aA (aU sc) (mU sl) (aA (BI f j) (iK D (fF j)) (eA n (fF j).2)))))))))) (λl Q C=>fA l (l9 f) Q C) (λl C=>Bt u z (fA l (l9 f) (eF E) C) (λD j=>aA (I1 j) (B j<B g) (aA (aH vs) (aH t) (aA bS dC (aA j6 (lJ (Aw f) (kJ j.2)) (aA (uK (iJ f) j) (aH r) (aA (bI r) (fJ (aW f.1 1)=bY j.1) (aA (aU sc) (mU sl) (aA (BI f j) (iK D (fF j)) (eA n (fF j).2))))))))))))))) (aA (aJ (iZ f) n (iJ f) 2 (bN z)) (aJ (iZ f) n (iJ f) 2 (bN G)) (aJ
 (iZ f) n (iJ f) 2 (bN z)/\v8 (iZ f) G (λO=>jU 3 O) (λO=>O (l9 f)) (l9 f) (vE (aJ (iZ f) n (iJ f) 2 (bN z)) (aJ (iZ f) n (iJ f) 2 (bN G)) (λA=>aI (cT (iZ f) uD 114 3 A) (cW (iA A 1*72)) (fN A) (∀(E:Sl)(u:MH),dV (iZ f) u uD E 114 3 (eK A (J9 f a a4))->aA (aJ u n (iJ f) 2 (bN z)) (aJ u n (iJ f) 2 (bN G)) (pL u z (λO=>jU 3 O) (λO=>O (l9 f)) (l9 f) (λF=>Bt u z (fA F (l9 f) (eF E) []) (λD j=>aA (I1 j) (B j<B g) (aA (aH vs) (aH t) (aA bS dC (aA j6 (lJ (Aw f) (kJ j.2)) (aA (uK (iJ f) j) (aH r) (aA (bI r) (fJ (aW f.1 1)=bY j.1) (aA (aU sc) (mU sl)
 (aA (BI f j) (iK D (fF j)) (eA n (fF j).2)))))))))) (λl Q C=>fA l (l9 f) Q C) (λl C=>Bt u z (fA l (l9 f) (eF E) C) (λD j=>aA (I1 j) (B j<B g) (aA (aH vs) (aH t) (aA bS dC (aA j6 (lJ (Aw f) (kJ j.2)) (aA (uK (iJ f) j) (aH r) (aA (bI r) (fJ (aW f.1 1)=bY j.1) (aA (aU sc) (mU sl) (aA (BI f j) (iK D (fF j)) (eA n (fF j).2)))))))))))))) (λy3=>vE (aJ (iZ f) n (iJ f) 2 (bN z)) (aJ (iZ f) n (iJ f) 2 (bN G)) (λA=>aI (cT (iZ f) (cH y3) 114 3 A) (cW (iA A 1*72)) (fN A) (∀(E:Sl)(u:MH),dV (iZ f) u (cH y3) E 114 3 (eK A (J9 f a a4))->aA (aJ u n (iJ f) 2 (bN z)) (aJ u n
 (iJ f) 2 (bN G)) (pL u z (λO=>jU 3 O) (λO=>O (l9 f)) (l9 f) (λF=>Bt u z (fA F (l9 f) (eF E) []) (λD j=>aA (I1 j) (B j<B g) (aA (aH vs) (aH t) (aA bS dC (aA j6 (lJ (Aw f) (kJ j.2)) (aA (uK (iJ f) j) (aH r) (aA (bI r) (fJ (aW f.1 1)=bY j.1) (aA (aU sc) (mU sl) (aA (BI f j) (iK D (fF j)) (eA n (fF j).2)))))))))) (λl Q C=>fA l (l9 f) Q C) (λl C=>Bt u z (fA l (l9 f) (eF E) C) (λD j=>aA (I1 j) (B j<B g) (aA (aH vs) (aH t) (aA bS dC (aA j6 (lJ (Aw f) (kJ j.2)) (aA (uK (iJ f) j) (aH r) (aA (bI r) (fJ (aW f.1 1)=bY j.1) (aA (aU sc) (mU sl) (aA (BI f j) (iK
 D (fF j)) (eA n (fF j).2)))))))))))))))))))))))))))))))))))))) (∃(I2:Nat×Nat×MH×PH->Prop)(u:Nat×Nat×MH×PH->Nat),(zB (cA (fF g)) (bW (fF g))->∃(f:Nat×Nat×MH×PH),aA (I2 f) (eU (fF g).1 f.2.1) (aA (aH t) (bI t) (aA (bE f.1) (vX (cA (fF g)) (bW (fF g)) (cA f.2) (bW f.2)) True)))/\∀(f:Nat×Nat×MH×PH),I2 f->aY (↑f.1:Int) (aG t) (bD (λb3 o=>aI (bF t.a b3 o) (0<=(↑f.1:Int)) ((↑f.1:Int)<aG t) (∃(y:fO),aJ (cA f.2) (bW f.2) b3 (bB o f.1 3) (jQ y)/\∃(D:MH),Jw (λb4 i=>DB (λP H=>DF (λS V d=>aA (cZ f.2.1 (fT (↑f.1:Int) (nS (jQ y)))=cZ b4 (fT i (nS (jQ P)))) (iW D (cA f.2) (bW f.2) b4 S V d) (aA (Bh
 (bW f.2) H P) (jT H.old) (aI (jT H.new) (aR (jS (H.old=[])) (jS (H.new=[])) (H.old.length=H.new.length)) (d.length<=900000) (eZ (λm9 J=>cR (bW f.2) J (iW D m9 J b4 S V (d++P4 S (V H.tab) i H)) (zB m9 J->∃(A:Nat×Nat×MH×PH),aA (I2 A) (u A<u f) (aA (eU f.2.1 A.2.1) (aH t) (aI (bI t) (fJ (aW f.1 1)=bY A.1) (vX m9 J (cA A.2) (bW A.2)) True))))))))))))) (j5 (cA f.2) (bW f.2) f.2.1 3 (λy=>rE K y (cA f.2) (bW f.2))))))))))))))))))))))
noncomputable abbrev mX(a:bJ)(b c d e g:Sl):du:=cE (dX a) (cE (xR b c) (cQ d (eC (aM e) (mL g))))
attribute [push_cast] mX
def Pv(sc:bJ)(p r vs sl B:Sl)(m:MH)(h:PH)(K:dc):Prop:=
  ∃(s:bJ),jE (λo t=>qV (λu y c=>vC (λd z g=>∃(j:de)(n A:List cw)(e:List tD),aA (mX sc p r vs sl B=mX s o t u y c) (dM h d s) (aA (iH h o t z g) (bO h u j) (aA (tS h y n) (pH h c e) (aA (iL m) (tX d z g j n A e) (lE (λx f=>cR h f (tU f x (vH d (pI d j n A e g) e 0)) (iG (aG x) 0 K (jA 170) m f (K (jA 0) m f))))))))))
structure oX(m:MH)(y:Nat)(f:Int->Option Value):Prop where
 ex:∃kvs:List (Int×Value),mO m y (kvs.map λp=>(Value.int .i64 p.1,p.2))/\(kvs.map Prod.fst).Nodup/\∀t u,(t,u)∈kvs↔f t=some u
def avQ(f:Int->Option Value)(t:Int)(u:Value):Int->Option Value:=λx=>if x=t then some u else f x
theorem oX.new{y:Nat}(c:gR m m' y (.map #[] 0)):oX m' y λ_=>none:=⟨[],⟨#[],0,c.at_,rfl,bf,bf⟩,bf,bf⟩
theorem oX.keep{y:Nat}{f:Int->Option Value}(x:oX m y f)(e:m' y=m y):oX m' y f:=by
 obtain⟨d,⟨g,c,o,j⟩,n⟩:=x.ex;exact⟨d,⟨g,c,bk,j⟩,n⟩
theorem oX.obj{y:Nat}{f:Int->Option Value}(x:oX m y f):∃es c,m y=some (.map es c):=by
 obtain⟨d,⟨es,c,e,_⟩,_⟩:=x.ex
 grind
theorem oX.congr{y:Nat}{f g:Int->Option Value}(x:oX m y f)(h:∀t,f t=g t):oX m y g:=by rwa [<-show f=g from funext h]
theorem oX.put{m:MH}{y:Nat}{f:Int->Option Value}{t:Int}{u:Value}{Q:MH->Prop}(x:oX m y f)(D:∀m',iV m m' y->oX m' y (avQ f t u)->Q m'):
 ∃(c:dh)(Ok:Value->Prop),mO m y c/\KeyLaw Tryz.prog 3 Ok/\Ok (.int .i64 t)/\Instr.sameBits 10000 (Value.int .i64 t) (Value.int .i64 t)=true/\(∀e,List.Mem e c->Ok e.1)/\
  ((∀e,List.Mem e c->e.1=Value.int .i64 t->False)->∀m':MH,iV m m' y->mO m' y (c++[(Value.int .i64 t,u)])->Q m')/\∀(n:dh)(E:Value)(o:dh),c=n++(Value.int .i64 t,E)::o->∀m':MH,iV m m' y->mO m' y (n++(Value.int .i64 t,u)::o)->Q m':=by
 obtain⟨c,L,z,g⟩:=x.ex;refine⟨_,_,L,X3,⟨t,rfl⟩,by simp[Instr.sameBits],λe M=>?_,λF m' A O=>D m' A ⟨c++[(t,u)],bk,?_,λd B=>?_⟩,λn E o e m' A O=>?_⟩
 .obtain⟨k,_,rfl⟩:=mem_map.1 (show e∈_ from M)
  grind
 .rw[cd,nodup_append];refine⟨z,bf,λa P b G e=>?_⟩;simp at G;subst G;subst e;obtain⟨p,R,C⟩:=mem_map.1 P;exact F (Value.int .i64 p.1,p.2) (mem_map_of_mem (f:=λp:Int×Value=>(Value.int .i64 p.1,p.2)) R) (by rw[C])
 .have Z:f t=none:=by
   cases e:f t with
   |none=>rfl
   |some w=>exact(F (Value.int .i64 t,w) (mem_map_of_mem (f:=λp:Int×Value=>(Value.int .i64 p.1,p.2)) ((g t w).2 e)) rfl).elim
  rw[mem_append,mem_singleton,Prod.mk.injEq,g,avQ]
  grind
 .obtain⟨H,b1,S,C,T⟩:=map_eq_append_iff.1 e;obtain⟨p,U,V,j,W⟩:=map_eq_cons_iff.1 T;subst S V C W;simp only[Prod.mk.injEq,Value.int.injEq,true_and]at j;obtain⟨j,I⟩:=j;obtain⟨J,pv⟩:=p;dsimp only at j I;subst j I;rw[cd,map_cons,nodup_append,nodup_cons]at z;obtain⟨n1,⟨n2,n3⟩,X⟩:=z;refine D m' A ⟨H++(J,u)::U,bk,?_,λd B=>?_⟩
  .grind
  .have g:=g d B;rw[mem_append,mem_cons,Prod.mk.injEq]at g⊢
   rw[avQ];by_cases e:d=J
   .subst e;rw[if_pos rfl];have q1:(d,B)∉H:=λY=>X d (mem_map.2 ⟨_,Y,rfl⟩) d (mem_cons_self ..) rfl
    grind
   grind
theorem oX.get{α:Type}{y:Nat}{f:Int->Option α}{enc:α->Value}{t:Int}{P0:Prop}{P:α->Prop}(x:oX m y λt=>(f t).map enc)(R:∀a b,enc a=enc b->a=b)(A:f t=none->P0)(B:∀u,f t=some u->P u):
 ∃(d:List (Value×α))(Ok:Value->Prop),tB m y (d.map λp=>(p.1,enc p.2))/\KeyLaw Tryz.prog 3 Ok/\Ok (.int .i64 t)/\(∀e,List.Mem e d->Ok e.1)/\((∀e,List.Mem e d->e.1=Value.int .i64 t->False)->P0)/\∀u,List.Mem (Value.int .i64 t,u) d->P u:=by
 obtain⟨d,⟨C,c,D,E,_⟩,S,n⟩:=x.ex
 have o:∃l:List (Int×α),d=l.map λp=>(p.1,enc p.2):=by
  have:∀g:List (Int×Value),(∀p∈g,p∈d)->∃l:List (Int×α),g=l.map λp=>(p.1,enc p.2):=by
   intro g
   induction g with
   |nil=>exactλ_=>⟨[],rfl⟩
   |cons p g F=>
    intro z;obtain⟨l,o⟩:=F λq G=>z q (mem_cons_of_mem _ G);have:=(n p.1 p.2).1 (z p (mem_cons_self ..));obtain⟨a,H,I⟩:=Option.map_eq_some_iff.1 this;exact⟨(p.1,a)::l,bk⟩
  exact this d λ_ h=>h
 obtain⟨l,rfl⟩:=o
 have j:∀t u,(t,u)∈l↔f t=some u:=λt u=>by
  have:=n t (enc u);constructor
  .intro J;have L:=this.1 (mem_map.2 ⟨_,J,rfl⟩);obtain⟨a,H,I⟩:=Option.map_eq_some_iff.1 L
   grind
  grind
 refine⟨l.map λp=>(Value.int .i64 p.1,p.2),_,⟨C,c,D,by rw[E,map_map,map_map];rfl⟩,X3,⟨t,rfl⟩,λe M=>?_,λO=>A ?_,λu Q=>B u ?_⟩
 .obtain⟨k,_,rfl⟩:=mem_map.1 (show e∈_ from M)
  grind
 .cases e:f t with
  |none=>rfl
  |some w=>exact(O (Value.int .i64 t,w) (mem_map_of_mem (f:=λp:Int×α=>(Value.int .i64 p.1,p.2)) ((j t w).2 e)) rfl).elim
 .obtain⟨p,T,e⟩:=mem_map.1 (show(Value.int .i64 t,u)∈_ from Q)
  grind
theorem oX.list{α:Type}{y:Nat}{f:Int->Option α}{enc:α->Value}(x:oX m y λt=>(f t).map enc)(H:∀a b,enc a=enc b->a=b):∃l:List (Int×α),tB m y (l.map λp=>(Value.int .i64 p.1,enc p.2))/\∀t u,(t,u)∈l↔f t=some u:=by
 obtain⟨d,⟨o,c,z,A,_⟩,I,g⟩:=x.ex
 have j:∃l:List (Int×α),d=l.map λp=>(p.1,enc p.2):=by
  have:∀e:List (Int×Value),(∀p∈e,p∈d)->∃l:List (Int×α),e=l.map λp=>(p.1,enc p.2):=by
   intro e
   induction e with
   |nil=>exactλ_=>⟨[],rfl⟩
   |cons p e B=>
    intro n;obtain⟨l,j⟩:=B λq C=>n q (mem_cons_of_mem _ C);have:=(g p.1 p.2).1 (n p (mem_cons_self ..));obtain⟨a,D,E⟩:=Option.map_eq_some_iff.1 this;exact⟨(p.1,a)::l,bk⟩
  exact this d λ_ h=>h
 obtain⟨l,rfl⟩:=j;refine⟨l,⟨o,c,z,by rw[A,map_map];rfl⟩,λt u=>?_⟩;have:=g t (enc u);constructor
 .intro F;have G:=this.1 (mem_map.2 ⟨_,F,rfl⟩);obtain⟨a,D,E⟩:=Option.map_eq_some_iff.1 G
  grind
 grind
theorem Ln:∀a b:Sl,Sl.val a=Sl.val b->a=b:=λ⟨c,d,f⟩⟨g,j,n⟩ e=>by
 simp only[Sl.val,Value.slice.injEq]at e
 grind
structure FM(mJ m:MH)(h:PH)(y:Nat)(g:Int->Option Sl)(W:Int->fb):Prop where
 map:oX m y λt=>(g t).map Sl.val
 rows:∀t u,g t=some u->∃wvs:List Mx,kS mJ m u 114 3 (wvs.map Mx.enc)/\(W t).length=wvs.length/\∀(i:Nat) x,(W t)[i]? =some x->∃v,wvs[i]? =some v/\Nw h x v
 none_:∀t,g t=none->W t=[]
 apart:∀t t' u u',t≠t'->g t=some u->g t'=some u'->∀x i j,u.a=some ⟨x,i,none⟩->u'.a≠some ⟨x,j,none⟩
 key:∀x,mJ x≠none->m x≠none
 old:∀x o,x≠y->mJ x=some o->m x=some o
 mY:∃es c,mJ y=some (.map es c)
theorem FM.mono{d:MH}{y:Nat}{g:Int->Option Sl}{W:Int->fb}(x:FM d m h y g W)(le:PH.le h h'):FM d m h' y g W:=
 {x with rows:=λt u e=>by obtain⟨c,f,j,n⟩:=x.rows t u e;exact⟨c,f,j,λi z e=>by obtain⟨v,o,A⟩:=n i z e;exact⟨v,o,A.mono le⟩⟩}
theorem FM.push{D:MH}{y:Nat}{g:Int->Option Sl}{W W':Int->fb}{t:Int}{u:Sl}{w:Wr}{U:Mx}{cs:Array Value}{Q:MH->Prop}(x:FM D m h y g W)(hu:g t=some u\/(g t=none/\u=⟨none,0,0⟩))(hw:Nw h w U)(hl:∀t,(W t).length<=100000)(hW:∀f,W' f=if f=t then W t++[w]else W f)
 (hb:D b=some (.cells cs 111 (0,0)))(L:(cs.toList.drop 2).take 1=[Value.map (some y)])(hQ:∀m2 g2,FM D m2 h y g2 W'->Q m2):
 ∃xs:List cv,cT m u 114 3 xs/\(xs.length+1)*72<=140737488355328/\xs.length<140737488355328/\∀(s':Sl)(m':MH),dV m m' u s' 114 3 (xs++[U.enc])->aJ m' h b 2 [Value.map (some y)]/\aJ m' h b 2 [Value.map (some y)]/\
  ∃(B:dh)(Ok:Value->Prop),mO m' y B/\KeyLaw Tryz.prog 3 Ok/\Ok (.int .i64 t)/\Instr.sameBits 10000 (Value.int .i64 t) (Value.int .i64 t)=true/\(∀e,List.Mem e B->Ok e.1)/\
  ((∀e,List.Mem e B->e.1=Value.int .i64 t->False)->∀m2:MH,iV m' m2 y->mO m2 y (B++[(Value.int .i64 t,Sl.val s')])->Q m2)/\∀(l1:dh)(v0:Value)(l2:dh),B=l1++(Value.int .i64 t,v0)::l2->∀m2:MH,iV m' m2 y->mO m2 y (l1++(Value.int .i64 t,Sl.val s')::l2)->Q m2:=by
 obtain⟨n,V,e1,e2⟩:∃n:List Mx,kS D m u 114 3 (n.map Mx.enc)/\(W t).length=n.length/\∀(i:Nat) x,(W t)[i]? =some x->∃v,n[i]? =some v/\Nw h x v:=by
  rcases hu with e|⟨e,rfl⟩
  .exact x.rows t u e
  .exact⟨[],kS.nil D m 114 3,by rw[x.none_ t e];rfl,λi z d=>by rw[x.none_ t e]at d;simp at d⟩
 have X:∀f H,f≠t->g f=some H->∀a i j,H.a=some ⟨a,i,none⟩->u.a≠some ⟨a,j,none⟩:=λf H E e a i j M=>by
  rcases hu with d|⟨_,rfl⟩
  .exact x.apart f t H u E e d a i j M
  grind
 have a0:=hl t
 have yb:b≠y:=λe=>by
  obtain⟨es,c,Y⟩:=x.mY
  grind
 have mY:D y≠none:=by
  obtain⟨es,c,Y⟩:=x.mY;rw[Y];simp
 have Z:=x.old b _ yb hb;refine⟨n.map Mx.enc,V.row,bk,bk,λs' m' gr=>?_⟩;have nu:∀a o,D a≠none->m a=some o->m' a=some o:=λa o F e=>gr.other a o e λi d=>F (V.fresh a i d);have O:m' b=some (.cells cs 111 (0,0)):=nu b _ (by rw[hb];simp) Z;obtain⟨es,c,Y⟩:=x.map.obj;have a':m' y=m y:=bk
 have P:∀a i,s'.a=some ⟨a,i,none⟩->D a=none:=λa i e=>by
  rcases gr.fresh a i e with k|⟨j,k⟩
  .cases d:D a with
   |none=>rfl
   |some o=>exact absurd k (x.key a (by rw[d];simp))
  .exact V.fresh a j k
 refine⟨.of_m O L,.of_m O L,oX.put (x.map.keep a') λm2 hs hm=>hQ m2 (λf=>if f=t then some s' else g f) ?_⟩;have C:∀a,D a=none->m2 a=m' a:=λa F=>hs.other a λe=>mY (e▸F);refine⟨hm.congr λf=>?_,λf H e=>?_,λf e=>?_,λt1 S u1 u2 E d A a i j M=>?_,λa F=>?_,λa o F e=>?_,x.mY⟩
 .unfold avQ
  grind
 .rw[hW];by_cases d:f=t
  .rw[if_pos d]at e⊢
   cases e;refine⟨n++[U],⟨cT.keep (by rw[cd];exact gr.row) λa i A=>C a (P a i A),P⟩,by simp[e1],λi z A=>?_⟩
   grind
  .rw[if_neg d]at e⊢
   obtain⟨I,G,q1,q2⟩:=x.rows f H e;refine⟨I,⟨cT.keep G.row λa i A=>?_,G.fresh⟩,q1,q2⟩;rw[C a (G.fresh a i A)];obtain⟨R,J⟩:=cT.blk G.row A;rw[J];exact gr.other a _ J λj=>X f H d e a i j A
 .rw[hW];by_cases d:f=t
  .grind
  .rw[if_neg d]at e⊢
   exact x.none_ f e
 .by_cases h1:t1=t
  .rw[if_pos h1]at d;cases d;have T:S≠t:=λe=>E (h1.trans e.symm);rw[if_neg T]at A;intro J;obtain⟨I,G,_⟩:=x.rows S u2 A;rcases gr.fresh a i M with k|⟨i2,k⟩
   .obtain⟨R,e6⟩:=cT.blk G.row J
    grind
   grind
  .rw[if_neg h1]at d;by_cases T:S=t
   .rw[if_pos T]at A;cases A;intro J;obtain⟨I,G,_⟩:=x.rows t1 u1 d;rcases gr.fresh a j J with k|⟨i2,k⟩
    .obtain⟨R,e6⟩:=cT.blk G.row M
     grind
    grind
   .rw[if_neg T]at A;exact x.apart t1 S u1 u2 E d A a i j M
 .by_cases e:a=y
  .subst e;obtain⟨a1,c2,e2⟩:=hm.obj;rw[e2];simp
  .rw[hs.other a e];cases d:m a with
   |none=>exact absurd d (x.key a F)
   |some o=>grind
 .rw[hs.other a F];exact nu a o (by rw[e];simp) (x.old a o F e)
theorem FM.judge{m0 j:MH}{y:Nat}{g:Int->Option Sl}{W:Int->fb}(x:FM j m h y g W)(sub:Sub m0 j)(A:m0 b=none)(G:m0 y=none)(C:j b=some (.cells ⟨bJ.enc sc++[.map (some y),Sl.val bT]⟩ 111 (0,0)))(H:dM h s sc)(d:zB m h)(I:∀t,(W t).length<=100000):iW m0 (mK j m) (tC j m h) b s W []:=by
 have D:∀b,j b≠none->mK j m b=m b:=λb C=>by
  unfold mK
  grind
 have n:=yU (m0:=j) d;obtain⟨U,c,J⟩:=x.mY;have L:b≠y:=λe=>bk
 have M:=x.old b _ L C;obtain⟨l,O,E⟩:=oX.list (x.map.keep (D y (by rw[J];simp))) Ln;refine⟨λa o e=>?_,A,sc,y,bT,l,[],bk,H.mono n,O,λt u e=>?_,λt e=>x.none_ t ?_,kS.nil m0 _ 77 5,rfl,λi z e=>by simp at e⟩
 .have F:=sub a o e;rw[D a (by rw[F];simp)];exact x.old a o (λV=>bk) F
 .obtain⟨B,f,P,Q⟩:=x.rows t u ((E t u).1 e);have:=I t;exact⟨⟨B,kS.ice f,P,λi z e=>by obtain⟨v,R,S⟩:=Q i z e;exact⟨v,R,S.mono n⟩⟩,aC⟩
 .cases T:g t with
  |none=>rfl
  |some u=>exact absurd ((E t u).2 T) (e u)
theorem auQ{s:j4}{ps:de}{st st2:List cw}{cs:List tD}{rs:List lR}{i:Nat}{r:lR}(c:rs[i]? =some r)(t:Int):pI s ps st st2 cs (rs.take (i+1)) t=pI s ps st st2 cs (rs.take i) t++(if(r.kind==2&&sM cs r.table&&r.table==t)=true then[⟨r.cols,(rM s st (gP ps r.query)).1,(rM s st2 (gP ps r.query)).1⟩]else[]):=by
 unfold pI;rw[cj,c,filter_append,cd]
 grind
theorem UI{s:j4}{ps:de}{st st2:List cw}{cs:List tD}{rs:List lR}(t:Int):(pI s ps st st2 cs rs t).length<=rs.length:=by
 unfold pI
 grind
theorem Tk{cs:List tD}{c:tD}(d:cs[i]? =some c)(t:Int):sM (cs.take (i+1)) t=(sM (cs.take i) t||c.tab==t):=by
 unfold sM;rw[cj,d,any_append];simp
theorem P3{s:j4}{wr:Int->fb}:∀{cs:List tD}{i:Nat},(∀c∈cs,c.old.length<=1000)->(vH s wr cs i).length<=cs.length*2001
 |[],i,_=>by simp[vH]
 |c::cs,i,h=>by
  have e:=P3 (wr:=wr) (s:=s) (cs:=cs) (i:=i+1) λx d=>h x (mem_cons_of_mem _ d);have f:=h c (mem_cons_self ..)
  have g:(P4 s (wr c.tab) i c).length<=2001:=by
   unfold P4;split
   .grind
   split
   .grind
   .have:=LK (D:=λj:Nat=>if W4 (c.old.getD j zeroV) (c.new.getD j zeroV)=true then[]else([false,true].filter λa=> !kO (wr c.tab) (yS s c) a j).map λa=>(⟨i,a,c.tab,yS s c,j⟩:Den)) (λk=>by
     grind) c.old.length
    omega
  rw[vH,bz,cq];omega
theorem SK{s:j4}{wr:Int->fb}:∀{cs:List tD}{i k:Nat}{c:tD},cs[k]? =some c->vH s wr (cs.take (k+1)) i=vH s wr (cs.take k) i++P4 s (wr c.tab) ((i+k:Nat):Int) c
 |[],i,k,c,h=>by simp at h
 |a::cs,i,0,c,h=>by simp at h;subst h;simp[vH]
 |a::cs,i,k+1,c,h=>by
  rw[take_succ_cons,take_succ_cons,vH,vH,SK (cs:=cs) (i:=i+1) (k:=k) (br h),append_assoc,show i+1+k=i+(k+1)by omega]
theorem cbZ{p vs sl ch:Sl}{pk:dd}{rs:List lR}{ps:de}{st st2:List cw}{cs:List tD}(hs:dM h s sc)(hp:iH h p r pk rs)(hv:bO h vs ps)(a7:tS h sl st)(hc:pH h ch cs)(hT:iL m)(ok:tX s pk rs ps st st2 cs)
 (hK:∀x h',PH.le h h'->tU h' x (vH s (pI s ps st st2 cs rs) cs 0)->K (.tup [cS x,cI 0]) m h'):PJ sc p r vs sl ch m h (dE h K):=by
 dsimp only[PJ,push_cast];have b6:=bC.slen hc;have c5:=hp.rules.slen;have e9:=ok.few;refine⟨sc,p,r,s,pk,rs,rfl,hs,hp,λh1 E=>aB (λe=>by rw[ok.pol]at e;cases e) (λ_=>⟨p,vs,pk,ps,rfl,hp.params.mono E,hv.mono E,aB (λe=>by rw[ok.par]at e;cases e) (λ_=>⟨sc,1,sl,ch,s,st,cs,rfl,hs.mono E,(a7.mono E).lea,bC.mono hc E (λ_ _ x=>x.mono E),bg,bg,a7.len,λw h2 c6 hw=>aB (λe=>by rw[ok.app]at e;cases e) (λ_=>λn m1 n1 a8=>?_)⟩)⟩)⟩;rw[ok.app]at hw;have L2:=E.trans c6;have c7:pH h2 ch cs:=bC.mono hc L2 λ_ _ x=>x.mono L2;have a3:Sub m m1:=λa o e=>by rw[a8.other a λU=>by rw[U,n1.m_]at e;cases e];exact e
 refine⟨λz=>w=z.2.1/\n=z.2.2.1/\h2=z.2.2.2.2/\z.1<=cs.length/\Sub m z.2.2.2.1/\oX z.2.2.2.1 n λt=>(if sM (cs.take z.1) t=true then some true else none).map Value.bool,λz=>cs.length-z.1,⟨(0,w,n,m1,h2),⟨rfl,rfl,rfl,Nat.zero_le _,a3,(oX.new a8).congr λt=>by simp[sM]⟩,MT⟩,?_⟩;rintro⟨i,_,_,mz,_⟩ ⟨rfl,rfl,rfl,hi,sub,hM⟩;dsimp only at hi sub hM⊢
 refine aE (λB=>?_) (λV=>?_)
 .obtain⟨c,M⟩:=eO b6 B;obtain⟨b,o,v,ea,rd,a9⟩:=bC.at c7 M;refine⟨b,o,ea,aC,B,v,.imm rd,oX.put (Q:=λm'=>∃f':Nat×Sl×Nat×MH×PH,_) hM λm' c8 c9=>⟨(i+1,w,n,m',h2),⟨rfl,rfl,rfl,aC,λa o e=>?_,c9.congr λt=>?_⟩,aC,MT⟩⟩
  .show m' a=some o;rw[c8.other a λU=>by rw[U,n1.m_]at e;cases e];exact sub a o e
  .show avQ _ _ _ t=(if sM (cs.take (i+1)) t=true then some true else none).map Value.bool;rw[Tk M,avQ,a9.tab_]
   grind
 have b':i=cs.length:=by omega
 subst b';rw[take_length]at hM;intro C m2 n2 X b m3 n3 b0;refine⟨_,111,⟨b0.at_⟩,bf,λG b2=>?_⟩;have H:G b=some (.cells ⟨bJ.enc sc++[.map (some C),Sl.val bT]⟩ 111 (0,0)):=b2.at_;have b3:C≠b:=λe=>by have:=n3.m_;rw[<-e,X.at_]at this;cases this
 have b7:G C=some (.map #[] 0):=by rw[b2.other C b3,b0.other C b3];exact X.at_
 have a4:Sub mz G:=λa o e=>by
  have ha:a≠C:=λU=>by rw[U,n2.m_]at e;cases e
  have e3:m2 a=some o:=by rw[X.other a ha];exact e
  have hb:a≠b:=λU=>by rw[U,n3.m_]at e3;cases e3
  rw[b2.other a hb,b0.other a hb];exact e3
 have a5:Sub m G:=sub.trans a4;have d':m C=none:=sub.free n2.m_
 have d0:m b=none:=by
  cases e:m b with
  |none=>rfl
  |some o=>
   have e1:=sub b o e;have:m2 b=some o:=by rw[X.other b λU=>by omega];exact e1
   rw[n3.m_]at this;cases this
 obtain⟨f0,c1,Y⟩:=hM.obj;have d1:n≠C:=λe=>by rw[e,n2.m_]at Y;cases Y
 have b8:oX G n λt=>(if sM cs t=true then some true else none).map Value.bool:=hM.keep (by rw[Y,a4 n _ Y]);have O:∀i t,(pI s ps st st2 cs (rs.take i) t).length<=100000:=λi t=>by have:=UI (s:=s) (ps:=ps) (st:=st) (st2:=st2) (cs:=cs) (rs:=rs.take i) t;grind
 refine⟨λz=>w=z.2.1/\n=z.2.2.1/\b=z.2.2.2.1/\PH.le h2 z.2.2.2.2.2/\z.1<=rs.length/\∃g,FM G z.2.2.2.2.1 z.2.2.2.2.2 C g (pI s ps st st2 cs (rs.take z.1)),λz=>rs.length-z.1,⟨(0,w,n,b,G,h2),⟨rfl,rfl,rfl,.refl _,Nat.zero_le _,λ_=>none,⟨(oX.new ⟨b7,λ_ _=>rfl⟩).congr λt=>rfl,λt u e=>(by cases e),λt _=>rfl,λt t' u u' _ e=>(by cases e),λ_ e=>e,λ_ _ _ e=>e,_,_,b7⟩⟩,MT⟩,?_⟩;clear hi sub hM a8 n1 a3 V;rintro⟨i,_,_,_,j,T⟩ ⟨rfl,rfl,rfl,le,hi,g,W⟩;dsimp only at le hi W⊢
 refine aE (λB=>?_) (λV=>?_)
 .obtain⟨x,M⟩:=eO c5 B;obtain⟨b1,o1,v,ea,rd,I⟩:=bC.at hp.rules M;have b9:=I.mono (L2.trans le);have snoc:=auQ (s:=s) (ps:=ps) (st:=st) (st2:=st2) (cs:=cs) M
  have d2:oX j n λt=>(if sM cs t=true then some true else none).map Value.bool:=b8.keep (by
   obtain⟨es,c,e⟩:=b8.obj;rw[e,W.old n _ d1 e])
  have skip:¬(x.kind=2/\sM cs x.table=true)->pI s ps st st2 cs (rs.take (i+1))=pI s ps st st2 cs (rs.take i):=λhn=>funext λt=>by
   grind
  have nx:¬(x.kind=2/\sM cs x.table=true)->(w=w/\n=n/\b=b/\PH.le h2 T/\i+1<=rs.length/\∃g,FM G j T C g (pI s ps st st2 cs (rs.take (i+1)))):=λhn=>⟨rfl,rfl,rfl,le,aC,g,bk⟩
  have c':Sub m j:=λa o e=>W.old a o (λU=>bk) (a5 a o e);refine⟨b1,o1,ea,aC,B,v,.imm (rd.mono (L2.trans le)),λz=>z=(i,w,n,b,v,j,T)/\x.kind=2/\sM cs x.table=true,aB (λa1=>⟨(i+1,w,n,b,j,T),nx ?_,aC,MT⟩) (λa1=>oX.get d2 (λa b e=>by injection e) (λe=>⟨(i+1,w,n,b,j,T),nx ?_,aC,MT⟩) (λq e=>aB (λa2=>⟨(i+1,w,n,b,j,T),nx ?_,aC,MT⟩) (λa2=>⟨(i,w,n,b,v,j,T),⟨rfl,?_,?_⟩,MT⟩))),?_⟩
  .simp only[bne_iff_ne,I.kind_]at a1;omega
  .rw[I.table_]at e;grind
  .grind
  .simp only[bne_eq_false_iff_eq,I.kind_]at a1;exact a1
  .rw[I.table_]at e
   grind
  rintro _ ⟨rfl,b4,d3⟩;dsimp only;obtain⟨f1,d4,d5,d6⟩:=ok.q1 x (bx M) b4;obtain⟨f2,d7,d8,d9⟩:=ok.q2 x (bx M) b4;have c0:iL j:=hT.sub c';have Z:=L2.trans le;refine⟨v.query,vs,x.query,ps,rfl,b9.query_,hv.mono Z,λv' h3 L hq=>⟨sc,s,sl,st,v',_,rfl,hs.mono (Z.trans L),a7.mono (Z.trans L),hq,c0,λ_ _=>d6,λs1 h4 P e'=>aB (λe=>bk) (λ_=>⟨sc,s,w,st2,v',_,rfl,hs.mono (Z.trans (L.trans P)),⟨bC.mono hw (le.trans (L.trans P)) λ_ _ x=>x.mono (le.trans (L.trans P)),ok.n2,ok.v2⟩,hq.mono P,c0,λ_ _=>d9,λs2 h5 c2 e0=>aB (λe=>bk) (λ_=>?_)⟩)⟩⟩;have lb:=L.trans (P.trans c2);have e4:j b=some (.cells ⟨bJ.enc sc++[.map (some C),Sl.val bT]⟩ 111 (0,0)):=W.old b _ (λe=>b3 e.symm) H;have f:aJ j h5 b 2 [Value.map (some C)]:=.of_m e4 rfl;have W5:=W.mono lb;have a':Nw h5 ⟨x.cols,(rM s st (gP ps x.query)).1,(rM s st2 (gP ps x.query)).1⟩ ⟨v.columns,s1,s2⟩:=⟨b9.cols_.mono lb,e'.mono c2,e0,d4,d7,d5,d8⟩
  have a0:∀t',pI s ps st st2 cs (rs.take (i+1)) t'=if t'=v.table then pI s ps st st2 cs (rs.take i) v.table++[⟨x.cols,(rM s st (gP ps x.query)).1,(rM s st2 (gP ps x.query)).1⟩]else pI s ps st st2 cs (rs.take i) t':=λt'=>by
   rw[snoc,b4,d3,I.table_]
   grind
  have fin:∀F R,FM G F h5 C R (pI s ps st st2 cs (rs.take (i+1)))->(w=w/\n=n/\b=b/\PH.le h2 h5/\i+1<=rs.length/\∃g,FM G F h5 C g (pI s ps st st2 cs (rs.take (i+1)))):=λF R A=>⟨rfl,rfl,rfl,le.trans lb,aC,R,A⟩
  refine⟨C,f,C,f,⟨f,oX.get W5.map Ln (λe=>⟨f,f,f,f,W5.push (.inr ⟨e,rfl⟩) a' (O i) a0 H rfl λF R A=>⟨(i+1,w,n,b,F,h5),fin F R A,aC,MT⟩⟩) (λu e=>⟨f,f,f,f,W5.push (.inl e) a' (O i) a0 H rfl λF R A=>⟨(i+1,w,n,b,F,h5),fin F R A,aC,MT⟩⟩)⟩,?_⟩;exact⟨f,f,f,oX.get W5.map Ln (λe=>⟨f,f,W5.push (.inr ⟨e,rfl⟩) a' (O i) a0 H rfl λF R A=>⟨(i+1,w,n,b,F,h5),fin F R A,aC,MT⟩⟩) (λu e=>⟨f,f,W5.push (.inl e) a' (O i) a0 H rfl λF R A=>⟨(i+1,w,n,b,F,h5),fin F R A,aC,MT⟩⟩)⟩
 have e5:i=rs.length:=by omega
 subst e5;rw[take_length]at W;have a6:∀t,(pI s ps st st2 cs rs t).length<=100000:=λt=>cr (UI t) aC;generalize pI s ps st st2 cs rs=Wf at W a6 hK;have Z:=L2.trans le;have e6:pH T ch cs:=bC.mono hc Z λ_ _ x=>x.mono Z;refine⟨λz=>b=z.2.1/\z.1<=cs.length/\PH.le T z.2.2.2/\iW m z.2.2.1 z.2.2.2 b s Wf (vH s Wf (cs.take z.1) 0),λz=>cs.length-z.1,λD=>⟨(0,b,mK G j,tC G j T),⟨rfl,Nat.zero_le _,yU D,W.judge a5 d0 d' H (hs.mono Z) D a6⟩,?_⟩,?_⟩
 .have fz:=LH (m0:=G) D;exact AC
 clear W O V hi;rintro⟨i,_,m6,h6⟩ ⟨rfl,hi,S,J⟩;dsimp only at hi S J⊢
 refine aE (λB=>?_) (λV=>?_)
 .obtain⟨c,M⟩:=eO b6 B;obtain⟨b1,o1,v,ea,rd,a9⟩:=bC.at e6 M;have c3:=bx M;obtain⟨w1,w2,w3⟩:=ok.wid c c3;have c4:=P3 (wr:=Wf) (s:=s) (cs:=cs.take i) (i:=0) λc hc=>(ok.wid c (mem_of_mem_take hc)).1;rw[length_take]at c4;refine⟨b1,o1,ea,aC,B,v,.imm (rd.mono S),m,b,i,v,c,s,Wf,_,rfl,J,a9.mono S,w1,w2,w3,aC,λm7 h7 b5 J2 D=>⟨(i+1,b,m7,h7),⟨rfl,aC,S.trans b5,?_⟩,aC,?_⟩⟩
  .have e:=SK (s:=s) (wr:=Wf) (i:=0) M
   grind
  .have fz:=IG m7 h7;exact AC
 .have b':i=cs.length:=by omega
  subst b';rw[take_length]at J;obtain⟨f3,y,d,f4,e7,k1,k2,k3,k4,k5,fd,k6,k7⟩:=J.ex;refine⟨d,.of_m k1 rfl,dE.ice J.sub (Z.trans S) λD b5=>hK d _ b5 ?_⟩;have c4:=P3 (wr:=Wf) (s:=s) (cs:=cs) (i:=0) λc hc=>(ok.wid c hc).1;have e8:=yU (m0:=m) D;exact⟨⟨e7,kS.ice fd,k6,λi x e=>by obtain⟨v,q1,q2⟩:=k7 i x e;exact⟨v,q1,q2.mono e8⟩⟩,aC⟩
theorem cbQ{p vs sl c:Sl}{d:dd}{rs:List lR}{ps:de}{st st2:List cw}{cs:List tD}(g:dM h s sc)(j:iH h p r d rs)(n:bO h vs ps)(f:tS h sl st)(o:pH h c cs)(t:iL m)(ok:tX s d rs ps st st2 cs)
 (u:∀h',PH.le h h'->K (cI (if(vH s (pI s ps st st2 cs rs) cs 0).length=0 then 0 else 170)) m h'):Pv sc p r vs sl c m h K:=by
 dsimp only[Pv,push_cast];refine⟨sc,p,r,vs,sl,c,s,d,rs,ps,st,st2,cs,rfl,g,j,n,f,o,t,ok,λx h' le y=>?_⟩;have z:=bC.slen y;have:=u h' le;exact aE (λe=>by rw[if_neg aC]at this;exact this) (λe=>by rw[if_pos aC]at this;exact this)
theorem Mb:cu 16 Lc:=by
 refine X7 func16 ?_;rintro f m h K ⟨sc,p,r,pv,d,e,s,z,rs,ps,A,g,cs,rfl,j,n,o,c,t,u,ok,y⟩;refine⟨bPJ sc p r pv d e,rfl,aD aJX (aD aJQ (aD aIJ (aD aIZ (aD aIX (aD aIQ aF))))),PJ sc p r pv d e m h (dE h K),be,?_⟩;exact cbZ j n o c t u ok y
theorem aMZ:cu 22 bxX:=by
 refine iB func22 ?_;rintro d m h K ⟨sc,p,r,pv,e,f,s,z,rs,ps,A,g,cs,rfl,j,n,o,c,t,u,ok,y⟩;refine⟨bNZ,rfl,aD Mb aF,Pv sc p r pv e f m h K,be,?_⟩;exact cbQ j n o c t u ok y
def Qx:Vc.Spec:=λc m h K=>∃s r,c=[cS s]/\bO h s r/\r.length<=1000/\∀d h',PH.le h h'->bO h' d r->K (cS d) m h'
def Xs:Vc.Spec:=λc m h K=>∃v s t d r,c=[aS v,cI t,cS d]/\dM h s v/\bO h d r/\r.length<=1000/\∀e h',PH.le h h'->bO h' e (iI s t r)->K (cS e) m h'
def H8(key:Int)(ks:dd)(r:de):Prop:=r.length=ks.length/\(∀v∈r,GD v)/\∀(i:Nat) v k,r[i]? =some v->ks[i]? =some k->zW key k i v=true
def GF(m:MH)(tb:Nat)(us:dk):Prop:=∃c:Array Value,m tb=some (.cells c 95 (0,0))/\us.length<=c.size/\c.toList.take us.length=us.map Sl.val
noncomputable def bMQ(v:bJ)(sl:Sl)(t:Nat)(f g:Sl)(m:MH):Ctx:=dD [(24,Xs),(48,FQ),(37,Qx)] [(4,{A:=Nat×dk×Bool×Sl×PH,st:=λ⟨i,e,d,u,h⟩=>bU 66 71 [(2,iv t),(3,sv f),(4,sv g),(5,.at (.ptr 5 0)),(6,.at (.ptr 6 0)),(10,.at (.ptr 10 0)),(11,.at (.lst 45)),(12,bv d),(23,sv u),(24,iv u.len),(25,iv i)] [(5,.cells 29 (v.enc.map .val)),(6,.cells 38 [.val sl.val]),(10,.cells 38 [.val bT.val]),(45,.lst 75 1 (e.map eS))] m h})] [(9,{A:=Nat×dk×Bool×Sl×Sl×Int×PH,st:=λ⟨i,e,d,u,r,c,h⟩=>bU 66 71 [(2,iv t),(3,sv f),(4,sv g),(5,.at (.ptr 5 0)),(6,.at (.ptr 6 0)),(10,.at (.ptr 10 0)),(11,.at (.lst 45)),(12,bv d),(14,sv r),(15,iv c),(23,sv u),(24,iv u.len),(25,iv i)] [(5,.cells 29 (v.enc.map .val)),(6,.cells 38 [.val sl.val]),(10,.cells 38 [.val bT.val]),(45,.lst 75 1 (e.map eS))] m h}),
 (14,{A:=dk×PH,st:=λ⟨e,h⟩=>bU 66 71 [(2,iv t),(6,.at (.ptr 6 0)),(10,.at (.ptr 10 0)),(11,.at (.lst 45))] [(6,.cells 38 [.val sl.val]),(10,.cells 38 [.val bT.val]),(45,.lst 75 1 (e.map eS))] m h})] [] false
def Wp(s:Sl)(m:MH)(h:PH)(K:dc):Prop:=
  ∃(y:List cv),aA (dQ 3 y) (bX h (cH s) 3 y) (aA (cW (y.length*32)) (cW y.length) (bQ h 3 y (λc d=>K (mL c) m d)))
def Wz(v:bJ)(t:Int)(s:Sl)(m:MH)(h:PH)(K:dc):Prop:=
  aY t 0 (K CE m h) (mE t (gY v) K CE m h (Ai v t (λb o y=>aI (aJ m h b (eM o t 5+2) (bG y)) (0<=ite (ite (aG s<y) (aG s) y>0) (ite (aG s<y) (aG s) y) 0) (uN (ite (ite (aG s<y) (aG s) y>0) (ite (aG s<y) (aG s) y) 0) s) (tH (λd r=>aI (eW (CV.val (Value.slice s.a (ite (ite (aG s<y) (aG s) y>0) (ite (aG s<y) (aG s) y) 0).toNat s.cap)) (mL d)) (bO h d r) (jT r) (lE (λe c=>cR h c (bO c e r) (K (mL e) m c))))))))
noncomputable abbrev C4(a:Nat×dk×Bool×Sl×PH):Bool:=a.2.2.1
noncomputable abbrev pP(a:Nat×dk×Bool×Sl×PH):Sl:=a.2.2.2.1
abbrev Bu(a b c:Nat):Prop:=eQ (oQ 38 (rN (At.val (Value.slice (sT a) b c))))
noncomputable abbrev yG(a:Nat×dk×Bool×Sl×PH):List cv:=vD a.2.1
noncomputable abbrev C8(a:Nat×dk×Bool×Sl×PH):Nat->Nat->Option Value:=a.2.2.2.2
abbrev NX(a:(Nat×dk×Bool×Sl×Sl×Int×PH)->Prop)(b:Nat)(c d:Sl)(e:(Nat×dk×Bool×Sl×Sl×Int×PH)->Prop):Prop:=∃(x:Nat×dk×Bool×Sl×Sl×Int×PH),aA (a x) (nM b) (aA (aH c) (aH d) (aA bS jH (aA l8 (eL 45) (e x))))
noncomputable abbrev Kb(a:Nat×dk×Bool×Sl×Sl×Int×PH):Sl:=a.2.2.2.2.1
noncomputable abbrev Ka(a:Nat×dk×Bool×Sl×Sl×Int×PH):Int:=a.2.2.2.2.2.1
noncomputable abbrev yC(a:Nat×dk×Bool×Sl×Sl×Int×PH):Sl:=a.2.2.2.1
noncomputable abbrev Fe(a:Nat×dk×Bool×Sl×Sl×Int×PH):List cv:=vD a.2.1
noncomputable abbrev Hn(a:Nat×dk×Bool×Sl×Sl×Int×PH):Nat->Nat->Option Value:=a.2.2.2.2.2.2
noncomputable abbrev E6(a b c:Nat):cv:=mI (Value.slice (sT a) b c)
attribute [push_cast] C4 pP Bu yG C8 NX Kb Ka yC Fe Hn E6
def Wu(v:bJ)(tb n cap t:Nat)(g e:Sl)(m:MH)(h:PH)(K:dc):Prop:=
  bD (λb o=>aI (bF (sT tb) b o) (0<=(↑t:Int)) ((↑t:Int)<(↑n:Int)) (∃(y:Sl),aJ m h b (bB o t 1) (aM y)/\∃(I:Nat×dk×Bool×Sl×PH->Prop)(u:Nat×dk×Bool×Sl×PH->Nat),(∃(x:Nat×dk×Bool×Sl×PH),aA (I x) (nM t) (aA (aH g) (aH e) (aA bS jH (aA l8 (eL 45) (aA (fS (aG e==0) (C4 x)) (aX y (pP x)) (aA (cD y (pP x)) (bE x.1) (aA (aU v) (Bu tb n cap) (aA jO (pE 75 1 (yG x)) (dP m m h (C8 x))))))))))/\∀(x:Nat×dk×Bool×Sl×PH),I x->aY (↑x.1:Int) (aG (pP x)) (dN (pP x).a (↑x.1:Int) (pP x) (λz A j=>aJ m (C8 x) z (bB A x.1 1) (aM j)/\EO v (↑t:Int) j (C8 x) (λs f=>xV s g f (λa B=>∃(I1:Nat×dk×Bool×
 Sl×Sl×Int×PH->Prop),A7 (cN a B) 0 (branch (!(C4 x)) (Bw e f (λC D=>kX (yG x) 24 (NX (λc=>I1 c) t g e (λc=>aA (A4 c.2.2.1) (aX j (Kb c)) (aA (bV (cN a B) (Ka c)) (aX (pP x) (yC c)) (aA (cD (pP x) (yC c)) (bP x.1 c.1) (aA (aU v) (Bu tb n cap) (nO jO (ED (yG x) C (Fe c)) (m=m) (D=Hn c))))))))) (NX (λc=>I1 c) t g e (λc=>aA (fS (C4 x) c.2.2.1) (aX j (Kb c)) (aA (bV (cN a B) (Ka c)) (aX (pP x) (yC c)) (aA (cD (pP x) (yC c)) (bP x.1 c.1) (aA (aU v) (Bu tb n cap) (nO jO (Option.some (Own.lst 75 1 (yG x))=Option.some (Own.lst 75 1 (Fe c))) (m=m) (f=Hn c)))))))) (NX (λc=>I1 c)
 t g e (λc=>aA (fS (C4 x) c.2.2.1) (aX j (Kb c)) (aA (bV (cN a B) (Ka c)) (aX (pP x) (yC c)) (aA (cD (pP x) (yC c)) (bP x.1 c.1) (aA (aU v) (Bu tb n cap) (nO jO (Option.some (Own.lst 75 1 (yG x))=Option.some (Own.lst 75 1 (Fe c))) (m=m) (f=Hn c)))))))/\∀(c:Nat×dk×Bool×Sl×Sl×Int×PH),lA (I1 c) (Ka c !=0) (kX (Fe c) 24 (∃(d:Nat×dk×Bool×Sl×PH),aA (I d) (u d<u x) (aA (nM t) (aH g) (aA (aH e) bS (aA jH l8 (aA (eL 45) (fS c.2.2.1 (C4 d)) (aA (aX (yC c) (pP d)) (cD (yC c) (pP d)) (aA (fJ (aW c.1 1)=bY d.1) (aU v) (aA (Bu tb n cap) jO (cF (ED (Fe c) (Kb c) (yG d)) m m (Hn
 c) (C8 d))))))))))) (∃(d:Nat×dk×Bool×Sl×PH),aA (I d) (u d<u x) (aA (nM t) (aH g) (aA (aH e) bS (aA jH l8 (aA (eL 45) (fS c.2.2.1 (C4 d)) (aA (aX (yC c) (pP d)) (cD (yC c) (pP d)) (aA (fJ (aW c.1 1)=bY d.1) (aU v) (aA (Bu tb n cap) jO (cF (Option.some (Own.lst 75 1 (Fe c))=Option.some (Own.lst 75 1 (yG d))) m m (Hn c) (C8 d)))))))))))))) (∃(I1:dk×PH->Prop),branch (!(C4 x)) (Bw e (C8 x) (λs f=>kX (yG x) 24 (∃(c:dk×PH),aA (I1 c) (nM t) (aA (eP 6) l8 (aA (eL 45) (Bu tb n cap) (aA jO (ED (yG x) s (vD c.1)) (dP m m f c.2))))))) (∃(c:dk×PH),aA (I1 c) (nM t) (aA (eP 6) l8 (aA (eL 45) (Bu tb n cap)
 (aA jO (Option.some (Own.lst 75 1 (yG x))=Option.some (Own.lst 75 1 (vD c.1))) (dP m m (C8 x) c.2)))))/\∀(c:dk×PH),I1 c->bD (λz A=>aI (bF (sT tb) z A) (0<=(↑t:Int)) ((↑t:Int)<(↑n:Int)) (bQ c.2 1 (vD c.1) (λs f=>pK m z (bB A t 1) (aM s) (λE=>K (nS (E6 tb n cap)) E f)))))))
theorem HM:cu 37 Qx:=by
 refine iB func37 ?_;rintro e m h K ⟨s,r,rfl,f,y,g⟩;refine⟨dD [] [] [] [] false,rfl,aF,Wp s m h K,be,?_⟩;dsimp only[Wp,push_cast];obtain⟨⟨c,j,n,o⟩,t⟩:=f;exact⟨c.map VV.enc,B8 c,j,bk,bk,λu h' le d=>g u h' le ⟨⟨c,d,n,o⟩,t⟩⟩
theorem HN:cu 24 Xs:=by
 refine iB func24 ?_;rintro D m h K ⟨v,s,t,A,r,rfl,B,n,M,u⟩;refine⟨dD [(37,Qx)] [] [] [] false,rfl,aD HM aF,Wz v t A m h K,be,?_⟩;dsimp only[Wz,push_cast];have E:=B.tables.slen;have d:=bC.slen n;have c:i7 s t=false->K CE m h:=λe=>u ⟨none,0,0⟩ h (.refl _) (by simp only[iI,e];exact bC.nil _ _ _ _);refine aE (λF=>c (by simp[i7];omega)) (λF=>aE (λG=>c (by simp[i7];omega)) (λG=>?_));have e:i7 s t=true:=by simp[i7];omega
 obtain⟨f,g⟩:∃f,s.tables[t.toNat]? =some f:=⟨_,bu aC⟩
 obtain⟨b,o,y,H,rd,I⟩:=bC.at B.tables g;have O:=I.key;obtain⟨a,len,j⟩:=A;have C:len<=j:=by obtain⟨P,J,_⟩:=n.ex;exact J.cap
 have d:len=r.length:=d
 have z:(if(if(len:Int)<y.key then(len:Int)else y.key)>0 then(if(len:Int)<y.key then(len:Int)else y.key)else 0)=max 0 (min f.key r.length):=by
  omega
 refine⟨b,o,H,aC,aC,y.key,.imm (bA.part rd 2 1),?_⟩;dsimp only;rw[z];have L:iI s t r=r.take (max 0 (min f.key r.length)).toNat:=by simp only[iI,e,if_true,g];rfl
 rw[L]at u;exact⟨aC,aC,⟨a,(max 0 (min f.key r.length)).toNat,j⟩,_,rfl,n.cut aC,bk,u⟩
theorem H8.snoc{key:Int}{ks:dd}{l:de}{k:Int}{v:VV}(x:H8 key (ks.take i) l)(c:ks[i]? =some k)(f:GD v)(g:zW key k i v=true):H8 key (ks.take (i+1)) (l++[v]):=by
 obtain⟨n,o,t⟩:=x;have y:=(bt c);have z:l.length=i:=bk
 refine⟨bk,λu d=>?_,λj u A d e=>?_⟩
 .grind
 grind
theorem VR{key k c:Int}(d:c=1\/c=2)(e:(i:Int)>=key):zW key k i ⟨c,0,⟨#[]⟩⟩=true:=by
 rcases d with rfl|rfl<;>simp[zW,kN,Ix]<;>omega
theorem Rq{key k:Int}{v:VV}(c:KOk k)(d:Lb k v):zW key k i v=true:=by
 obtain⟨e,f⟩:=d c;simp[zW,e,f]
theorem UN(c:Int):GD ⟨c,0,⟨#[]⟩⟩:=⟨⟨bf,bf⟩,by show(ByteArray.mk #[]).size<=64;decide⟩
def Qt{α:Type}(T:List α->α->Prop):List α->List α->Prop
 |_,[]=>True
 |pre,x::r=>T pre x/\Qt T (pre++[x]) r
theorem VO{α:Type}{T:List α->α->Prop}:∀{l c:List α},Qt T c l->∀(j:Nat) x,l[j]? =some x->T (c++l.take j) x
 |[],_,_,j,x,e=>by simp at e
 |y::r,c,h,0,x,e=>by simp at e;subst e;simpa using h.1
 |y::r,c,h,j+1,x,e=>by
  have:=VO h.2 j x (br e)
  grind
theorem Fs{α:Type}{T:List α->α->Prop}{l:List α}(h:Qt T [] l):Good T l:=λj x e=>br (VO h j x e)
theorem aAQ{α:Type}{T:List α->α->Prop}{l:List α}(h:Good T l)(n:Nat):Good T (l.take n):=λj x e=>by
 rw[getElem?_take]at e;split at e
 .rename_i c;rw[take_take,Nat.min_eq_left aC];exact h j x e
 .cases e
theorem aXZ(u:s.tables.length<=8)(g:∀t∈s.tables,t.columns.length<=8/\t.refs=[]/\t.checks=[])(y:0<=s.version)(z:s.version<=1000)(A:Good D7 s.tables):dK s=0:=by
 have c:DN s:=⟨u,λj t e=>by
  obtain⟨n,d,o⟩:=g t (bx e);exact⟨n,by simp[d],by simp[o]⟩⟩
 have ok:K8 s:=⟨y,z,A,λj t e=>by
  obtain⟨n,d,o⟩:=g t (bx e);unfold FO;rw[d];intro i x B;simp at B⟩
 rw[Lq c ok];refine vU _ λe f=>?_;obtain⟨i,_,f⟩:=mem_flatMap.1 f;unfold xD at f
 grind
theorem XP{id:Int}(h:id=4\/id=5):Good D7 (tZ id):=by
 have c:cX id=true:=by rcases h with rfl|rfl<;>rfl
 refine Fs ⟨⟨?_,?_,?_,?_,Fs ⟨⟨?_,?_,?_⟩,⟨?_,?_,?_⟩,trivial⟩⟩,⟨?_,?_,?_,?_,Fs ⟨⟨?_,?_,?_⟩,⟨?_,?_,?_⟩,⟨?_,?_,?_⟩,⟨?_,?_,?_⟩,trivial⟩⟩,⟨?_,?_,?_,?_,Fs ⟨⟨?_,?_,?_⟩,⟨?_,?_,?_⟩,trivial⟩⟩,⟨?_,?_,?_,?_,Fs ⟨⟨?_,?_,?_⟩,trivial⟩⟩,trivial⟩
 all_goals first|exact c|rfl|(simp;done)|decide
theorem Ca(h:mN s):dK s=0/\s.tables≠[]:=by
 obtain⟨f,n,id,g,j,o,u,c,rfl⟩:=h.ex;refine⟨aXZ bk (λt d=>?_) g bk (aAQ (XP c) n),λe=>?_⟩
 .have d:=mem_of_mem_take d;simp only[tZ,mem_cons,not_mem_nil,or_false]at d
  grind
 .have:=congrArg List.length e;simp[tZ]at this;omega
theorem BY(h:mN s){t:sZ}(d:t∈s.tables):1<=t.key/\1<=t.columns.length/\t.columns.length<=4/\∀c∈t.columns,KOk c.kind:=by
 obtain⟨g,n,id,o,u,y,z,f,rfl⟩:=h.ex;have j:KOk id:=by rcases f with rfl|rfl;exact .inr (.inl rfl);exact .inr (.inr rfl)
 have d:=mem_of_mem_take d;simp only[tZ,mem_cons,not_mem_nil,or_false]at d;rcases d with rfl|rfl|rfl|rfl
 all_goals
  refine⟨bf,bf,bf,λc e=>?_⟩;simp only[mem_cons,not_mem_nil,or_false]at e
 .rcases e with rfl|rfl<;>exact .inr (.inl rfl)
 .rcases e with rfl|rfl|rfl|rfl
  .exact j
  .exact .inr (.inl rfl)
  .exact .inr (.inr rfl)
  .exact .inl rfl
 .rcases e with rfl|rfl<;>exact .inr (.inl rfl)
 grind
theorem XO(h:mN s):cdQ s:=λt k d=>by
 unfold dT at d;split at d
 .simp at d
 .split at d
  .simp at d
  .rename_i g e;obtain⟨c,f,rfl⟩:=mem_map.1 d;exact(BY h (bx e)).2.2.2 c f
def bwJ:Vc.Spec:=λc m h K=>c=[]/\iL m/\K (cB true) m h
def a6Z(n:Int)(m:MH)(h:PH)(K:dc):Prop:=
  K (nS (Ci 4 n)) m h
theorem aKJ:cu 23 apJ:=by
 refine iB func23 ?_;rintro c m h K ⟨n,rfl,d⟩;refine⟨dD [] [] [] [] false,rfl,aF,a6Z n m h K,be,?_⟩;exact d
theorem Vi{k:dd}(c:dK s=0)(h:wK q=true)(d:cJ s [] q=(k,0)):eG s [] q=(k,0):=by
 unfold eG
 grind
def B0(n:Int):VV:=⟨4,n,⟨#[]⟩⟩
theorem T6(a b:Int):W4 (B0 a) (B0 b)=(a==b):=by simp[W4,B0]
theorem HF(key:Int)(i:Nat)(n c:Int):zW key 4 i (B0 n)=true/\AT c key 4 i (B0 n)=true:=by simp[zW,AT,B0,XF]
def gS:j4:=⟨0,[⟨⟨⟨[116,97,115,107,115]⟩⟩,[⟨⟨⟨[105,100]⟩⟩,4⟩,⟨⟨⟨[116,105,116,108,101]⟩⟩,4⟩,⟨⟨⟨[115,97,108,97,114,121]⟩⟩,4⟩],1,[],[]⟩]⟩
def bYZ:Query:=.mk 1 0 iO [] [] [] [] 0 []
def gQ:Query:=.mk 3 0 iO [0] [] [] [] 0 [bYZ]
def Cn:lR:=⟨2,0,[1],gQ⟩
def pG(x y:Int):de:=[B0 1,B0 x,B0 y]
theorem aeZ:dK gS=0:=aXZ bg (λt c=>by simp[gS]at c;grind) bg bg (by
 refine Fs ⟨⟨?_,?_,?_,?_,Fs ⟨⟨?_,?_,?_⟩,⟨?_,?_,?_⟩,⟨?_,?_,?_⟩,trivial⟩⟩,trivial⟩
 all_goals first|rfl|(simp;done)|decide)
theorem a3Q:cJ gS [] gQ=([4],0):=by
 have e:dT gS 0=[4,4,4]:=rfl
 have h:cJ gS [] bYZ=([4,4,4],0):=by
  have:=IE (s:=gS) (ps:=[]) (t:=0) bg bg bk;rw[e]at this;exact this
 exact DM h bg bg bg
theorem bYJ:eG gS [] gQ=([4],0):=Vi aeZ (by rfl) a3Q
theorem aeJ:gP [] gQ=gQ:=by rfl
theorem b8J(x y:Int):xE gS [[pG x y]]=0:=by
 unfold xE;rw[if_neg (by simp[aeZ]),if_neg bf,if_neg (by simp[gS]),if_pos];intro i t l c d
 match i,c,d with
 |0,c,d=>
  simp[gS]at c;simp at d;subst c d;refine⟨λr f=>?_,λi r j n g=>by simp at g⟩;simp at f;subst f;refine AU.2 ⟨rfl,λi e=>?_⟩
  match i,e with
  |0,_=>exact(HF 1 0 1 1).1
  |1,_=>exact(HF 1 1 x 1).1
  |2,_=>exact(HF 1 2 y 1).1
  |i+3,e=>simp[pG]at e;omega
 |i+1,c,d=>grind
theorem VQ(x y:Int):rR 1 gS 0 (pG x y)=true:=by
 rw[zX (tb:=gS.tables.getD 0 ⟨⟨#[]⟩,[],0,[],[]⟩) rfl bg];refine jF.2 ⟨rfl,λi c=>?_⟩
 match i,c with
 |0,_=>exact(HF 1 0 1 1).2
 |1,_=>exact(HF 1 1 x 1).2
 |2,_=>exact(HF 1 2 y 1).2
 |i+3,c=>simp[pG]at c;omega
theorem bCX(x y:Int):wJ 1 gS [[pG x y]]=0:=by
 unfold wJ;rw[if_neg (by simp[aeZ]),if_neg bf,if_neg (by simp[gS]),if_pos];intro i t l c d
 match i,c,d with
 |0,c,d=>
  simp[gS]at c;simp at d;subst c d;refine⟨λr e=>?_,λi r g j f=>by simp at f⟩;simp at e;subst e;have:=VQ x y;rw[zX (tb:=gS.tables.getD 0 ⟨⟨#[]⟩,[],0,[],[]⟩) rfl bg]at this;exact this
 |i+1,c,d=>grind
theorem cfZ(x y:Int):OD [[pG x y]] gQ=[[B0 1]]:=by rfl
theorem M8(x y:Int):rM gS [[pG x y]] (gP [] gQ)=([[B0 1]],0):=by
 unfold rM;rw[aeJ,bYJ,if_neg bf,if_neg (by simp[b8J]),cfZ]
def gC(x y:Int):tD:=⟨0,pG 2 3,pG x y⟩
theorem cgQ(x y:Int):AY 1 gS (gC x y)=true:=by
 simp only[AY,gC,VQ,Bool.or_true,Bool.and_true];rfl
theorem b9Z(x y:Int):yZ 1 gS [[pG 2 3]] [gC x y]=([[pG x y]],0):=by
 unfold yZ;rw[if_neg (by simp[bCX]),qH,if_neg (by rw[cgQ];decide)];rw[show lO gS ([[pG 2 3]].getD (gC x y).tab.toNat []) (gC x y)=some [pG x y]from rfl];rfl
theorem cfJ:zL gS [] [Cn]=0:=by
 have d:rI gS Cn=true:=bg
 have c:jC gS [] Cn=0:=by
  unfold jC;rw[if_neg bk,show Cn.query=gQ from rfl,bYJ,if_neg bf];exact if_pos rfl
 unfold zL;rw[if_neg (by simp[aeZ]),if_neg bf,if_neg bf];show lM [jC gS [] Cn]=0;rw[c];rfl
theorem VP{x y:Int}(hx:H7 x)(f:H7 y):StV [[pG x y]]:=λl c r d v e=>by
 simp at c;subst c;simp at d;subst d;simp[pG]at e;rcases e with rfl|rfl|rfl
 .exact⟨by constructor<;>decide,by constructor<;>decide⟩
 .exact⟨⟨by show _<=(4:Int);decide,by show(4:Int)<=_;decide⟩,hx⟩
 .exact⟨⟨by show _<=(4:Int);decide,by show(4:Int)<=_;decide⟩,f⟩
theorem bYX(x y:Int):Qz [[pG x y]] (gP [] gQ):=⟨1,bg,λl c=>bk,by rw[aeJ];decide⟩
theorem bYQ{x y:Int}(hx:H7 x)(g:H7 y):tX gS [] [Cn] [] [[pG 2 3]] [[pG x y]] [gC x y]:=by
 have d:nA [[B0 1]]:=pairwise_singleton _ _;refine⟨cfJ,by rfl,b9Z x y,λr e _=>?_,λr e _=>?_,VP hx g,bf,λc f=>?_,bf⟩
 .simp at e;subst e;show(rM gS [[pG 2 3]] (gP [] gQ)).2=0/\_;refine⟨by rw[M8],?_,?_,bYX 2 3⟩
  .show nA (rM gS [[pG 2 3]] (gP [] gQ)).1;rw[M8];exact d
  .show(rM gS [[pG 2 3]] (gP [] gQ)).1.length<=_;rw[M8];simp
 .simp at e;subst e;show(rM gS [[pG x y]] (gP [] gQ)).2=0/\_;refine⟨by rw[M8],?_,?_,bYX x y⟩
  .show nA (rM gS [[pG x y]] (gP [] gQ)).1;rw[M8];exact d
  .show(rM gS [[pG x y]] (gP [] gQ)).1.length<=_;rw[M8];simp
 .simp at f;subst f;exact⟨by simp[gC,pG],by simp[gC,pG],λ_ _=>by simp[gC,pG]⟩
theorem clX(x y:Int):pI gS [] [[pG 2 3]] [[pG x y]] [gC x y] [Cn] 0=[⟨[1],[[B0 1]],[[B0 1]]⟩]:=by
 unfold pI;rw[show[Cn].filter (λr=>r.kind==2&&sM [gC x y] r.table&&r.table==0)=[Cn]from rfl];show[(⟨[1],(rM gS [[pG 2 3]] (gP [] gQ)).1,(rM gS [[pG x y]] (gP [] gQ)).1⟩:Wr)]=_;rw[M8,M8]
theorem a2J(x y:Int):vH gS (pI gS [] [[pG 2 3]] [[pG x y]] [gC x y] [Cn]) [gC x y] 0=if y=3 then[]else[⟨0,false,0,[B0 1],2⟩,⟨0,true,0,[B0 1],2⟩]:=by
 rw[vH,vH,append_nil,show(gC x y).tab=0 from rfl,clX];have c:yS gS (gC x y)=[B0 1]:=rfl;unfold P4;rw[if_neg (by simp[gC,pG]),if_neg (by simp[gC,pG]),c];have f:∀a,kO [⟨[1],[[B0 1]],[[B0 1]]⟩] [B0 1] a 1=true:=λa=>by cases a<;>rfl
 have g:∀a,kO [⟨[1],[[B0 1]],[[B0 1]]⟩] [B0 1] a 2=false:=λa=>by cases a<;>rfl
 show(List.range 3).flatMap _=_;rw[show List.range 3=[0,1,2]from rfl];simp only[flatMap_cons,flatMap_nil,append_nil];rw[show(gC x y).old.getD 0 zeroV=B0 1 from rfl,show(gC x y).new.getD 0 zeroV=B0 1 from rfl,show(gC x y).old.getD 1 zeroV=B0 2 from rfl,show(gC x y).new.getD 1 zeroV=B0 x from rfl,show(gC x y).old.getD 2 zeroV=B0 3 from rfl,show(gC x y).new.getD 2 zeroV=B0 y from rfl,T6,T6,T6]
 have d:∀(p:Prop)[Decidable p](A:fe),A=[]->(if p then[]else A)=[]:=λp _ A h=>by
  grind
 rw[if_pos bf,nil_append,d _ _ (by rfl),nil_append];by_cases e:y=3
 .grind
 .rw[if_neg bk,if_neg e];rfl
theorem ayQ{c:dd}{ps:de}(h:nW c ps=true):ps.length=c.length/\∀i,i<ps.length->mF (ps.getD i zeroV)=true/\(ps.getD i zeroV).kind=c.getD i 0:=by
 simp only[nW,cg,cm,all_eq_true,mem_range,beq_iff_eq]at h;exact h
theorem Rh{cols c:dd}{ps:de}{o:OV}(h:nW c ps=true)(f:kindOf cols c o≠0):kindOf cols [] (mM ps o)=kindOf cols c o:=by
 obtain⟨y,j⟩:=ayQ h;by_cases d:o.kind=2
 .have e:kindOf cols c o=sK c o:=by simp[kindOf,d]
  rw[e]at f⊢
  unfold sK at f⊢
  split at f
  .omega
  rename_i g;simp only[Bool.or_eq_true,cm,not_or,Int.not_lt,ge_iff_le,Int.not_le]at g;obtain⟨⟨n,z⟩,A⟩:=g;have t:o.index.toNat<ps.length:=by omega
  obtain⟨B,u⟩:=j _ t;rw[if_neg bk];have e:mM ps o=⟨3,0,ps.getD o.index.toNat zeroV⟩:=if_pos ⟨d,n,aC⟩;rw[e, <-u];unfold kindOf
  grind
 .have e:mM ps o=o:=if_neg λh=>d h.1;rw[e];simp[kindOf,d]
theorem OM{ps:de}{c:Int}{l r:OV}(h:Iw c l r=true):Iw c (mM ps l) (mM ps r)=true:=by
 have h':=h;simp only[Iw,eqO,cg,beq_iff_eq]at h';have d:l.kind=0:=h'.1.2.1;have e:r.kind=0:=h'.2.1;have f:mM ps l=l:=if_neg λh=>by omega
 have g:mM ps r=r:=if_neg λh=>by omega
 grind
theorem Qc(ps:de):∀l:dr,(zZ ps l).length=l.length
 |[]=>rfl
 |p::l=>by simp[zZ,Qc ps l]
mutual
theorem MU(ps:de):∀(p:Pred)(n:Int),nE (yY ps p) n=nE p n
 |.mk _ _ _ _ args,n=>by simp only[yY,nE];exact Ju ps args (n+1)
theorem Ju(ps:de):∀(l:dr)(n:Int),kF (zZ ps l) n=kF l n
 |[],n=>rfl
 |p::l,n=>by simp only[zZ,kF,MU ps p n,Ju ps l]
end
mutual
theorem KW(ps:de):∀(p:Pred)(n:Nat),lH (yY ps p) n=lH p n
 |.mk _ _ _ _ args,0=>rfl
 |.mk _ _ _ _ args,n+1=>by simp only[yY,lH];exact Ih ps args n
theorem Ih(ps:de):∀(l:dr)(n:Nat),qF (zZ ps l) n=qF l n
 |[],n=>rfl
 |p::l,n=>by simp only[zZ,qF,KW ps p n,Ih ps l n]
end
mutual
theorem MF{cols f:dd}{ps:de}(h:nW f ps=true):∀p:Pred,kE cols f p=true->kE cols [] (yY ps p)=true
 |.mk op g l r args,e=>by
  simp only[yY,kE]at e⊢
  rw[Qc];split at e
  .rename_i c;rw[if_pos c];rw[cg]at e⊢
   exact⟨OM e.1,e.2⟩
  rename_i c;rw[if_neg c];split at e
  .rename_i d;rw[if_pos d];simp only[cg,bne_iff_ne,beq_iff_eq]at e⊢
   obtain⟨⟨o,j⟩,t⟩:=e;rw[Rh h j,Rh h aC]
   grind
  rename_i d;rw[if_neg d];split at e
  .rename_i n;rw[if_pos n];rw[cg]at e⊢
   exact⟨OM e.1,I6 h args e.2⟩
  .cases e
theorem I6{cols c:dd}{ps:de}(h:nW c ps=true):∀l:dr,Ac cols c l=true->Ac cols [] (zZ ps l)=true
 |[],_=>rfl
 |p::l,e=>by
  simp only[zZ,Ac,cg]at e⊢
  exact⟨MF h p e.1,I6 h l e.2⟩
end
theorem Tz{cols c:dd}{ps:de}(h:nW c ps=true)(e:jD cols c w=0):jD cols [] (yY ps w)=0:=by
 unfold jD at e⊢
 split at e
 .cases e
 rename_i d;simp only[Bool.or_eq_true,Bool.not_eq_true',not_or,Bool.not_eq_false]at d;rw[if_neg (by simp[d.1])];rw[MU,KW];split at e
 .cases e
 rename_i g;rw[if_neg g];split at e
 .cases e
 rename_i f;simp only[Bool.not_eq_true',Bool.not_eq_false]at f;rw[if_neg (by simp[MF h w f])]
theorem UO{ps:de}{op:Int}{on:di}{args c:dl}(h:eT (.mk op ta w co on gr od li args)):eT (.mk op ta (yY ps w) co on gr od li c):=by
 obtain⟨d,f,g⟩:=h;exact⟨d,f.imp id λe=>by rw[e];rfl,g⟩
theorem ayX{f:dd}{ps:de}{op:Int}{ks b:dd}{on:di}{args c:dl}(h:nW f ps=true)(e:kB s f (.mk op ta w co on gr od li args) a b=(ks,0)):kB s [] (.mk op ta (yY ps w) co on gr od li c) a b=(ks,0):=by
 unfold kB at e⊢
 dsimp only at e⊢
 split at e
 .simp[kV]at e
 rename_i d;rw[not_or,Classical.not_not]at d;rw[if_neg (not_or.2 ⟨d.1,Classical.not_not.2 (UO d.2)⟩)];by_cases j:op=2
 .subst j;rw[if_neg bg,if_pos rfl]at e⊢
  split at e
  .rename_i g;rw[if_pos (Tz h g)];exact e
  .rename_i g;simp only[kV,Prod.mk.injEq]at e;omega
 grind
mutual
theorem MZ{s:j4}{c:dd}{ps:de}(h:nW c ps=true):∀(q:Query){ks:dd},cJ s c q=(ks,0)->cJ s [] (gP ps q)=(ks,0)
 |.mk op ta w co on gr od li args,ks,e=>by
  simp only[gP,cJ]at e⊢
  cases d:fX s c args with
  |mk l j=>
   rw[d]at e;dsimp only at e;split at e
   .rename_i f;subst f;rw[Ky h args d];dsimp only;rw[if_pos rfl];split at e
    .rename_i g;rw[if_pos g];exact ayX h e
    grind
   .rename_i f;simp only[kV,Prod.mk.injEq]at e;omega
theorem Ky{s:j4}{d:dd}{ps:de}(h:nW d ps=true):∀(c:dl){l:List dd},fX s d c=(l,0)->fX s [] (vI ps c)=(l,0)
 |[],l,e=>by simpa[fX,vI]using e
 |q::c,l,e=>by
  simp only[vI,fX]at e⊢
  cases f:cJ s d q with
  |mk k o=>
   rw[f]at e;dsimp only at e;split at e
   .rename_i j;subst j;rw[MZ h q f];dsimp only;rw[if_pos rfl];cases g:fX s d c with
    |mk t u=>
     rw[g]at e;dsimp only at e;split at e
     .rename_i n;subst n;rw[Ky h c g];simpa using e
     grind
   grind
end
mutual
theorem MR(ps:de):∀(p:Query)(n:Int),nD (gP ps p) n=nD p n
 |.mk _ _ _ _ _ _ _ _ args,n=>by simp only[gP,nD];exact Jt ps args (n+1)
theorem Jt(ps:de):∀(l:dl)(n:Int),jZ (vI ps l) n=jZ l n
 |[],n=>rfl
 |p::l,n=>by simp only[vI,jZ,MR ps p n,Jt ps l]
end
mutual
theorem KT(ps:de):∀(p:Query)(n:Nat),oV (gP ps p) n=oV p n
 |.mk _ _ _ _ _ _ _ _ args,0=>rfl
 |.mk _ _ _ _ _ _ _ _ args,n+1=>by simp only[gP,oV];exact Ig ps args n
theorem Ig(ps:de):∀(l:dl)(n:Nat),tO (vI ps l) n=tO l n
 |[],n=>rfl
 |p::l,n=>by simp only[vI,tO,KT ps p n,Ig ps l n]
end
mutual
theorem Mu(ps:de)(c:Nat):∀p:Query,rW c (gP ps p)=rW c p
 |.mk op _ _ _ _ _ _ _ args=>by simp only[gP,rW,Ov ps c args,MO ps c args]
theorem Ov(ps:de)(c:Nat):∀l:dl,AM c (vI ps l)=AM c l
 |[]=>rfl
 |p::l=>by simp only[vI,AM,Mu ps c p,Ov ps c l]
theorem MO(ps:de)(c:Nat):∀l:dl,wN c (vI ps l)=wN c l
 |[]=>rfl
 |p::l=>by simp only[vI,wN,Mu ps c p,MO ps c l]
end
theorem XM{c ks:dd}{ps:de}(h:nW c ps=true)(e:eG s c q=(ks,0)):eG s [] (gP ps q)=(ks,0)/\cJ s [] (gP ps q)=(ks,0):=by
 unfold eG at e;split at e
 .rename_i d;split at e
  .split at e
   .rename_i g;have f:=MZ h q e;refine⟨Vi d ?_ f,f⟩;unfold wK;rw[MR,KT];exact g
   .simp[kV]at e
  .simp[kV]at e
 .rename_i d;simp only[kV,Prod.mk.injEq]at e;omega
def alZ(rs d:List lR):Prop:=∀r∈rs,∃e∈d,e.kind=r.kind/\e.table=r.table/\e.query=r.query/\∀c∈r.cols,c∈e.cols
theorem Vy{ps:de}{st st2:List cw}{cs:List tD}{rs c:List lR}{t d:Int}{key:de}{a:Bool}(h:alZ rs c)(e:kO (pI s ps st st2 cs rs t) key a d=true):kO (pI s ps st st2 cs c t) key a d=true:=by
 unfold kO pI at e⊢
 rw[any_eq_true]at e⊢
 obtain⟨w,j,e⟩:=e;obtain⟨r,f,rfl⟩:=mem_map.1 j;obtain⟨f,n⟩:=mem_filter.1 f;obtain⟨o,g,u,y,z,A⟩:=h r f;refine⟨_,mem_map_of_mem (mem_filter.2 ⟨g,bk⟩),?_⟩
 grind
theorem M9{α β:Type}{f g:α->List β}(h:∀x,(f x).Sublist (g x)):∀l:List α,(l.flatMap f).Sublist (l.flatMap g)
 |[]=>List.Sublist.refl _
 |x::l=>by rw[flatMap_cons,flatMap_cons];exact(h x).append (M9 h l)
theorem Fx{α:Type}{p q:α->Bool}(h:∀x,p x=true->q x=true):∀l:List α,(l.filter p).Sublist (l.filter q)
 |[]=>List.Sublist.refl _
 |x::l=>by
  by_cases c:p x=true
  .rw[filter_cons_of_pos c,filter_cons_of_pos (h x c)];exact(Fx h l).cons_cons x
  .rw[filter_cons_of_neg c];by_cases d:q x=true
   .rw[filter_cons_of_pos d];exact(Fx h l).cons x
   .rw[filter_cons_of_neg d];exact Fx h l
theorem blJ{n o:fb}{i:Int}{c:tD}(h:∀key a f,kO n key a f=true->kO o key a f=true):(P4 s o i c).Sublist (P4 s n i c):=by
 have one:∀(p q:Bool)(d:Den),(p=true->q=true)->(if q=true then[]else[d]).Sublist (if p=true then[]else[d]):=λp q d g=>by
  by_cases t:p=true
  .rw[if_pos (g t)];exact nil_sublist _
  .rw[if_neg t];split
   .exact nil_sublist _
   .exact List.Sublist.refl _
 unfold P4;split
 .exact one _ _ _ (h _ _ _)
 split
 .exact one _ _ _ (h _ _ _)
 refine M9 (λj=>?_) _;split
 .exact List.Sublist.refl _
 .refine List.Sublist.map _ (Fx (λa u=>?_) _);rw[Bool.not_eq_true',Bool.eq_false_iff]at u⊢
  exactλe=>u (h _ _ _ e)
theorem W9{s:j4}{e f:Int->fb}(h:∀t key a d,kO (e t) key a d=true->kO (f t) key a d=true):∀(cs:List tD)(i:Nat),(vH s f cs i).Sublist (vH s e cs i)
 |[],_=>List.Sublist.refl _
 |c::cs,i=>by rw[vH,vH];exact(blJ (h c.tab)).append (W9 h cs (i+1))
theorem auX{s:j4}{ps:de}{st st2:List cw}{cs:List tD}{rs c:List lR}(h:alZ rs c):(vH s (pI s ps st st2 cs c) cs 0).Sublist (vH s (pI s ps st st2 cs rs) cs 0):=W9 (λ_ _ _ _ e=>Vy h e) cs 0
theorem XD{ps:de}{st st2:List cw}{cs:List tD}{rs:List lR}:pI s ps st st2 cs (rs.filter λr=>r.kind==2)=pI s ps st st2 cs rs:=by
 funext t;unfold pI;rw[filter_filter];congr 1;refine filter_congr λr _=>?_;cases r.kind==2<;>simp
theorem aWJ{α:Type}{d x:α}{l r:List α}(h:(d::r).Sublist (x::l))(c:x≠d):(d::r).Sublist l:=by
 cases h with
 |cons _ h=>exact h
 |cons_cons _ h=>exact absurd rfl c
theorem aWZ{α:Type}{d:α}{l r:List α}(h:(d::r).Sublist (d::l)):r.Sublist l:=cons_sublist_cons.1 h
theorem XN{f:dd}{rs:List lR}:zL s f rs=0↔dK s=0/\rs.length<=16/\f.length<=8/\f.all cX=true/\∀r∈rs,jC s f r=0:=by
 have n:∀l:dd,lM l=0↔∀e∈l,e=0:=λl=>⟨λh=>by
  induction l with
  |nil=>intro e c;cases c
  |cons x l t=>
   rw[lM]at h;split at h
   .rename_i g;intro e c;rcases mem_cons.1 c with rfl|c
    .exact g
    .exact t h e c
   .rename_i g;exact absurd h g,vU l⟩
 unfold zL;constructor
 .intro h;split at h
  .rename_i d;exact absurd h d
  rename_i d;split at h
  .cases h
  rename_i u;split at h
  .cases h
  rename_i o;refine⟨Classical.not_not.1 d,aC,aC,br o,λr j=>(n _).1 h _ (mem_map_of_mem j)⟩
 .rintro⟨d,u,o,y,z⟩;rw[if_neg (by simp[d]),if_neg aC,if_neg (by simp[y])];refine(n _).2 λe c=>?_;obtain⟨r,j,rfl⟩:=mem_map.1 c;exact z r j
theorem AP{e:dd}{r:lR}:jC s e r=0↔rI s r=true/\eG s e r.query=(jL s r.table,0):=by
 unfold jC;constructor
 .intro h;split at h
  .cases h
  rename_i d;split at h
  .rename_i c;exact absurd h c
  rename_i c;split at h
  .rename_i f;exact⟨br d,Prod.ext f (Classical.not_not.1 c)⟩
  .cases h
 .rintro⟨d,c⟩;rw[if_neg (by simp[d]),c,if_neg bf];exact if_pos rfl
theorem U8{g ks:dd}{ps:de}{st:List cw}{c:Nat}(o:nW g ps=true)(t:eG s g q=(ks,0))(h:xE s st=0)(u:StV st)(j:∀l∈st,l.length<=c)(n:1<=c)(d:rW c q<=8000000):
 (rM s st (gP ps q)).2=0/\nA (rM s st (gP ps q)).1/\(rM s st (gP ps q)).1.length<=8000000/\Qz st (gP ps q):=by
 obtain⟨y,z⟩:=XM o t;have d:rW c (gP ps q)<=8000000:=by rw[Mu];exact d
 obtain⟨_,_,f,len⟩:=aXX h u j n z d
 have e:rM s st (gP ps q)=(OD st (gP ps q),0):=by
  unfold rM;rw[y,if_neg bf,if_neg (by rw[h];decide)]
 rw[e];exact⟨rfl,f.srt,len,c,n,j,d⟩
structure Up(s:j4)(st:List cw):Prop where
 len:st.length=s.tables.length
 few:∀l∈st,l.length<=4
 ok:Lj s st
 val:StV st
theorem dE.iceB{j:MH}{hx:PH}{r:CV}{tb:Nat}{d:Array Value}{E:TypeId}(f:j tb=some (.cells d E (0,0)))(le:PH.le h hx)(t:∀n,PH.le hx n->(∀i,n tb i=d[i]?)->K r (λb=>if b=tb then none else j b) n):dE h K r j hx:=by
 intro g;have u:∀i,hx tb i=none:=g tb _ f
 have c:PH.le hx (λx i=>if x=tb then d[i]? else hx x i):=⟨λx i v e=>by
  grind⟩
 refine⟨_,_,λb o e=>?_,le.trans c,λx i v e=>?_,t _ c (λi=>bf)⟩
 .grind
 grind
structure TSt(h:PH)(s:j4)(m:MH)(tb:Nat)(us:dk)(st:List cw):Prop where
 tbl:GF m tb us
 ulen:us.length=s.tables.length
 slen:st.length=s.tables.length
 rows:∀(j:Nat) u l,us[j]? =some u->st[j]? =some l->Rows h u l
 ok:Lj s st
 val:StV st
 few:∀l∈st,l.length<=4
theorem TSt.mono{tb:Nat}{us:dk}{st:List cw}(x:TSt h s m tb us st)(le:PH.le h h')(e:m' tb=m tb):TSt h' s m' tb us st:=by
 obtain⟨c,n,d,f⟩:=x.tbl;exact⟨⟨c,bk,d,f⟩,x.ulen,x.slen,λj u l a b=>bC.mono (x.rows j u l a b) le λr t g=>bO.mono g le,x.ok,x.val,x.few⟩
theorem afJ{t:sZ}{r:de}(h:H8 t.key (t.columns.map lD.kind) r):FV t r=true:=by
 obtain⟨c,_,d⟩:=h;rw[length_map]at c;refine AU.2 ⟨c,λi e=>?_⟩
 grind
theorem VS{key k:Int}{v:VV}(h:zW key k i v=true)(c:GD v):H7 v.kind/\H7 v.int:=by
 simp only[zW,cg]at h;have:=MD h.1;exact⟨⟨aC,aC⟩,c.int_⟩
theorem TSt.put{tb t:Nat}{us:dk}{st:List cw}{B:Sl}{c:sZ}{l:cw}{row:de}(x:TSt h s m tb us st)(le:PH.le h h')(H:s.tables[t]? =some c)(C:st[t]? =some l)(L:GF m' tb (us.set t B))(g:Rows h' B (qO c (dU c row) row false l))(A:H8 c.key (c.columns.map lD.kind) row)(R:l.length<=3):
 TSt h' s m' tb (us.set t B) (st.set t (qO c (dU c row) row false l)):=by
 have D:=afJ A;have E:=(bt C);have y:=x.ok t c l H C;refine⟨L,by rw[length_set];exact x.ulen,by rw[length_set];exact x.slen,λj u n I f=>?_,λj M n o f=>?_,λn f=>?_,λn f=>?_⟩
 .by_cases e:t=j
  .grind
  .rw[getElem?_set_ne e]at I f;exact bC.mono (x.rows j u n I f) le λr t z=>bO.mono z le
 .by_cases e:t=j
  .subst e;rw[getElem?_set_self E]at f;rw[H]at o;cases f;cases o;refine⟨λr g=>?_,λi r O P Q=>(OL (Lf.of y.2)).adj i r O P Q⟩;rcases CK g with rfl|g
   .exact D
   .exact y.1 r g
  .rw[getElem?_set_ne e]at f;exact x.ok j M n o f
 .rcases mem_or_eq_of_mem_set f with F|rfl
  .exact x.val n F
  .intro r g v z;rcases CK g with rfl|g
   .obtain⟨i,J,rfl⟩:=mem_iff_getElem.1 z;have G:i<(c.columns.map lD.kind).length:=by rw[<-A.1];exact J
    exact VS (A.2.2 i _ _ (bu J) (bu G)) (A.2.1 _ z)
   .exact x.val l (bx C) r g v z
 .rcases mem_or_eq_of_mem_set f with F|rfl
  .exact x.few n F
  .have:=NA (t:=c) (key:=dU c row) (row:=row) (l:=l) (d:=false)
   grind
def rP(t:sZ)(key:de)(l:cw):de:=(l.find? λr=>cN (dU t r) key==0).getD []
def K5(k:de->de)(l:cw)(key old new:de):Option cw:=
 let i:=mG k l key
 let f:=lC k l key
 if(f !=decide (0<old.length))||(f&&cN (l.getD i []) old !=0)then none
 else some (l.take i++(if 0<new.length then[new]else[])++l.drop (if f then i+1 else i))
theorem a2Z{t:sZ}{key:de}{l:cw}(h:rP t key l≠[]):rP t key l∈l/\dU t (rP t key l)=key:=by
 unfold rP at h⊢
 cases e:l.find? λr=>cN (dU t r) key==0 with
 |none=>grind
 |some r=>
  have c:=find?_some e;exact⟨mem_of_find?_eq_some e,gT.1 bk⟩
theorem Xj{t:sZ}{key old new:de}:∀{l:cw},Lf t l->(∀r∈l,r≠[])->old=rP t key l->(old≠[]\/new≠[])->K5 (dU t) l key old new=some (qO t key new (decide (new.length=0)) l)
 |[],_,_,c,d=>by
  have c:old=[]:=c;subst c;have d:=d.resolve_left λh=>h rfl;have o:0<new.length:=length_pos_iff.2 d;rw[show decide (new.length=0)=false from decide_eq_false aC];simp[K5,lC,mG,qO,o]
 |r::l,A,u,c,d=>by
  have y:=pairwise_cons.1 (show List.Pairwise _ (r::l)from A);have f:=u r (mem_cons_self ..);by_cases h:cN (dU t r) key<0
  .have g:mG (dU t) (r::l) key=mG (dU t) l key+1:=by unfold mG;grind
   have z:lC (dU t) (r::l) key=lC (dU t) l key:=by unfold lC;grind
   have e:rP t key (r::l)=rP t key l:=by unfold rP;grind
   have B:=Xj (new:=new) y.2 (λx j=>u x (mem_cons_of_mem _ j)) (c.trans e) d;rw[qO,if_neg aC,if_pos aC,show(decide (0<=cN (dU t r) key))=false from decide_eq_false aC,Bool.or_false];unfold K5 at B⊢
   grind
  .have n:∀x∈l,0<cN (dU t x) key:=λx j=>by
    have C:=y.1 x j;have G:=kL (dU t r) key;have H:=ZL (a:=key) aC C;have I:=kL key (dU t x);omega
   have g:mG (dU t) (r::l) key=0:=by
    unfold mG
    grind
   have z:lC (dU t) (r::l) key=(cN (dU t r) key==0):=by unfold lC;rw[g];simp
   have D:=Jo (row:=new) n
   have E:qO t key new (decide (new.length=0)) (r::l)=(if 0<new.length then[new]else[])++((if cN (dU t r) key≠0 then[r]else[])++l):=by
    rw[qO,show(decide (0<=cN (dU t r) key))=true from decide_eq_true aC,Bool.or_true,D]
    grind
   rw[E];unfold K5;dsimp only;rw[g,z];by_cases F:cN (dU t r) key=0
   .have e:rP t key (r::l)=r:=by unfold rP;grind
    rw[e]at c;subst c;have o:0<old.length:=length_pos_iff.2 f;rw[show(cN (dU t old) key==0)=true by simp[F]];have J:cN old old=0:=gT.2 rfl
    grind
   .have e:rP t key (r::l)=[]:=by
     unfold rP
     grind
    grind
theorem acX{t:sZ}{key:de}:∀{l:cw},(∀x∈l,x≠[])->[]∉qO t key [] true l
 |[],_,h=>by rw[qO,if_pos rfl]at h;cases h
 |r::l,c,h=>by
  rw[qO,if_neg bf,nil_append,Bool.true_or,mem_append]at h;rcases h with h|h
  .grind
  .exact acX (λx d=>c x (mem_cons_of_mem _ d)) h
structure Uq(c:Nat)(s:j4)(st:List cw):Prop where
 len:st.length=s.tables.length
 few:∀l∈st,l.length<=c
 ok:Tl 1 s st
 val:StV st
theorem clJ{key k:Int}{v:VV}(h:AT 1 key k i v=true):zW key k i v=true:=by
 simp only[AT,zW,cg,Bool.or_eq_true,beq_iff_eq,cm]at h⊢
 grind
theorem cgJ{t:sZ}{r:de}(h:qM 1 t r=true):FV t r=true:=by
 obtain⟨c,d⟩:=jF.1 h;exact AU.2 ⟨c,λi e=>clJ (d i e)⟩
theorem aWX{c:Nat}:∀{st:List cw},(∀l∈st,l.length<=c)->eD st<=(st.length:Int)*c
 |[],_=>by simp[eD]
 |l::st,h=>by
  have f:=aWX (st:=st) λx d=>h x (mem_cons_of_mem _ d);have g:=h l (mem_cons_self ..);have e:eD (l::st)=l.length+eD st:=by simp[eD]
  rw[e,cq]
  grind
theorem Uq.count{c:Nat}{st:List cw}(x:Uq c s st)(d:s.tables.length<=8):eD st<=8*(c:Int):=by
 have:=aWX x.few;rw[x.len]at this;have e:(s.tables.length:Int)*c<=8*c:=Int.mul_le_mul_of_nonneg_right aC aC;omega
theorem Uq.errM{c:Nat}{st:List cw}(x:Uq c s st)(d:dK s=0)(e:s.tables.length<=8)(g:c<=64):wJ 1 s st=0:=by
 have f:=x.count e;unfold eD at f;unfold wJ;rw[if_neg (by simp[d]),if_neg aC,if_neg (by rw[x.len];simp),if_pos x.ok]
theorem Uq.err{c:Nat}{st:List cw}(x:Uq c s st)(f:dK s=0)(g:s.tables.length<=8)(o:c<=64):xE s st=0:=by
 have j:=x.count g;unfold eD at j;unfold xE;rw[if_neg (by simp[f]),if_neg aC,if_neg (by rw[x.len];simp),if_pos (show Lj s st fromλi t l d e=>⟨λr n=>cgJ ((x.ok i t l d e).1 r n),(x.ok i t l d e).2⟩)]
theorem Uq.step{c n:Nat}{st:List cw}{t:sZ}{l:cw}{row new:de}(x:Uq c s st)(J:s.tables[n]? =some t)(L:st[n]? =some l)(X:1<=t.columns.length)(M:qM 1 t row=true)(Y:∀v∈row,H7 v.kind/\H7 v.int)(A:new=row\/(new=[]/\rP t (dU t row) l≠[])):
 AY 1 s ⟨n,rP t (dU t row) l,new⟩=true/\lO s l ⟨n,rP t (dU t row) l,new⟩=some (qO t (dU t row) new (decide (new.length=0)) l)/\Uq (c+1) s (st.set n (qO t (dU t row) new (decide (new.length=0)) l)):=by
 have g:=x.ok n t l J L;have O:=(bt L);have P:=(bt J)
 have o:∀r,qM 1 t r=true->r≠[]:=λr d e=>by
  have:=(jF.1 d).1
  grind
 have S:i7 s (n:Int)=true:=by simp[i7];exact P
 have C:∀r,qM 1 t r=true->rR 1 s (n:Int) r=true:=λr d=>by rw[zX (tb:=t) bk S];exact d
 have f:iI s (n:Int)=dU t:=funext λr=>rG J r;have Q:new=[]\/qM 1 t new=true:=A.elim (λh=>.inr (h▸M)) λh=>.inl h.1
 have D:rP t (dU t row) l=[]\/(qM 1 t (rP t (dU t row) l)=true/\dU t (rP t (dU t row) l)=dU t row):=by
  by_cases h:rP t (dU t row) l=[]
  .exact .inl h
  .obtain⟨T,U⟩:=a2Z h;exact .inr ⟨g.1 _ T,U⟩
 have E:rP t (dU t row) l≠[]\/new≠[]:=A.elim (λh=>.inr (h▸o row M)) λh=>.inl h.2
 have F:AY 1 s ⟨n,rP t (dU t row) l,new⟩=true:=by
  unfold AY;simp only[S,Bool.true_and,cg,Bool.or_eq_true,Bool.not_eq_true',beq_iff_eq,Bool.and_eq_false_iff,beq_eq_false_iff_ne];refine⟨⟨⟨E.imp (λh e=>h (length_eq_zero_iff.1 e)) λh e=>h (length_eq_zero_iff.1 e),D.imp (λh=>by rw[h];rfl) λh=>C _ h.1⟩,Q.imp (λh=>by rw[h];rfl) (C _)⟩,?_⟩;rcases D with h|h
  .grind
  rcases A with rfl|A
  .right;rw[f,h.2];exact gT.2 rfl
  grind
 have R:sJ s ⟨n,rP t (dU t row) l,new⟩=dU t row:=by
  unfold sJ;dsimp only;rw[f];split
  .grind
  grind
 have u:=Lf.of g.2
 have G:lO s l ⟨n,rP t (dU t row) l,new⟩=some (qO t (dU t row) new (decide (new.length=0)) l):=by
  have:=Xj (t:=t) (key:=dU t row) (old:=rP t (dU t row) l) (new:=new) u (λr d=>o r (g.1 r d)) rfl E;unfold lO;rw[R];dsimp only;rw[f];exact this
 have H:=IU F (by rw[f];exact u) G;rw[f]at H;refine⟨F,G,by rw[length_set];exact x.len,λy z=>?_,λj V y B z=>?_,λy z r d v I=>?_⟩
 .rcases mem_or_eq_of_mem_set z with h|rfl
  .have:=x.few y h;omega
  .have:=x.few l (bx L);omega
 .by_cases e:n=j
  .subst e;rw[getElem?_set_self O]at z;rw[J]at B;cases z;cases B;refine⟨λr d=>?_,(Lf.adj H.1)⟩;rcases A with rfl|A
   .rcases CK d with rfl|d
    .exact M
    .exact g.1 r d
   .rw[A.1]at d;rcases CK d with rfl|d
    .exact absurd d (acX (λx W=>o x (g.1 x W)))
    .exact g.1 r d
  .rw[getElem?_set_ne e]at z;exact x.ok j V y B z
 .rcases mem_or_eq_of_mem_set z with h|rfl
  .exact x.val y h r d v I
  .rcases CK d with rfl|d
   .grind
   .exact x.val l (bx L) r d v I
def La(s:j4)(st:List cw)(cs:List tD)(st2:List cw):Prop:=qH 1 s st (eD st) cs=(st2,0)
theorem Ni{g:Int}{s:j4}{c:tD}{st2:List cw}:∀{cs:List tD}{st:List cw}{n:Int},qH g s st n cs=(st2,0)->∃e,qH g s st n (cs++[c])=qH g s st2 e [c]/\(n=eD st->st.length=s.tables.length->e=eD st2/\st2.length=s.tables.length)
 |[],st,n,h=>by
  rw[qH]at h;cases h;exact⟨n,rfl,λf j=>⟨f,j⟩⟩
 |d::cs,st,n,h=>by
  rw[qH]at h;rw[cons_append,qH];split at h
  .cases h
  rename_i f;rw[if_neg f];cases o:lO s (st.getD d.tab.toNat []) d with
  |none=>grind
  |some l=>
   rw[o]at h;dsimp only at h⊢
   split at h
   .cases h
   rename_i j;rw[if_neg j];obtain⟨e,t,u⟩:=Ni h;refine⟨e,t,λy C=>u ?_ bk⟩
   have z:i7 s d.tab=true:=by
    simp only[Bool.not_eq_false,AY,cg]at f
    grind
   have A:d.tab.toNat<st.length:=by
    simp[i7]at z;omega
   have B:st[d.tab.toNat]? =some (st.getD d.tab.toNat []):=bk
   rw[count_set B,y]
theorem La.snoc{st st2:List cw}{cs:List tD}{c:tD}{n:Nat}{l d:cw}(h:La s st cs st2)(e:st.length=s.tables.length)(f:c.tab=n)(g:st2[n]? =some l)(A:AY 1 s c=true)(j:lO s l c=some d)(o:eD (st2.set n d)<=512):La s st (cs++[c]) (st2.set n d):=by
 obtain⟨B,t,u⟩:=Ni (c:=c) h;obtain⟨y,_⟩:=u rfl e;unfold La;rw[t,qH,if_neg bk];have z:st2.getD c.tab.toNat []=l:=bk
 rw[z,j];dsimp only;rw[count_set g]at o;rw[y,if_neg aC,f,Int.toNat_natCast,qH]
def cdX:Vc.Spec:=λg m h K=>∃v s c n d f u,∃t:Nat,∃e rs j o y row,g=[aS v,QO ⟨some ⟨c,0,none⟩,n,d⟩,cI t,cS j,cS y]/\dM h s v/\s.tables[t]? =some e/\GF m c f/\n=f.length/\f[t]? =some u/\Rows h u rs/\rs.length<=1000/\(∀r∈rs,r.length<=1000)/\bO h j o/\bO h y row/\row.length<=1000/\
 ∀z m' h',PH.le h h'->Rows h' z (qO e o row (decide (row.length=0)) rs)->GF m' c (f.set t z)->aT m m' c->K (QO ⟨some ⟨c,0,none⟩,n,d⟩) m' h'
def b3Q(t:sZ)(key:de)(l:cw)(k:Int):Prop:=(k= -1/\rP t key l=[])\/∃i:Nat,k=i/\l[i]? =some (rP t key l)
def b2J:Vc.Spec:=λd m h K=>∃v s g n e f u,∃t:Nat,∃c rs j o,d=[aS v,QO ⟨some ⟨g,0,none⟩,n,e⟩,cI t,cS j]/\dM h s v/\s.tables[t]? =some c/\GF m g f/\n=f.length/\f[t]? =some u/\Rows h u rs/\rs.length<=1000/\(∀r∈rs,r.length<=1000)/\bO h j o/\
 ∀k h',PH.le h h'->b3Q c o rs k->K (cI k) m h'
def cjZ:Vc.Spec:=λd m h K=>∃v s g n e f u,∃t:Nat,∃c rs j o,d=[aS v,QO ⟨some ⟨g,0,none⟩,n,e⟩,cI t,cS j]/\dM h s v/\s.tables[t]? =some c/\GF m g f/\n=f.length/\f[t]? =some u/\Rows h u rs/\rs.length<=1000/\(∀r∈rs,r.length<=1000)/\bO h j o/\
 ∀y b h',PH.le h h'->bO h' y (rP c o rs)->K (.tup [cS y,cB b]) m h'
def Xq:Vc.Spec:=λd m h K=>∃v s t,d=[aS v,cI t]/\dM h s v/\mQ s/\dT s t≠[]/\∀(b o n c:Nat) h',PH.le h h'->Ints h' ⟨some ⟨b,o,none⟩,n,c⟩ (dT s t)->K (cS ⟨some ⟨b,o,none⟩,n,c⟩) m h'
def S5:Vc.Spec:=λd m h K=>∃v s,∃t:Nat,∃c,d=[aS v,cI t]/\dM h s v/\mQ s/\s.tables[t]? =some c/\c.columns≠[]/\∀e h',PH.le h h'->Ints h' e (jL s t)->K (cS e) m h'
def aoJ:Vc.Spec:=λc m h K=>∃cb,c=[cP cb]/\aL m h cb/\∀s k m' h',0<=k->k<4->PH.le h h'->bO h' s [⟨4,k,⟨#[]⟩⟩]->aT m m' cb->aL m' h' cb->K (cS s) m' h'
def bqQ:Vc.Spec:=λc m h K=>∃x y xs d,c=[cS x,cS y]/\tU h x xs/\tU h y d/\∀r:Bool,(r=true↔xs=d)->K (cB r) m h
noncomputable def bJZ(v:bJ)(t:Nat)(c:Sl)(m:MH):Ctx:=dD [(24,Xs),(48,FQ)] [(4,{A:=Nat×Sl×PH,st:=λ⟨i,u,h⟩=>bU 47 51 [(2,iv t),(3,sv c),(4,.at (.ptr 4 0)),(31,sv u),(32,iv u.len),(33,iv i)] [(4,.cells 29 (v.enc.map .val))] m h})] [] [] false
noncomputable def bOZ(x y:Sl)(m:MH)(h:PH):Ctx:=dD [(48,FQ)] [(4,{A:=Nat,st:=λi=>bU 81 83 [(0,sv x),(1,sv y),(12,iv x.len),(13,iv i)] [] m h})] [] [] false
def We(v:bJ)(tb n cap t:Nat)(d:Sl)(m:MH)(h:PH)(K:dc):Prop:=
  mE (↑t:Int) (gY v) K (jA (Int.negSucc 0)) m h (mE (↑t:Int) (aG (Sl.mk (sT tb) n cap)) K (jA (Int.negSucc 0)) m h (bD (λb o=>aI (bF (sT tb) b o) (0<=(↑t:Int)) ((↑t:Int)<(↑n:Int)) (∃(y:Sl),aJ m h b (bB o t 1) (aM y)/\∃(I:Nat×Sl×PH->Prop)(f:Nat×Sl×PH->Nat),(∃(x:Nat×Sl×PH),aA (I x) (nM t) (aA (aH d) iC (aA (aX y x.2.1) (cD y x.2.1) (aA (bE x.1) (aU v) (dP m m h x.2.2)))))/\∀(x:Nat×Sl×PH),I x->aY (↑x.1:Int) (aG x.2.1) (dN x.2.1.a (↑x.1:Int) x.2.1 (λj u g=>aJ m x.2.2 j (bB u x.1 1) (aM g)/\EO v (↑t:Int) g x.2.2 (λs e=>xV s d e (λa z=>branch (cN a z==0) (K (jA (↑x.1:Int)) m e) (∃(c:Nat×Sl×PH),aA (I c) (f c<f x) (aA (nM t) (aH d) (aA iC (aX x.2.1
 c.2.1) (aA (cD x.2.1 c.2.1) (fJ (aW x.1 1)=bY c.1) (cF (aU v) m m e c.2.2))))))))) (K (jA (Int.negSucc 0)) m x.2.2)))))
abbrev Ke(a:bJ->j4->Nat->Nat->Nat->dk->Sl->Nat->sZ->cw->Sl->de->Prop):Prop:=Bi (λx c=>bD (λd e=>O2 (λf g=>∃(j:Sl)(n:Nat)(o:sZ)(t:cw),tH (λu y=>a x c d e f g j n o t u y))))
attribute [push_cast] Ke
def Wq(v:bJ)(tb n cap t:Nat)(E:Sl)(m:MH)(h:PH)(K:dc):Prop:=
  Ke (λg s j z c u A f B r C k=>aA (cE (dX v) (cE (E6 tb n cap) (fT (↑t:Int) (mL E)))=cE (dX g) (cE (E6 j z c) (fT (↑f:Int) (mL C)))) (dM h s g) (aA (C7 s f B) (GF m j u) (aA (z=u.length) (HD u f A) (aA (Rows h A r) (jV r.length) (aA (Al r (λF=>jT F)) (bO h C k) (∀(e:Int)(d:PH),cR h d (b3Q B k r e) (aY e 0 (K (CV.tup (qS CE aZ)) m d) (bD (λb o=>aI (bF (sT tb) b o) (0<=(↑t:Int)) ((↑t:Int)<(↑n:Int)) (∃(y:Sl),aJ m d b (bB o t 1) (aM y)/\dN y.a e y (λG H D=>aJ m d G (eM H e 1) (aM D)/\Bw D d (λI J=>K (CV.tup (fP I fB)) m J))))))))))))
def ao(v:bJ)(t:Nat)(m:MH)(h:PH)(K:dc):Prop:=
  zS (λf s e=>aA (cO (gL v) (↑t:Int)=cO (gL f) e) (dM h s f) (aA (mQ s) (jS (dT s e=[])) (∀(b o n c:Nat)(d:PH),cR h d (Ints d (Sl.mk (Option.some (Dh b o)) n c) (dT s e)) (bD (λg j=>aI (bF (mD v) g j) (0<=(↑t:Int)) ((↑t:Int)<aG v.tables) (∃(y:Int),aI (aJ m d g (bB j t 5+2) (bG y)) (0<=ite (ite (aG (Sl.mk (Option.some (Dh b o)) n c)<y) (aG (Sl.mk (Option.some (Dh b o)) n c)) y>0) (ite (aG (Sl.mk (Option.some (Dh b o)) n c)<y) (↑n:Int) y) 0) (ite (ite (aG (Sl.mk (Option.some (Dh b o)) n c)<y) (aG (Sl.mk (Option.some (Dh b o)) n c)) y>0) (ite (aG (Sl.mk (Option.some (Dh b o)) n c)<y) (↑n:Int) y) 0<=(↑c:Int)) (K (CV.val (Value.slice (Option.some (Dh b o)) (ite (ite (aG (Sl.mk (Option.some (Dh b o)) n
 c)<y) (aG (Sl.mk (Option.some (Dh b o)) n c)) y>0) (ite (aG (Sl.mk (Option.some (Dh b o)) n c)<y) (↑n:Int) y) 0).toNat c)) m d)))))))
def WV(cb:Nat)(m:MH)(h:PH)(K:dc):Prop:=
  fU cb 4 m h (λk c=>bQ h 3 (fV (Ci 4 k)) (λs d=>K (mL s) c d))
abbrev Bq(a:PH)(b c d:Nat)(e:Bool):Prop:=bA a b (bB c d 5+1) (tI e)
attribute [push_cast] Bq
def WH(x y:Sl)(m:MH)(h:PH)(K:dc):Prop:=
  branch (aG x !=aG y) (K aZ m h) (nG (λI c=>aA (I c) (aH x) (aA (aH y) (bI x) (cF (bE c) m m h h))) (λI R c=>I c->aY (↑c:Int) (aG x) (bD (λb o=>aI (bF x.a b o) (0<=(↑c:Int)) ((↑c:Int)<aG x) (∃(d:Int),aJ m h b (bB o c 5+0) (bG d)/\bD (λe f=>aI (bF y.a e f) (0<=(↑c:Int)) ((↑c:Int)<aG y) (∃(g:Int),aJ m h e (bB f c 5+0) (bG g)/\nK d g (aA (bA h b (bB o c 5+0) (bG d)) (bA h e (bB f c 5+0) (bG g)) (K aZ m h)) (bD (λj n=>aI (bF x.a j n) (0<=(↑c:Int)) ((↑c:Int)<aG x) (∃(t:Bool),aJ m h j (bB n c 5+1) (tI t)/\bD (λu z=>aI (bF y.a u z) (0<=(↑c:Int)) ((↑c:Int)<aG y) (∃(A:Bool),aJ m h u (bB z c 5+1)
 (tI A)/\branch (!(t==A)) (aA (bA h b (bB o c 5+0) (bG d)) (bA h e (bB f c 5+0) (bG g)) (aA (Bq h j n c t) (Bq h u z c A) (K aZ m h))) (bD (λB C=>aI (bF x.a B C) (0<=(↑c:Int)) ((↑c:Int)<aG x) (∃(D:Int),aJ m h B (bB C c 5+2) (bG D)/\bD (λE F=>aI (bF y.a E F) (0<=(↑c:Int)) ((↑c:Int)<aG y) (∃(G:Int),aJ m h E (bB F c 5+2) (bG G)/\nK D G (aA (bA h b (bB o c 5+0) (bG d)) (bA h e (bB f c 5+0) (bG g)) (aA (Bq h j n c t) (Bq h u z c A) (aA (bA h B (bB C c 5+2) (bG D)) (bA h E (bB F c 5+2) (bG G)) (K aZ m h)))) (bD (λH J=>aI (bF x.a H J) (0<=(↑c:Int)) ((↑c:Int)<aG x) (∃(L:Int),aJ m h H
 (bB J c 5+4) (bG L)/\bD (λM O=>aI (bF y.a M O) (0<=(↑c:Int)) ((↑c:Int)<aG y) (∃(P:Int),aJ m h M (bB O c 5+4) (bG P)/\nK L P (aA (bA h b (bB o c 5+0) (bG d)) (bA h e (bB f c 5+0) (bG g)) (aA (Bq h j n c t) (Bq h u z c A) (aA (bA h B (bB C c 5+2) (bG D)) (bA h E (bB F c 5+2) (bG G)) (aA (bA h H (bB J c 5+4) (bG L)) (bA h M (bB O c 5+4) (bG P)) (K aZ m h))))) (dN x.a (↑c:Int) x (λT U S=>aJ m h T (bB U c 5+3) (aM S)/\dN y.a (↑c:Int) y (λV W a=>aA (aJ m h V (bB W c 5+3) (aM a)) (bA h b (bB o c 5+0) (bG d)) (aA (bA h e (bB f c 5+0) (bG g)) (Bq h j n c t) (aA (Bq h u z c A)
 (bA h B (bB C c 5+2) (bG D)) (aA (bA h E (bB F c 5+2) (bG G)) (bA h H (bB J c 5+4) (bG L)) (bA h M (bB O c 5+4) (bG P)/\xV S a h (λX Y=>oF (cN X Y !=0) K m h (λQ=>aA (I Q) (R Q<R c) (aA (aH x) (aH y) (aA (bI x) (fJ (aW c 1)=bY Q) (aA (m=m) (h=h) True)))))))))))))))))))))))))))))))) (K fB m h)))
theorem GF.rd{tb t:Nat}{us:dk}{u:Sl}(x:GF m tb us)(j:us[t]? =some u):∃c:Array Value,m tb=some (.cells c 95 (0,0))/\(c.toList.drop (0+t*1)).take [eF u].length=[eF u]:=by
 obtain⟨c,f,n,o⟩:=x;have y:=(bt j)
 have d:c.toList[t]? =some (Sl.val u):=by
  have e:(c.toList.take us.length)[t]? =some (Sl.val u):=bk
  grind
 have g:=(bt d);refine⟨c,f,?_⟩;rw[Nat.zero_add,Nat.mul_one,drop_eq_getElem_cons g,(List.getElem?_eq_some_iff.1 d).2];rfl
theorem Pu:cu 30 cdX:=by
 refine iB func30 ?_;rintro b0 m h K ⟨v,s,tb,n,T,us,u,t,B,rs,sk,J,U,row,rfl,hs,V,hT,hn,hu,W,b1,a0,a1,C,h1,hK⟩;refine⟨bMQ v ⟨some ⟨tb,0,none⟩,n,T⟩ t sk U m,rfl,aD HN (aD LO (aD HM aF)),Wu v tb n T t sk U m h K,be,?_⟩;dsimp only[Wu,push_cast];obtain⟨y,L,b2,a2⟩:=hT;have b3:t<us.length:=(bt hu);have a3:=bC.slen W;have b':=bC.slen C;have b4:((U.len:Int)==0)=decide (row.length=0):=bk
 have a4:(y.toList.drop (0+t*1)).take [eF u].length=[eF u]:=by
  have D:y.toList[t]? =some (Sl.val u):=by
   have e:(y.toList.take us.length)[t]? =some (Sl.val u):=bk
   grind
  have O:=(bt D);rw[Nat.zero_add,Nat.mul_one,drop_eq_getElem_cons O,(List.getElem?_eq_some_iff.1 D).2];rfl
 refine⟨tb,0,rfl,aC,aC,u,.lent y 95 (0,0) L a4,λz=>z.2.2.2.1=u/\z.1<=rs.length/\PH.le h z.2.2.2.2/\∃out,fQ z.2.2.2.2 z.2.1 out/\out.length<=2*z.1/\out++qO B J row z.2.2.1 (rs.drop z.1)=qO B J row (decide (row.length=0)) rs,λz=>rs.length-z.1,⟨(0,[],decide (row.length=0),u,h),⟨rfl,bf,.refl _,[],fQ.nil _,bf,bf⟩,bk⟩,?_⟩;rintro⟨i,F,d,u',hx⟩ ⟨e1,hi,g,out,j,G,qE⟩;dsimp only at e1 hi g j G qE⊢
 subst e1;have X:=j.len;refine aE (λO=>?_) (λb5=>?_)
 .obtain⟨r,H⟩:=eO a3 O;have a5:=(bt H);obtain⟨b,o,w,ea,rd,hv⟩:=bC.at W H;have P:rs.drop i=r::rs.drop (i+1):=by rw[drop_eq_getElem_cons a5,(List.getElem?_eq_some_iff.1 H).2]
  rw[P,qO]at qE;refine⟨b,o,ea,aC,aC,w,.imm (rd.mono g),v,s,t,w,r,rfl,hs.mono g,bO.mono hv g,a0 r (bx H),λs' h2 A a6=>⟨s',sk,_,J,rfl,a6,bO.mono a1 (g.trans A),?_⟩⟩;rw[rG V];generalize hc:cN (dU B r) J=c at qE⊢
  refine⟨λz=>z.1=i/\z.2.2.2.1=u'/\z.2.2.2.2.1=w/\z.2.2.2.2.2.1=c/\PH.le hx z.2.2.2.2.2.2/\∃out,fQ z.2.2.2.2.2.2 z.2.1 out/\out.length<=2*i+1/\out++((if c≠0 then[r]else[])++qO B J row z.2.2.1 (rs.drop (i+1)))=qO B J row (decide (row.length=0)) rs,aE (λQ=>aB (λE=>?_) (λE=>?_)) (λQ=>?_),?_⟩
  .have E:d=false:=bk
   subst E;rw[if_pos ⟨Q,rfl⟩,show(false||decide (0<=c))=true by simp;omega]at qE;refine⟨U,row,rfl,bO.mono C (g.trans A),h1,λI R f S=>⟨bk,bk,(i,F++[I],true,u',w,c,R),⟨rfl,rfl,rfl,rfl,A.trans f,out++[row],(j.mono (A.trans f)).snoc S,bk,?_⟩,?_⟩⟩
   .grind
   .rw[cd];exact MT
  .have E:d=true:=bk
   subst E;rw[if_neg bf,Bool.true_or,nil_append]at qE;exact⟨(i,F,true,u',w,c,h2),⟨rfl,rfl,rfl,rfl,A,out,j.mono A,aC,qE⟩,MT⟩
  .rw[if_neg (λh=>Q h.1),show(d||decide (0<=c))=d by grind,nil_append]at qE;exact⟨(i,F,d,u',w,c,h2),⟨rfl,rfl,rfl,rfl,A,out,j.mono A,aC,qE⟩,MT⟩
  clear qE j G X out F;rintro⟨i',F,d,u2,w2,c2,R⟩ ⟨e2,e3,e4,e5,f,out,j,G,qE⟩;dsimp only at e2 e3 e4 e5 f j G qE⊢
  subst e2 e3 e4 e5;have X:=j.len;have hw:IntKind.i64.wrap ((i':Int)+1)=((i'+1:Nat):Int):=jG aC;refine aB (λa7=>?_) (λa7=>?_)
  .rw[if_pos bk]at qE;refine⟨bk,bk,(i'+1,F++[w2],d,u2,R),⟨rfl,aC,g.trans f,out++[r],j.snoc (bO.mono hv (g.trans f)),bk,bk⟩,aC,?_⟩;rw[hw,cd];exact MT
  .rw[if_neg bk,nil_append]at qE;refine⟨(i'+1,F,d,u2,R),⟨rfl,aC,g.trans f,out,j,aC,qE⟩,aC,?_⟩
   grind
 .have a8:i=rs.length:=by omega
  rw[a8,drop_length,qO]at qE;refine⟨λz=>PH.le h z.2/\fQ z.2 z.1 (qO B J row (decide (row.length=0)) rs),aB (λE=>?_) (λE=>?_),?_⟩
  .have E:d=false:=bk
   rw[E,if_neg bf]at qE;refine⟨U,row,rfl,bO.mono C g,h1,λI R f S=>⟨bk,bk,(F++[I],R),⟨g.trans f,by rw[<-qE];exact(j.mono f).snoc S⟩,?_⟩⟩;rw[cd];exact MT
  .have E:d=true:=bk
   rw[E,if_pos rfl,append_nil]at qE;exact⟨(F,hx),⟨g,bk⟩,MT⟩
  rintro⟨b6,R⟩ ⟨f,M⟩;dsimp only at f M⊢
  have b7:(qO B J row (decide (row.length=0)) rs).length<=rs.length+1:=cr NA bk;refine⟨tb,0,rfl,aC,aC,λI h4 Y a9=>⟨y,95,⟨L⟩,?_,λm' Z=>hK I m' h4 (f.trans Y) ((M.mono Y).rows a9 aC) ⟨_,Z.at_,?_,?_⟩ ⟨λb hb=>(Z.other b hb).symm▸rfl⟩⟩⟩
  .omega
  .have a':splice y.toList (0+((t:Int)).toNat*1) [eF I]=y.toList.set t (Sl.val I):=by
    rw[set_eq_take_append_cons_drop,if_pos bk];simp only[splice,Int.toNat_natCast,Nat.zero_add,Nat.mul_one,length_singleton,append_assoc];rfl
   grind
  .have a':splice y.toList (0+((t:Int)).toNat*1) [eF I]=y.toList.set t (Sl.val I):=by
    rw[set_eq_take_append_cons_drop,if_pos bk];simp only[splice,Int.toNat_natCast,Nat.zero_add,Nat.mul_one,length_singleton,append_assoc];rfl
   rw[a',length_set,map_set, <-a2,take_set]
theorem Ya:cu 29 Xq:=⟨xA.1,λd j m h w K⟨v,s,t,e,u,y,f,C⟩ z=>xA.2 d j m h w K ⟨v,s,t,e,u,y,λA h' le B=>by
 obtain⟨a,n,c⟩:=A;rcases B.1.row with g|⟨b,o,g,_⟩
 .exact absurd (map_eq_nil_iff.1 g) f
 grind⟩ z⟩
theorem aHZ:cu 63 b2J:=by
 refine iB func63 ?_;rintro W m h K ⟨v,s,P,n,D,us,u,t,g,rs,E,B,rfl,Q,f,X,hn,R,y,Y,F,G,S⟩;refine⟨bJZ v t E m,rfl,aD HN (aD LO aF),We v P n D t E m h K,be,?_⟩;dsimp only[We,push_cast];have Z:=Q.tables.slen;have a':=(bt f);have T:=(bt R);have H:=bC.slen y;obtain⟨I,A,J⟩:=X.rd R;refine aE (λe=>by omega) (λ_=>aE (λe=>bk) (λ_=>?_));refine⟨P,0,rfl,aC,aC,u,.lent I 95 (0,0) A J,λz=>z.2.1=u/\z.1<=rs.length/\PH.le h z.2.2/\(rs.drop z.1).find? (λr=>cN (dU g r) B==0)=rs.find? (λr=>cN (dU g r) B==0),λz=>rs.length-z.1,⟨(0,u,h),⟨rfl,bf,.refl _,bf⟩,MT⟩,?_⟩;rintro⟨i,u',hx⟩ ⟨U,hi,c,C⟩;dsimp only at U hi c C⊢
 subst U;refine aE (λL=>?_) (λa0=>S _ hx c (.inl ⟨rfl,?_⟩))
 .obtain⟨r,d⟩:=eO H L;have M:=(bt d);obtain⟨b,o,w,ea,rd,hv⟩:=bC.at y d;rw[show rs.drop i=r::rs.drop (i+1)by rw[drop_eq_getElem_cons M,(List.getElem?_eq_some_iff.1 d).2]]at C;refine⟨b,o,ea,aC,aC,w,.imm (rd.mono c),v,s,t,w,r,rfl,Q.mono c,bO.mono hv c,F r (bx d),λs' V j O=>⟨s',E,_,B,rfl,O,bO.mono G (c.trans j),?_⟩⟩;rw[rG f];refine aB (λe=>S _ V (c.trans j) (.inr ⟨i,rfl,?_⟩)) (λe=>⟨(i+1,u',V),⟨rfl,aC,c.trans j,?_⟩,aC,by rw[jG aC];exact MT⟩)
  .rw[find?_cons_of_pos (p:=λr=>cN (dU g r) B==0) e]at C;unfold rP
   grind
  grind
 .rw[show i=rs.length by omega,drop_length]at C;unfold rP
  grind
theorem aJZ:cu 32 cjZ:=by
 refine iB func32 ?_;rintro M m h K ⟨v,s,y,n,d,O,u,t,z,rs,H,P,rfl,Q,f,I,R,A,c,B,g,C,J⟩;refine⟨dD [(63,b2J),(37,Qx)] [] [] [] false,rfl,aD aHZ (aD HM aF),Wq v y n d t H m h K,be,?_⟩;dsimp only[Wq,push_cast];have L:=(bt A);have S:=bC.slen c;refine⟨v,s,y,n,d,O,u,t,z,rs,H,P,rfl,Q,f,I,R,A,c,B,g,C,λk h' le T=>?_⟩;obtain⟨D,j,E⟩:=I.rd A;rcases T with⟨rfl,e⟩|⟨i,rfl,e⟩
 .exact aE (λ_=>J bT false h' le (by rw[e];exact bC.nil _ _ _ _)) (λe=>by omega)
 .have U:=(bt e);obtain⟨b,o,w,V,rd,W⟩:=bC.at c e;exact aE (λe=>by omega) (λ_=>⟨y,0,rfl,aC,aC,u,.lent D 95 (0,0) j E,b,o,V,aC,aC,w,.imm (rd.mono le),w,_,rfl,bO.mono W le,g _ (bx e),λX Y F G=>J X true Y (le.trans F) G⟩)
theorem ccQ(d:aL m h cb)(e:∀s k m' h',0<=k->k<4->PH.le h h'->bO h' s [⟨4,k,⟨#[]⟩⟩]->aT m m' cb->aL m' h' cb->K (cS s) m' h'):WV cb m h K:=
 ⟨cb,4,rfl,d,λk m' f o g j s h' le c=>e s k m' h' f aC le ⟨⟨[⟨4,k,⟨#[]⟩⟩],c,rfl,λi x n=>⟨x,n,rfl⟩⟩,bf⟩ g (j.mono le)⟩
theorem aQQ:cu 11 aoJ:=by
 refine iB func11 ?_;rintro c m h K ⟨cb,rfl,d,e⟩;refine⟨dD [(13,FY)] [] [] [] false,rfl,aD FU aF,WV cb m h K,be,?_⟩;exact ccQ d e
theorem aNX:cu 19 bqQ:=by
 refine iB func19 ?_;rintro R m h K ⟨x,y,xs,u,rfl,G,L,M⟩;refine⟨bOZ x y m h,rfl,aD LO aF,WH x y m h K,be,?_⟩;dsimp only[WH,push_cast];have S:x.len=xs.length:=bC.slen G;have ly:y.len=u.length:=bC.slen L;have O:xs≠u->K (cB false) m h:=λP=>M false ⟨λe=>(by cases e),λe=>absurd e P⟩;refine aB (λe=>O λH=>?_) (λe=>?_)
 .grind
 have hl:xs.length=u.length:=by
  grind
 have T:=G.len;refine⟨λi=>i<=xs.length/\xs.take i=u.take i,λi=>xs.length-i,⟨0,⟨aC,bf⟩,MT⟩,?_⟩;rintro i ⟨hi,U⟩;refine aE (λI=>?_) (λV=>M true ⟨λ_=>?_,λ_=>rfl⟩)
 .obtain⟨z,Q⟩:=eO S I;obtain⟨A,H⟩:∃d,u[i]? =some d:=⟨_,bu aC⟩
  have B:z≠A->K (cB false) m h:=λP=>O λe=>bk
  obtain⟨C,D,o,c,W,g⟩:=bC.at G Q;obtain⟨E,F,t,f,X,j⟩:=bC.at L H;have P1:=λk=>bA.part W k 1;have P2:=λk=>bA.part X k 1;refine⟨C,D,c,aC,aC,o.change,.imm (P1 0),E,F,f,aC,aC,t.change,.imm (P2 0),aB (λe=>⟨P1 0,P2 0,B λn=>?_⟩) (λY=>⟨C,D,c,aC,aC,o.after,.imm (P1 1),E,F,f,aC,aC,t.after,.imm (P2 1),aB (λe=>⟨P1 0,P2 0,P1 1,P2 1,B λn=>?_⟩) (λZ=>⟨C,D,c,aC,aC,o.table,.imm (P1 2),E,F,f,aC,aC,t.table,.imm (P2 2),aB (λe=>⟨P1 0,P2 0,P1 1,P2 1,P1 2,P2 2,B λn=>?_⟩) (λn2=>⟨C,D,c,aC,aC,o.column,.imm (P1 4),E,F,f,aC,aC,t.column,.imm (P2 4),aB (λe=>⟨P1 0,P2 0,P1 1,P2 1,P1 2,P2 2,P1 4,P2 4,B λn=>?_⟩) (λn4=>⟨C,D,c,aC,aC,o.key,.imm (P1 3),E,F,f,aC,aC,t.key,.imm (P2 3),P1 0,P2 0,P1 1,P2 1,P1 2,P2 2,P1 4,P2 4,o.key,t.key,z.key,A.key,rfl,g.key_,j.key_,aB (λe=>B λn=>?_) (λJ=>?_)⟩)⟩)⟩)⟩)⟩
  .rw[g.chg_,j.chg_,n]at e;simp at e
  .rw[g.aft_,j.aft_,n]at e;simp at e
  .rw[g.tab_,j.tab_,n]at e;simp at e
  .rw[g.col_,j.col_,n]at e;simp at e
  .rw[n,gT.2 rfl]at e;simp at e
  .rw[g.chg_,j.chg_]at Y;rw[g.aft_,j.aft_]at Z;rw[g.tab_,j.tab_]at n2;rw[g.col_,j.col_]at n4;have J:cN z.key A.key=0:=bk
   have J:=gT.1 J
   have ed:z=A:=by
    cases z;cases A
    grind
   subst ed;refine⟨i+1,⟨aC,?_⟩,bk,by rw[jG aC];exact MT⟩;rw[cj,cj,Q,H,U]
 grind
theorem ay:cu 57 S5:=by
 refine iB func57 ?_;rintro F m h K ⟨v,s,t,u,rfl,z,G,g,A,H⟩;refine⟨dD [(29,Xq)] [] [] [] false,rfl,aD Ya aF,ao v t m h K,be,?_⟩;dsimp only[ao,push_cast];have R:=z.tables.slen;have B:=(bt g);have I:dT s (t:Int)=u.columns.map lD.kind:=by rw[dT,if_neg aC,Int.toNat_natCast,g]
 refine⟨v,s,t,rfl,z,G,λe=>by rw[I,map_eq_nil_iff]at e;exact A e,λb o n c J d j=>?_⟩;obtain⟨L,M,y,O,rd,P⟩:=bC.at z.tables g;have f:=P.key;have C:=j.slen;have C:n=(dT s (t:Int)).length:=C;have D:n<=c:=j.1.cap;have Q:i7 s (t:Int)=true:=by simp[i7];exact B
 refine⟨L,M,O,aC,aC,y.key,.imm ((bA.part rd 2 1).mono d),?_⟩;refine⟨aC,aC,H ⟨some ⟨b,o,none⟩,_,c⟩ J d ?_⟩
 have e:jL s (t:Int)=(dT s (t:Int)).take (if(if(n:Int)<y.key then(n:Int)else y.key)>0 then(if(n:Int)<y.key then(n:Int)else y.key)else 0).toNat:=by
  simp only[jL,Q,if_true,Int.toNat_natCast,g];rw[<-f];split
  .grind
  .rw[if_neg aC];rfl
 rw[e];have E:=bX.cut j.1 (if(if(n:Int)<y.key then(n:Int)else y.key)>0 then(if(n:Int)<y.key then(n:Int)else y.key)else 0).toNat bk;rw[<-map_take]at E;exact⟨E,by have:=j.2;grind⟩
def brZ:Vc.Spec:=λc m h K=>∃cb s t a b,c=[cP cb,cS s,cS t]/\aL m h cb/\Ints h s a/\Ints h t b/\a.length<=1000/\b.length<=1000/\
 ∀o on m' h',PH.le h h'->lF h' o on->on.length<=10->Good (zA a b) on->aT m m' cb->aL m' h' cb->K (cS o) m' h'
theorem Good.snoc{α:Type}{T:List α->α->Prop}{l:List α}{x:α}(h:Good T l)(t:T l x):Good T (l++[x]):=λj y e=>by
 rcases Nat.lt_trichotomy j l.length with c|c|c
 .rw[getElem?_append_left c]at e;rw[take_append_of_le_length aC];exact h j y e
 .grind
 grind
theorem az:cu 55 brZ:=by
 refine iB func55 ?_;rintro W m h K ⟨cb,s,t,a,b,rfl,X,M,O,l1,l2,Y⟩;refine⟨f55_ctx cb s t h,rfl,aD FU aF,ab cb s t m h K,be,?_⟩;dsimp only[ab,push_cast];have Z:=M.slen;have a':=O.slen;refine⟨cb,3,rfl,X,λk o P k1 d u=>⟨λ⟨n,on,D⟩=>0<=n/\n<=2/\(on.length:Int)<=2-n/\aT m D cb/\aL D h cb/\Good (zA a b) on,λ⟨n,_,_⟩=>n.toNat,⟨(k,[],o),⟨P,aC,bj,d,u,λj x e=>by simp at e⟩,MT⟩,?_⟩⟩;clear P k1 d u o;rintro⟨n,on,o⟩ ⟨n0,n1,a0,d,u,G⟩;dsimp only;have out:∀(g:Sl)(h':PH),PH.le h h'->bX h' g 2 (on.map qP)->K (.val (.slice g.a g.len g.cap)) o h':=λg h' z A=>Y g on o h' z ⟨A,aC⟩ aC G d (u.mono z);refine aE (λhn=>aE (λhp=>aE (λE=>?_) (λ_=>out)) (λ_=>out)) (λ_=>out);refine⟨cb,s.len,rfl,u,λx m2 Q x1 R c2=>⟨cb,t.len,rfl,c2,λy c S y1 T U=>?_⟩⟩;obtain⟨b1,f1,V,r1⟩:=M.inb (n:=x) Q aC;obtain⟨b2,f2,H,r2⟩:=O.inb (n:=y) S aC;refine⟨aC,aC,b1,f1,V,Q,aC,_,.imm r1,aC,aC,b2,f2,H,S,aC,_,.imm r2,?_⟩;have ix:Gt a x=true:=by simp[Gt];omega
 have iy:Gt b y=true:=by simp[Gt];omega
 refine⟨λ⟨n',i,I,p,f,D⟩=>n'=n/\I=on/\D=c/\i<=on.length/\p=(x,y)/\(f=true->a.getD x.toNat 0=b.getD y.toNat 0/\∀q∈on.take i,q.1≠x/\q.2≠y),λ⟨_,i,_,_,_,_⟩=>on.length-i,⟨(n,0,on,(x,y),a.getD x.toNat 0==b.getD y.toNat 0,c),⟨rfl,rfl,rfl,aC,rfl,λe=>⟨br e,λq E=>by simp at E⟩⟩,?_⟩,?_⟩
 .rw[length_map];exact MT
 rintro⟨n,i,on,p,f,c⟩ ⟨rfl,rfl,rfl,hi,rfl,J⟩;dsimp only;refine aE (λa1=>?_) (λa2=>?_)
 .have hl:i<on.length:=by omega
  have B:(on.map qP)[i]? =some (qP on[i]):=bk
  have a3:on.take (i+1)=on.take i++[on[i]]:=by rw[cj,bu hl];rfl
  have C:∀L:Bool,L=false->L=true->a.getD x.toNat 0=b.getD y.toNat 0/\∀q∈on.take (i+1),q.1≠x/\q.2≠y:=λL e H=>bk
  refine⟨aC,bk,_,B,on[i],rfl,aB (λF=>⟨aC,aC,aC,aC,aB (λV=>⟨aC,aC,aC,aC,(n,i+1,on,(x,y),_,c),⟨rfl,rfl,rfl,bo,rfl,λH=>⟨(J F).1,λq E=>?_⟩⟩,bm,MT⟩) (λ_=>⟨(n,i+1,on,(x,y),false,c),⟨rfl,rfl,rfl,bk,rfl,C _ rfl⟩,bk,MT⟩)⟩) (λ_=>⟨(n,i+1,on,(x,y),false,c),⟨rfl,rfl,rfl,bk,rfl,C _ rfl⟩,bk,MT⟩)⟩
  grind
 .have hw:IntKind.i64.wrap (n-1)=n-1:=dO aC aC;rw[hw];refine aB (λF=>⟨bk,bk,(n-1,on++[(x,y)],c),⟨aC,aC,bj,(d.trans R).trans T,U,G.snoc ⟨ix,iy,(J F).1,λq E=>(J F).2 q bk⟩⟩,aC,?_⟩) (λ_=>⟨(n-1,on,c),⟨aC,aC,bk,(d.trans R).trans T,U,G⟩,aC,MT⟩);rw[cd];exact MT
noncomputable def bPX:Ctx:=dD [(23,apJ),(16,Lc),(22,bxX)] []
 [(7,{A:=bJ×Sl×Sl×Sl×Int×MH×PH,st:=λ⟨sc,r,w,x,e,m,h⟩=>bU 105 105 [(2,.at (.ptr 2 0)),(4,.at (.ptr 4 0)),(5,.at (.ptr 5 0)),(6,sv x),(7,iv e)] [(2,.cells 29 (sc.enc.map .val)),(4,.cells 34 [.val (.slice none 0 0),.val (.slice r.a r.len r.cap)]),(5,.cells 38 [.val (.slice w.a w.len w.cap)])] m h}),
  (8,{A:=Sl×Int×Int×MH×PH,st:=λ⟨x,e,a,m,h⟩=>bU 105 105 [(6,sv x),(7,iv e),(8,iv a)] [] m h})] [] false
abbrev sP(a:PH)(b c d:Int)(e:Sl->PH->Prop):Prop:=bQ a 3 (Ci 4 b::Ci 4 c::fV (Ci 4 d)) (λx f=>e x f)
abbrev EP(a:PH)(b c:Sl)(d:Sl->PH->bJ->Prop):Prop:=bQ a 3 (fV (bH (cV 0) (eF b) (aM c))) (λx e=>∃(f:bJ),d x e f)
abbrev GS(a:PH)(b c d e g i:Int)(j k l n o:Sl)(p:Sl->Sl->Sl->Sl->PH->bJ->Prop):Prop:=sP a b c d (λx f=>sP f e g i (λt u=>bQ u 5 (fV (TE j 1)) (λy z=>bQ z 24 (fV (bH (cV 2) (cV 0) (bH (eF k) (cV 3) (lI (bH (cV 0) (cV 0) (bH (cV 0) Cz (lI (bH Cz tE (bH (eF l) tE (BQ (zE 0 (eF n)))))))))))) (λA B=>bQ B 1 (fV (aM o)) (λC D=>EP D x t (λE F G=>p y A C E F G))))))
noncomputable abbrev Fj(a:Sl):cv:=bH tE (eF a) []
noncomputable abbrev Fk(a b:Sl):du:=CE::eC (aM a) (mL b)
abbrev G8(a:PH)(b:j4)(c:de)(d e:List cw)(g:List tD)(i:List lR)(j:Sl->PH->(bJ×Sl×Sl×Sl×Int×MH×PH)->Prop):Prop:=lE (λx f=>cR a f (tU f x (vH b (pI b c d e g i) g 0)) (∃(n:bJ×Sl×Sl×Sl×Int×MH×PH),j x f n))
abbrev GU(a:bJ×Sl×Sl×Sl×Int×MH×PH->Prop)(b:bJ×Sl×Sl×Sl×Int×MH×PH)(c d e:Sl)(g:Prop):Prop:=aA (a b) gV (aA (eP 4) bS (aA (aX c b.2.2.2.1) (bV 0 b.2.2.2.2.1) (aA (oQ 29 (fZ dA (fY d))=iP b.1) (oQ 34 (fZ BV (fY e))=oQ 34 (fZ BV (fY b.2.1))) g)))
noncomputable abbrev xL(a:bJ×Sl×Sl×Sl×Int×MH×PH):MH×PH:=a.2.2.2.2.2
abbrev Ho(a:Sl)(b:bJ×Sl×Sl×Sl×Int×MH×PH)(c:MH)(d:PH):Prop:=aI (gG a b.2.2.1) (iD c (xL b)) (fI d (xL b)) True
noncomputable abbrev Hp(a:bJ×Sl×Sl×Sl×Int×MH×PH)(b:Sl):du:=cE (dX a.1) (cE (Fj a.2.1) (Fk a.2.2.1 b))
abbrev G9(a b:PH)(c:Sl×Int×Int×MH×PH->Prop)(d:bJ×Sl×Sl×Sl×Int×MH×PH)(e:(Sl×Int×Int×MH×PH)->Prop):Prop:=PH.le a b->∃(x:Sl×Int×Int×MH×PH),aA (c x) (aX d.2.2.2.1 x.1) (aA (bV d.2.2.2.2.1 x.2.1) (e x) (fM (xL d).1 x.2.2.2 b))
abbrev GV(a:j4)(b:de)(c d:List cw)(e:List tD)(g:List lR)(i:Sl×Int×Int×MH×PH):Prop:=bV (ite ((vH a (pI a b c d e g) e 0).length=0) 0 170) i.2.2.1
noncomputable abbrev wD(a:Sl×Int×Int×MH×PH):Nat->Option Obj:=a.2.2.2.1
noncomputable abbrev wE(a:Sl×Int×Int×MH×PH):Nat->Nat->Option Value:=a.2.2.2.2
attribute [push_cast] sP EP GS Fj Fk G8 GU xL Ho Hp G9 GV wD wE
def PI(m:MH)(h:PH)(K:dc):Prop:=
  bQ h 2 (qT NY 4::qT (ByteArray.mk (Array.mk (dW 116 (dW 105 (dW 116 (dW 108 (Cf 101))))))) 4::fV (qT (ByteArray.mk (Array.mk (dW 115 (dW 97 (dW 108 (dW 97 (dW 114 (dW 121 [])))))))) 4)) (λs h1=>bQ h1 1 (fV (bG 1)) (λS h2=>bQ h2 1 (fV (bG 0)) (λT h3=>bQ h3 21 (fV (bH (cV 1) (cV 0) (bH (cV 0) (cV 0) (lI (bH Cz (cV 0) (bH (cV 0) (cV 0) (bH (cV 0) Cz (Ko tE)))))))) (λU h4=>∃(n:Int),eN 1 n/\∃(X:Int),eN 2 X/\∃(Y:Int),eN 3 Y/\sP h4 n X Y (λs4 h5=>bQ h5 1 (fV (aM s4)) (λV W=>∃(I:bJ×Sl×Sl×Sl×Int×MH×PH->Prop),(∃(P:Int),eN 1 P/\∃(Q:Int),eN 2 Q/\∃(R:Int),aA (eN 3 R) (∃(O:Int),eN 1 O/\∃(L:Int),eN 5 L/\∃(D:Int),
 eN 6 D/\GS W P Q R O L D s S T U V (λE F G H e a=>jE (λp r=>qV (λB u c=>vC (λf C g=>∃(j:de)(z J:List cw)(t:List tD),aA (cE (zE 0 (eF E)) (cE (Fj F) (Fk G H))=mX a p r B u c) (dM e f a) (aA (iH e p r C g) (bO e B j) (aA (tS e u z) (pH e c t) (aA (iL m) (tX f C g j z J t) (G8 e f j z J t g (λx M d=>GU I d x E F (Ho G d m M))))))))))) (∃(O:Int),aA (eN 1 O) (∃(L:Int),eN 5 L/\∃(D:Int),eN 6 D/\GS W P Q R O L D s S T U V (λE F G H e a=>jE (λp r=>qV (λB u c=>vC (λf C g=>∃(j:de)(z J:List cw)(t:List tD),aA (cE (zE 0 (eF E)) (cE (Fj F) (Fk G
 H))=mX a p r B u c) (dM e f a) (aA (iH e p r C g) (bO e B j) (aA (tS e u z) (pH e c t) (aA (iL m) (tX f C g j z J t) (G8 e f j z J t g (λx M d=>GU I d x E F (Ho G d m M))))))))))) (∃(L:Int),aA (eN 5 L) (∃(D:Int),eN 6 D/\GS W P Q R O L D s S T U V (λE F G H e a=>jE (λp r=>qV (λB u c=>vC (λf C g=>∃(j:de)(z J:List cw)(t:List tD),aA (cE (zE 0 (eF E)) (cE (Fj F) (Fk G H))=mX a p r B u c) (dM e f a) (aA (iH e p r C g) (bO e B j) (aA (tS e u z) (pH e c t) (aA (iL m) (tX f C g j z J t) (G8 e f j z J t g (λx M d=>GU I d x E F (Ho G d m M))))))))))) (∃(D:Int),aA (eN 6 D)
 (GS W P Q R O L D s S T U V (λE F G H e a=>jE (λp r=>qV (λB u c=>vC (λf C g=>∃(j:de)(z J:List cw)(t:List tD),aA (cE (zE 0 (eF E)) (cE (Fj F) (Fk G H))=mX a p r B u c) (dM e f a) (aA (iH e p r C g) (bO e B j) (aA (tS e u z) (pH e c t) (aA (iL m) (tX f C g j z J t) (G8 e f j z J t g (λx M d=>GU I d x E F (Ho G d m M))))))))))) (GS W P Q R O L D s S T U V (λE F G H e a=>jE (λp r=>qV (λB u c=>vC (λf C g=>∃(j:de)(z J:List cw)(t:List tD),aA (cE (zE 0 (eF E)) (cE (Fj F) (Fk G H))=mX a p r B u c) (dM e f a) (aA (iH e p r C g) (bO e B j) (aA (tS e
 u z) (pH e c t) (aA (iL m) (tX f C g j z J t) (G8 e f j z J t g (λx M d=>GU I d x E F (Ho G d m M)))))))))))))))/\∀(x:bJ×Sl×Sl×Sl×Int×MH×PH),I x->∃(I1:Sl×Int×Int×MH×PH->Prop),(∃(P:Int),eN 1 P/\∃(Q:Int),eN 2 Q/\∃(R:Int),aA (eN 3 R) (∃(O:Int),eN 1 O/\∃(L:Int),eN 5 L/\∃(D:Int),eN 3 D/\sP (xL x).2 P Q R (λE e=>sP e O L D (λF M=>EP M E F (λG A H=>jE (λp r=>qV (λB a c=>vC (λu C g=>∃(j:de)(f z:List cw)(t:List tD),aA (Hp x G=mX H p r B a c) (dM A u H) (aA (iH A p r C g) (bO A B j) (aA (tS A a f) (pH A c t) (aA (iL (xL x).1) (tX u C g j f z t) (∀(J:PH),
 G9 A J I1 x (λd=>GV u j f z t g d)))))))))))) (∃(O:Int),aA (eN 1 O) (∃(L:Int),eN 5 L/\∃(D:Int),eN 3 D/\sP (xL x).2 P Q R (λE e=>sP e O L D (λF M=>EP M E F (λG A H=>jE (λp r=>qV (λB a c=>vC (λu C g=>∃(j:de)(f z:List cw)(t:List tD),aA (Hp x G=mX H p r B a c) (dM A u H) (aA (iH A p r C g) (bO A B j) (aA (tS A a f) (pH A c t) (aA (iL (xL x).1) (tX u C g j f z t) (∀(J:PH),G9 A J I1 x (λd=>GV u j f z t g d)))))))))))) (∃(L:Int),aA (eN 5 L) (∃(D:Int),eN 3 D/\sP (xL x).2 P Q R (λE e=>sP e O L D (λF M=>EP M E F (λG A H=>jE (λp r=>qV (λB a c
 =>vC (λu C g=>∃(j:de)(f z:List cw)(t:List tD),aA (Hp x G=mX H p r B a c) (dM A u H) (aA (iH A p r C g) (bO A B j) (aA (tS A a f) (pH A c t) (aA (iL (xL x).1) (tX u C g j f z t) (∀(J:PH),G9 A J I1 x (λd=>GV u j f z t g d)))))))))))) (∃(D:Int),aA (eN 3 D) (sP (xL x).2 P Q R (λE e=>sP e O L D (λF M=>EP M E F (λG A H=>jE (λp r=>qV (λB a c=>vC (λu C g=>∃(j:de)(f z:List cw)(t:List tD),aA (Hp x G=mX H p r B a c) (dM A u H) (aA (iH A p r C g) (bO A B j) (aA (tS A a f) (pH A c t) (aA (iL (xL x).1) (tX u C g j f z t) (∀(J:PH),G9 A J I1 x (λd=>GV
 u j f z t g d)))))))))))) (sP (xL x).2 P Q R (λE e=>sP e O L D (λF M=>EP M E F (λG A H=>jE (λp r=>qV (λB a c=>vC (λu C g=>∃(j:de)(f z:List cw)(t:List tD),aA (Hp x G=mX H p r B a c) (dM A u H) (aA (iH A p r C g) (bO A B j) (aA (tS A a f) (pH A c t) (aA (iL (xL x).1) (tX u C g j f z t) (∀(J:PH),G9 A J I1 x (λd=>GV u j f z t g d))))))))))))))))/\∀(d:Sl×Int×Int×MH×PH),I1 d->bK d.2.1 0 (bK d.2.2.1 0 (bK (aG d.1) 2 (bD (λb o=>aI (bF d.1.a b o) ((0:Int)<=0) (0<aG d.1) (∃(y:Int),aJ (wD d) (wE d) b (o+0+4) (bG y)/\bK y 2 (bD (λZ o1=>aI (bF d.1.a Z o1) ((0:Int)<=0) (0<
 aG d.1) (∃(y1:Bool),aJ (wD d) (wE d) Z (o1+0+1) (tI y1)/\branch (!y1) (bD (λb2 o2=>aI (bF d.1.a b2 o2) ((0:Int)<=1) (1<aG d.1) (∃(y2:Bool),aJ (wD d) (wE d) b2 (o2+5+1) (tI y2)/\branch y2 (dN d.1.a 0 d.1 (λb3 o3 y3=>aJ (wD d) (wE d) b3 (o3+0+3) (aM y3)/\K (Cr (aG y3==1)) (wD d) (wE d))) (K aZ (wD d) (wE d))))) (K aZ (wD d) (wE d))))) (K aZ (wD d) (wE d))))) (K aZ (wD d) (wE d))) (K aZ (wD d) (wE d))) (K aZ (wD d) (wE d))))))))
theorem Tw{h:PH}{s:Sl}{l:de}(r:bX h s 3 (l.map VV.enc))(d:l.length<=1000):bO h s l:=⟨⟨l,r,rfl,λi x c=>⟨x,c,rfl⟩⟩,aC⟩
theorem Eg{α β:Type}{h:PH}{sz:Nat}{enc:β->cv}{R:α->β->Prop}{s:Sl}{x:α}{v:β}(r:bX h s sz [enc v])(hx:R x v):bC h sz enc R s [x]:=⟨⟨[v],r,rfl,λi y e=>by
 grind⟩,bf⟩
theorem b9Q{c t:Sl}(d:bX h c 2 (([⟨⟨#[105,100]⟩,4⟩,⟨⟨#[116,105,116,108,101]⟩,4⟩,⟨⟨#[115,97,108,97,114,121]⟩,4⟩]:List lD).map lD.enc))(e:bX h t 5 [bR.enc ⟨⟨#[116,97,115,107,115]⟩,c,1,bT,bT⟩]):dM h gS ⟨0,t⟩:=
 ⟨rfl,Eg e ⟨rfl,KX d bf,rfl,bC.nil _ _ _ _,bC.nil _ _ _ _⟩⟩
theorem a3X{k p a:Sl}(c:bX h k 1 [[.int .i64 1]])(d:bX h p 1 [[.int .i64 0]])(e:bX h a 21 [QV.enc ⟨1,0,gU,bT,bT,bT,bT,0,bT⟩])(f:bX h r 24 [bM.enc ⟨2,0,k,⟨3,0,gU,p,bT,bT,bT,0,a⟩⟩]):iH h bT r [] [Cn]:=
 ⟨qD h,Eg f ⟨rfl,rfl,⟨c,by show(1:Nat)<=17592186044416;omega⟩,sL.rep ⟨rfl,rfl,DP h,⟨d,bk⟩,w8 h,qD h,wZ h,rfl,zI e (AN h 0)⟩⟩⟩
theorem bCQ{u l w:Sl}(d:bX h u 3 ((pG 2 3).map VV.enc))(e:bX h l 1 [eS u])(c:bX h w 1 [eS l]):tS h w [[pG 2 3]]:=
 ⟨Eg c (Eg e (Tw d (by show(3:Nat)<=1000;decide))),bf,VP (by constructor<;>decide) (by constructor<;>decide)⟩
theorem a3Z{o n c:Sl}{x y:Int}(d:bX h o 3 ((pG 2 3).map VV.enc))(e:bX h n 3 ((pG x y).map VV.enc))(f:bX h c 3 [fO.enc ⟨0,o,n⟩]):pH h c [gC x y]:=
 Eg f ⟨rfl,Tw d (by show(3:Nat)<=1000;decide),Tw e (by show(3:Nat)<=1000;decide)⟩
theorem aOQ:cu 18 bwJ:=by
 refine KC func18 ?_;rintro a5 m h K ⟨rfl,ht,hK⟩;refine⟨bPX,rfl,aD aKJ (aD Mb (aD aMZ aF)),PI m h (oG h K),be,?_⟩;show PI m h (oG h K);dsimp only[PI,push_cast];intro c h1 a' rc k h2 a0 rk p h3 a1 rp a h4 a2 ra;refine⟨1,rfl,2,rfl,3,rfl,?_⟩;intro u h5 a3 ru l h6 a4 rl;have l6:=a4;have l5:=a3.trans l6;have l4:=a2.trans l5;have l3:=a1.trans l4;have l2:=a0.trans l3;have L:=a'.trans l2;refine⟨λz=>∃t r w x E,z=(⟨0,t⟩,r,w,x,0,m,E)/\PH.le h E/\dM E gS ⟨0,t⟩/\iH E bT r [] [Cn]/\tS E w [[pG 2 3]]/\tU E x [⟨0,false,0,[B0 1],2⟩,⟨0,true,0,[B0 1],2⟩],?_,?_⟩
 .have leaf:∀(o:Sl)(F:PH),PH.le h6 F->bX F o 3 ((pG 2 3).map VV.enc)->∀(n:Sl)(G:PH),PH.le F G->bX G n 3 ((pG 5 6).map VV.enc)->∀(t:Sl)(H:PH),PH.le G H->bX H t 5 [bR.enc ⟨⟨#[116,97,115,107,115]⟩,c,1,bT,bT⟩]->∀(r:Sl)(Q:PH),PH.le H Q->bX Q r 24 [bM.enc ⟨2,0,k,⟨3,0,gU,p,bT,bT,bT,0,a⟩⟩]->∀(w:Sl)(R:PH),PH.le Q R->bX R w 1 [eS l]->∀(D:Sl)(B:PH),PH.le R B->bX B D 3 [fO.enc ⟨0,o,n⟩]->
   dM B gS ⟨0,t⟩/\iH B bT r [] [Cn]/\tS B w [[pG 2 3]]/\pH B D [gC 5 6]/\PH.le h B:=by
   intro o F g S n G f T t H d rt r Q I rr w R J M D B C A;have q:=J.trans C;have q9:=I.trans q;have q8:=d.trans q9;have q7:=f.trans q8;have O:=g.trans q7;exact⟨b9Q (rc.mono (l2.trans O)) (rt.mono q9),a3X (rk.mono (l3.trans O)) (rp.mono (l4.trans O)) (ra.mono (l5.trans O)) (rr.mono q),bCQ (ru.mono (l6.trans O)) (rl.mono O) (M.mono C),a3Z (S.mono q7) (T.mono q8) A,L.trans O⟩
  have dn:=bYQ (x:=5) (y:=6) (by constructor<;>decide) (by constructor<;>decide);have U:=a2J 5 6;rw[if_neg bg]at U;refine⟨1,rfl,2,rfl,3,rfl,?_⟩
  repeat' (first|refine And.intro ?_ ?_ |refine⟨_,rfl,?_⟩|fail)
  all_goals
   intro o F g S n G f T t H d rt r Q I rr w R J M D B C A;obtain⟨W,X,Y,q4,q5⟩:=leaf o F g S n G f T t H d rt r Q I rr w R J M D B C A;exact⟨⟨0,t⟩,bT,r,bT,w,D,gS,[],[Cn],[],_,_,[gC 5 6],rfl,W,X,bC.nil _ _ _ _,Y,q4,ht,dn,λx V j Z=>⟨(⟨0,t⟩,r,w,x,0,m,V),⟨t,r,w,x,V,rfl,q5.trans j,W.mono j,X.mono j,Y.mono j,by rw[U]at Z;exact Z⟩,MT⟩⟩
 rintro _ ⟨t,r,w,x,E,rfl,lz,W,X,Y,Z⟩;dsimp only;have dn:=bYQ (x:=5) (y:=3) (by constructor<;>decide) (by constructor<;>decide);have U:=a2J 5 3;rw[if_pos rfl]at U;refine⟨λz=>∃hy,z=(x,0,0,m,hy)/\PH.le h hy/\tU hy x [⟨0,false,0,[B0 1],2⟩,⟨0,true,0,[B0 1],2⟩],?_,?_⟩
 .repeat' (first|refine And.intro ?_ ?_ |refine⟨_,rfl,?_⟩|fail)
  all_goals
   intro o F g S n G f T D H d A;refine⟨⟨0,t⟩,bT,r,bT,w,D,gS,[],[Cn],[],_,_,[gC 5 3],rfl,W.mono (g.trans (f.trans d)),X.mono (g.trans (f.trans d)),bC.nil _ _ _ _,Y.mono (g.trans (f.trans d)),a3Z (S.mono (f.trans d)) (T.mono d) A,ht,dn,λV j=>⟨(x,0,0,m,V),⟨V,rfl,lz.trans (g.trans (f.trans (d.trans j))),bC.mono Z (g.trans (f.trans (d.trans j))) λ_ _ y=>y.mono (g.trans (f.trans (d.trans j)))⟩,?_⟩⟩;rw[U];exact MT
 rintro _ ⟨hy,rfl,ly,P⟩;dsimp only;have hl:x.len=2:=bC.slen P;obtain⟨b1,o1,d1,e1,r1,k1⟩:=bC.at P (i:=0) rfl;obtain⟨b2,o2,d2,e2,r2,k2⟩:=bC.at P (i:=1) rfl;have hk:d1.key.len=1:=bC.slen k1.key_;refine aB (λ_=>aB (λ_=>aB (λ_=>⟨b1,o1,e1,bg,aC,d1.column,.imm (bA.part r1 4 1),aB (λ_=>⟨b1,o1,e1,bg,aC,d1.after,.imm (bA.part r1 1 1),aB (λ_=>⟨b2,o2,e2,bg,aC,d2.after,.imm (bA.part r2 1 1),aB (λ_=>⟨b1,o1,e1,bg,aC,d1.key,.imm (bA.part r1 3 1),?_⟩) (λe=>?_)⟩) (λe=>?_)⟩) (λe=>?_)⟩) (λe=>?_)) (λe=>?_)) (λe=>?_)
 .rw[hk];exact .out (Sub.refl m) ly hK
 .rw[k2.aft_]at e;cases e
 .rw[k1.aft_]at e;cases e
 .rw[k1.col_]at e;cases e
 .grind
 .cases e
 .cases e
theorem ceX(c:Int):nW [4] [B0 c]=true:=by
 simp[nW,B0,mF,XF,range_succ]
theorem byZ{α β:Type}{h:PH}{sz:Nat}{enc:β->cv}{R:α->β->Prop}{s:Sl}{x y:α}{v w:β}(r:bX h s sz [enc v,enc w])(hx:R x v)(c:R y w):bC h sz enc R s [x,y]:=⟨⟨[v,w],r,rfl,λi z e=>by
 grind⟩,bf⟩
end Go.Ps
