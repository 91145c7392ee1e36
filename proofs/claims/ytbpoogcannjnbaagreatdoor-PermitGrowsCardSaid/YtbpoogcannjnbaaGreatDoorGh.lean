/- Own work. -/
import Derived.Test.YtbpoogcannjnbaaGreatDoorGg
set_option linter.unusedVariables false
set_option linter.unusedSimpArgs false
namespace Go.Ps
open Go Go.Vc Go.Proofs List Tryz
variable{K:dc}{m:MH}{h:PH}{s:j4}{ps:dd}{cb:Nat}{sc:bJ}{v:QV}{q:Query}{p:Pred}{l:dd}{i:Nat}{N:Nat}{m':MH}{h':PH}{co:dd}{gr:dd}{od:dg}{w:Pred}{ta:Int}{li:Int}{xs:List cv}{sz:Nat}{k:Nat}{ks:List dd}{rs:dd}{r:Sl}{a:dd}{b:Nat}
def QW(q:Query):Prop:=
 match q with
 |.mk _ _ w _ _ _ _ _ args=>K9 w/\∀a∈args,QW a
 termination_by SizeOf.sizeOf q
theorem Ty{op:Int}{on:di}{args:dl}:
 QW (.mk op ta w co on gr od li args)↔K9 w/\∀a∈args,QW a:=by rw[QW.eq_def]
def cdQ(s:j4):Prop:=∀t,Le (dT s t)
structure amJ(s:j4)(ps ks:dd)(q0 q:Query):Prop where
 qw:QW q
 siz:∀d,DO d q0->F0 d q
 kin:cdQ s->Le ps->Le ks->ks≠[]->ks.length<=12->cJ s ps q0=(ks,0)->cJ s ps q=(ks,0)
def KQ(K:dc)(m:MH)(h:PH)(cb:Nat)(R:Query->Prop):Prop:=∀w q m' h',PH.le h h'->dR h' q w->R q->aT m m' cb->aL m' h' cb->K (aQ w) m' h'
def Ur:Vc.Spec:=λc m h K=>∃cb sc p k v s ps ks q,c=[cP cb,aS sc,cS p,cS k,aQ v]/\aL m h cb/\dM h s sc/\mQ s/\s.tables.length<=1000/\Ints h p ps/\ps.length<=1000/\Ints h k ks/\ks.length<=1000/\dR h q v/\QW q/\KQ K m h cb (amJ s ps ks q)
noncomputable def f56_ctx(cb:Nat)(sc:bJ)(p k:Sl)(v:QV):Ctx:=
 dD [(13,FY),(29,tW),(53,anZ),(20,Il),(52,Cx)] [(3,{A:=Int×Nat×MH×PH,st:=λ⟨f,n,m,h⟩=>bU 112 117 [(0,pv cb),(2,sv p),(3,sv k),(6,.at (.ptr 6 0)),(9,.at (.ptr 9 0)),(10,.at (.ptr 10 0)),(11,iv f),(12,iv n)] [(6,.cells 29 (sc.enc.map .val)),(9,.cells 68 (v.enc.map .val)),(10,.cells 68 (wI.enc.map .val))] m h}),
  (9,{A:=Int×Nat×Int×Sl×dd×Nat×MH×PH,st:=λ⟨f,n,t,c,d,i,m,h⟩=>bU 112 117 [(0,pv cb),(2,sv p),(3,sv k),(6,.at (.ptr 6 0)),(9,.at (.ptr 9 0)),(10,.at (.ptr 10 0)),(11,iv f),(12,iv n),(13,iv t),(14,sv c),(15,.at (.lst 75)),(45,sv k),(46,iv k.len),(47,iv i)] [(6,.cells 29 (sc.enc.map .val)),(9,.cells 68 (v.enc.map .val)),(10,.cells 68 (wI.enc.map .val)),(75,.lst 3 1 (d.map eI))] m h}),
  (13,{A:=Int×Nat×Int×Sl×dd×Nat×Int×Int×Nat×MH×PH,st:=λ⟨f,n,t,c,d,i,e,g,j,m,h⟩=>bU 112 117 [(0,pv cb),(2,sv p),(3,sv k),(6,.at (.ptr 6 0)),(9,.at (.ptr 9 0)),(10,.at (.ptr 10 0)),(11,iv f),(12,iv n),(13,iv t),(14,sv c),(15,.at (.lst 75)),(17,iv e),(18,iv g),(45,sv k),(46,iv k.len),(47,iv i),(56,iv c.len),(57,iv j)] [(6,.cells 29 (sc.enc.map .val)),(9,.cells 68 (v.enc.map .val)),(10,.cells 68 (wI.enc.map .val)),(75,.lst 3 1 (d.map eI))] m h})] [] [] false
abbrev l8:Prop:=eP 10
noncomputable abbrev BF(a:Int×Nat×Int×Sl×dd×Nat×MH×PH):Sl:=a.2.2.2.1
noncomputable abbrev qC(a:Int×Nat×Int×Sl×dd×Nat×MH×PH):Nat×MH×PH:=a.2.2.2.2.2
noncomputable abbrev Hg(a:Int×Nat×Int×Sl×dd×Nat×MH×PH):List cv:=gI a.2.2.2.2.1
noncomputable abbrev oN(a:Int×Nat×Int×Sl×dd×Nat×MH×PH):Nat->Nat->Option Value:=bW (qC a)
noncomputable abbrev sX(a:Int×Nat×Int×Sl×dd×Nat×Int×Int×Nat×MH×PH):Sl:=a.2.2.2.1
noncomputable abbrev J3(a:Int×Nat×Int×Sl×dd×Nat×Int×Int×Nat×MH×PH):Int:=a.2.2.2.2.2.2.1
noncomputable abbrev Hf(a:Int×Nat×Int×Sl×dd×Nat×Int×Int×Nat×MH×PH):Nat:=a.2.2.2.2.2.1
noncomputable abbrev tF(a:Int×Nat×Int×Sl×dd×Nat×Int×Int×Nat×MH×PH):Nat×MH×PH:=a.2.2.2.2.2.2.2.2
noncomputable abbrev Fc(a:Int×Nat×Int×Sl×dd×Nat×Int×Int×Nat×MH×PH):List cv:=gI a.2.2.2.2.1
noncomputable abbrev J1(a:Int×Nat×Int×Sl×dd×Nat×Int×Int×Nat×MH×PH):Int:=Int.tmod (eE (a.2.2.2.2.2.2.2.1+(↑(tF a).1:Int))) (aG (sX a))
abbrev Hh(a:Prop)(b c d:Nat)(e g:Sl)(i:Prop):Prop:=aA a (b<c) (aA (bZ d) (aH e) (aA (aH g) jH (aA (eP 9) l8 i)))
noncomputable abbrev JL(a b:Int)(c:PV)(d:cv):cv:=bH (cV a) (cV b) (bH (cV c.op) (cV c.cmp) (Gi c.left d))
attribute [push_cast] l8 BF qC Hg oN sX J3 Hf tF Fc J1 Hh JL
def al(cb:Nat)(sc:bJ)(p k:Sl)(v:QV)(m:MH)(h:PH)(K:dc):Prop:=
  fU cb (eE (gY sc+1)) m h (λV W=>∃(I:Int×Nat×MH×PH->Prop)(M:Int×Nat×MH×PH->Nat),(∃(x:Int×Nat×MH×PH),aA (I x) (bZ cb) (aA (aH p) (aH k) (aA jH (eP 9) (aA l8 (bV V x.1) (aA (bE x.2.1) (aU sc) (aA (fE v) iY (fM W x.2.2 h)))))))/\∀(x:Int×Nat×MH×PH),I x->aY (↑x.2.1:Int) (aG sc.tables) (jS (gY sc=0)/\Am (cO (gL sc) (Int.tmod (eE (x.1+(↑x.2.1:Int))) (gY sc))) (bW x.2) (λs B=>∃(I1:Int×Nat×Int×Sl×dd×Nat×MH×PH->Prop)(A:Int×Nat×Int×Sl×dd×Nat×MH×PH->Nat),(∃(f:Int×Nat×Int×Sl×dd×Nat×MH×PH),aA (I1 f) (bZ cb) (aA (aH p) (aH k) (aA jH (eP 9) (aA l8 (bV x.1 f.1) (aA (bP x.2.1 f.2.1) (bV (Int.tmod (eE (x.1+
 (↑x.2.1:Int))) (gY sc)) f.2.2.1) (aA (aX s (BF f)) (eL 75) (aA (aH k) (bI k) (aA (bE (qC f).1) (aU sc) (aA (fE v) iY (aA (uE (Hg f)) (iK (cA x.2) (qC f)) (eA B (qC f).2)))))))))))/\∀(f:Int×Nat×Int×Sl×dd×Nat×MH×PH),I1 f->aY (↑(qC f).1:Int) (aG k) (bD (λb o=>aI (bF k.a b o) (0<=(↑(qC f).1:Int)) ((↑(qC f).1:Int)<aG k) (∃(y:Int),aJ (cA (qC f)) (oN f) b (bB o (qC f).1 1) (bG y)/\fU cb (aG (BF f)) (cA (qC f)) (oN f) (λX F=>∃(I2:Int×Nat×Int×Sl×dd×Nat×Int×Int×Nat×MH×PH->Prop)(E:Int×Nat×Int×Sl×dd×Nat×Int×Int×Nat×MH×PH->Nat),(∃(e:Int×Nat×Int×Sl×dd×Nat×Int×Int×Nat×MH×PH),aA
 (I2 e) (bZ cb) (aA (aH p) (aH k) (aA jH (eP 9) (aA l8 (bV f.1 e.1) (aA (bP f.2.1 e.2.1) (bV f.2.2.1 e.2.2.1) (aA (aX (BF f) (sX e)) (eL 75) (aA (bV y (J3 e)) (bV X e.2.2.2.2.2.2.2.1) (aA (aH k) (bI k) (aA (bP (qC f).1 (Hf e)) (cD (BF f) (sX e)) (aA (bE (tF e).1) (aU sc) (aA (fE v) iY (aA (CO (Hg f) (Fc e)) (iK F (tF e)) (eA (oN f) (tF e).2)))))))))))))/\∀(e:Int×Nat×Int×Sl×dd×Nat×Int×Int×Nat×MH×PH),I2 e->aY (↑(tF e).1:Int) (aG (sX e)) (jS (aG (sX e)=0)/\bD (λS T=>aI (bF (sX e).a S T) (0<=J1 e) (J1 e<aG (sX e)) (∃(U:Int),aJ (cA (tF e)) (bW (tF e)) S (eM T
 (J1 e) 1) (bG U)/\bK U (J3 e) (kX (Fc e) 8 (∃(g:Int×Nat×Int×Sl×dd×Nat×MH×PH),Hh (I1 g) (A g) (A f) cb p k (aA (bV e.1 g.1) (bP e.2.1 g.2.1) (aA (bV e.2.2.1 g.2.2.1) (aX (sX e) (BF g)) (aA (eL 75) (aH k) (aA (bI k) (fJ (aW (Hf e) 1)=bY (qC g).1) (aA (aU sc) (fE v) (aA iY (uF (Fc e) (J1 e) (Hg g)) (fM (cA (tF e)) (qC g).2 (bW (tF e))))))))))) (∃(g:Int×Nat×Int×Sl×dd×Nat×Int×Int×Nat×MH×PH),Hh (I2 g) (E g) (E e) cb p k (aA (bV e.1 g.1) (bP e.2.1 g.2.1) (aA (bV e.2.2.1 g.2.2.1) (aX (sX e) (sX g)) (aA (eL 75) (bV (J3 e) (J3 g)) (aA (bV e.2.2.2.2.2.2.2.1 g.2.2.2.2.2.2.2.1) (aH k) (aA (bI
 k) (bP (Hf e) (Hf g)) (aA (cD (sX e) (sX g)) (fJ (aW (tF e).1 1)=bY (tF g).1) (aA (aU sc) (fE v) (aA iY (CO (Fc e) (Fc g)) (fM (cA (tF e)) (tF g).2 (bW (tF e))))))))))))))) (∃(g:Int×Nat×Int×Sl×dd×Nat×MH×PH),Hh (I1 g) (A g) (A f) cb p k (aA (bV e.1 g.1) (bP e.2.1 g.2.1) (aA (bV e.2.2.1 g.2.2.1) (aX (sX e) (BF g)) (aA (eL 75) (aH k) (aA (bI k) (fJ (aW (Hf e) 1)=bY (qC g).1) (aA (aU sc) (fE v) (aA iY (CO (Fc e) (Hg g)) (fM (cA (tF e)) (qC g).2 (bW (tF e)))))))))))))) (bK f.1 (gY sc) (∃(e:Int×Nat×MH×PH),Hh (I e) (M e) (M x) cb p k (aA (bV f.1 e.1) (fJ (aW f.2.1 1)=bY e.2.1)
 (aA (aU sc) (fE v) (aI iY (iK (cA (qC f)) e.2) (fI (oN f) e.2.2) True)))) (aY (↑(Hg f).length:Int) (aG k) (∃(e:Int×Nat×MH×PH),Hh (I e) (M e) (M x) cb p k (aA (bV f.1 e.1) (fJ (aW f.2.1 1)=bY e.2.1) (aA (aU sc) (fE v) (aI iY (iK (cA (qC f)) e.2) (fI (oN f) e.2.2) True)))) (∃(t:Int),eN f.2.2.1 t/\kT cb 2 (cA (qC f)) (oN f) (λc r=>∀(F:MH),aR (aT (cA (qC f)) F c) (aL F (oN f) c) (branch r ((∃(n:Nat),yH (λC H G u d=>aA (cZ cb (cQ (BF f) (eJ p 1))=cZ n (cQ C (eJ H (↑d:Int)))) (aL F (oN f) n) (aA (Ints (oN f) C G) (Ints (oN f) H u) (aI (gJ G) (gJ u) (jV d) (Cd (λj D=>eZ (λE
 z=>cR (oN f) z (eX z D j) (aR (wX G u d D) (aT F E n) (iS E z n (bQ z 21 (fV (vZ t)) (λJ L=>bQ L 1 (gI f.2.2.2.2.1) (λO P=>bQ P 21 (fV (JL 2 0 j (bH (zT j.left) (cV j.right.kind) (A9 j.right (bH (eF j.args) tE (bH tE tE (zM (aM J)))))))) (λQ R=>K (nS (bH (cV 3) (cV 0) (bH (cV 0) (cV 0) (lI (bH Cz (cV 0) (bH (cV 0) (cV 0) (bH (cV 0) Cz (bH tE (eF O) (BQ (zM (aM Q))))))))))) E R)))))))))))))/\∃(n:Nat),yH (λC H G u d=>aA (cZ cb (cQ (BF f) (eJ p 1))=cZ n (cQ C (eJ H (↑d:Int)))) (aL F (oN f) n) (aA (Ints (oN f) C G) (Ints (oN f) H u) (aI (gJ G) (gJ u) (jV d) (Cd (λj D=>eZ (λE z=>cR (oN
 f) z (eX z D j) (aR (wX G u d D) (aT F E n) (iS E z n (bQ z 21 (fV (vZ t)) (λJ L=>bQ L 1 (gI f.2.2.2.2.1) (λO P=>bQ P 21 (fV (JL 2 0 j (bH (zT j.left) (cV j.right.kind) (A9 j.right (bH (eF j.args) tE (bH tE tE (zM (aM J)))))))) (λQ R=>K (nS (bH (cV 3) (cV 0) (bH (cV 0) (cV 0) (lI (bH Cz (cV 0) (bH (cV 0) (cV 0) (bH (cV 0) Cz (bH tE (eF O) (BQ (zM (aM Q))))))))))) E R))))))))))))) (bQ (oN f) 1 (gI f.2.2.2.2.1) (λC z=>bQ z 21 (fV (vZ t)) (λJ L=>K (nS (bH (cV 3) (cV 0) (bH (cV 0) (cV 0) (lI (bH Cz (cV 0) (bH (cV 0) (cV 0) (bH (cV 0) Cz (bH tE (eF C) (BQ (zM (aM J))))))))))) F L)))))))))) ((∃(c:Nat),yH (λs t n u d=>aA (cZ
 cb (cQ k (eJ p 1))=cZ c (cQ s (eJ t (↑d:Int)))) (aL (cA x.2) (bW x.2) c) (aA (Ints (bW x.2) s n) (Ints (bW x.2) t u) (aI (gJ n) (gJ u) (jV d) (Cd (λj D=>eZ (λA B=>cR (bW x.2) B (eX B D j) (aR (wX n u d D) (aT (cA x.2) A c) (iS A B c (bQ B 21 (fV v.enc) (λC z=>K (nS (JL 2 0 j (bH (zT j.left) (cV j.right.kind) (A9 j.right (bH (eF j.args) tE (bH tE tE (zM (aM C)))))))) A z)))))))))))/\∃(c:Nat),yH (λs t n u d=>aA (cZ cb (cQ k (eJ p 1))=cZ c (cQ s (eJ t (↑d:Int)))) (aL (cA x.2) (bW x.2) c) (aA (Ints (bW x.2) s n) (Ints (bW x.2) t u) (aI (gJ n) (gJ u) (jV d) (Cd (λj D=>eZ (λA B=>cR (bW x.2) B (eX B
 D j) (aR (wX n u d D) (aT (cA x.2) A c) (iS A B c (bQ B 21 (fV v.enc) (λC z=>K (nS (JL 2 0 j (bH (zT j.left) (cV j.right.kind) (A9 j.right (bH (eF j.args) tE (bH tE tE (zM (aM C)))))))) A z))))))))))))
theorem qD(h:PH):Ints h bT []:=⟨bX.nil _ _,bf⟩
theorem w8(h:PH):lF h bT []:=⟨bX.nil _ _,bf⟩
theorem wZ(h:PH):kC h bT []:=⟨bX.nil _ _,bf⟩
theorem DP(h:PH):eX h iO gU:=Pf (v:=gU) rfl
theorem zI{h:PH}{s:Sl}{v:QV}{q:Query}(r:bX h s 21 [QV.enc v])(c:dR h q v):D8 h s [q]:=⟨⟨[v],r,rfl,λi x e=>by
 grind⟩,bf⟩
theorem AN(h:PH)(t:Int):dR h (.mk 1 t iO [] [] [] [] 0 []) ⟨1,t,gU,bT,bT,bT,bT,0,bT⟩:=
 sL.rep ⟨rfl,rfl,DP h,qD h,w8 h,qD h,wZ h,rfl,bC.nil _ _ _ _⟩
theorem IH{v:PV}{s:Sl}(c:eX h p v)(d:D8 h s [q]):dR h (.mk 2 0 p [] [] [] [] 0 [q]) ⟨2,0,v,bT,bT,bT,bT,0,s⟩:=
 sL.rep ⟨rfl,rfl,c,qD h,w8 h,qD h,wZ h,rfl,d⟩
theorem F9{h:PH}{c s:Sl}{cols:dd}{q:Query}(d:Ints h c cols)(e:D8 h s [q]):dR h (.mk 3 0 iO cols [] [] [] 0 [q]) ⟨3,0,gU,c,bT,bT,bT,0,s⟩:=
 sL.rep ⟨rfl,rfl,DP h,d,w8 h,qD h,wZ h,rfl,e⟩
theorem zK:K9 iO:=⟨rY,rY,trivial⟩
theorem Lw{op:Int}{on:di}(c:K9 w)(d:QW q):QW (.mk op ta w co on gr od li [q]):=Ty.2 ⟨c,λa e=>bk⟩
theorem El(t:Int):QW (.mk 1 t iO [] [] [] [] 0 []):=Ty.2 ⟨zK,λa c=>by simp at c⟩
theorem aaQ{a:Int}{n:Nat}(c:0<=a)(d:0<n):0<=a.tmod (n:Int)/\a.tmod (n:Int)<(n:Int):=by
 rw[Int.tmod_eq_emod_of_nonneg c];exact⟨Int.emod_nonneg _ aC,Int.emod_lt_of_pos _ aC⟩
theorem Rg{k:dd}{op:Int}{on:di}(c:arity op=1)(h:cJ s ps q=(k,0)):cJ s ps (.mk op ta w co on gr od li [q])=kB s ps (.mk op ta w co on gr od li [q]) k []:=by
 have e:fX s ps [q]=([k],0):=Ck (by simp[h]);simp[cJ,e,c]
theorem azX{k c:dd}{op:Int}{on:di}{p:Query}(d:arity op=2)(h:cJ s ps q=(k,0))(h':cJ s ps p=(c,0)):cJ s ps (.mk op ta w co on gr od li [q,p])=kB s ps (.mk op ta w co on gr od li [q,p]) k c:=by
 have e:fX s ps [q,p]=([k,c],0):=Ck (by simp[h,h']);simp[cJ,e,d]
theorem Ob(h:l.length<=12):DK l=(l,0):=if_pos h
theorem IE{s:j4}{ps:dd}{t:Int}(c:0<=t)(d:t<s.tables.length)(e:(dT s t).length<=12):cJ s ps (.mk 1 t iO [] [] [] [] 0 [])=(dT s t,0):=by
 have f:cJ s ps (.mk 1 t iO [] [] [] [] 0 [])=kB s ps (.mk 1 t iO [] [] [] [] 0 []) [] []:=by simp[cJ,fX,arity]
 rw[f];unfold kB;rw[if_neg (by simp[arity,eT])];dsimp only;rw[if_pos rfl,if_pos ⟨c,d⟩,Ob e]
theorem kinds_filter{k:dd}(h:cJ s ps q=(k,0))(c:jD k ps w=0)(d:k.length<=12):cJ s ps (.mk 2 0 w [] [] [] [] 0 [q])=(k,0):=by
 rw[Rg bg h];unfold kB;rw[if_neg (by simp[arity,eT])];dsimp only;rw[if_neg bg,if_pos rfl,if_pos c,Ob d]
theorem DM{k:dd}(h:cJ s ps q=(k,0))(d:co≠[])(e:∀c∈co,Gt k c=true)(g:co.length<=12):cJ s ps (.mk 3 0 iO co [] [] [] 0 [q])=(co.map λc=>k.getD c.toNat 0,0):=by
 rw[Rg bg h];unfold kB;rw[if_neg (by simp[arity,eT])];dsimp only;rw[if_neg bg,if_neg bg,if_pos rfl,if_pos ⟨d,λj x f=>e x (bx f)⟩,Ob bk]
structure IV(kt ks co:dd):Prop where
 in_:∀c∈co,Gt kt c=true
 eq_:(co.map λc=>kt.getD c.toNat 0)=ks
theorem IV.kin{c ks:dd}(x:IV c ks co)(h:cJ s ps q=(c,0))(d:ks≠[])(f:ks.length<=12):cJ s ps (.mk 3 0 iO co [] [] [] 0 [q])=(ks,0):=by
 have g:co.length=ks.length:=by rw[<-x.eq_,length_map]
 rw[DM h (λe=>d (eq_nil_of_length_eq_zero bk)) x.in_ aC,x.eq_]
theorem IV.snoc{d ks:dd}{c x:Int}(p:IV d (ks.take i) co)(hx:ks[i]? =some x)(g:Gt d c=true)(e:d.getD c.toNat 0=x):IV d (ks.take (i+1)) (co++[c]):=
 ⟨λy f=>by
  rcases mem_append.1 f with f|f
  .exact p.in_ y f
  grind,by rw[cd,p.eq_,cj,hx,map_cons,map_nil,e];rfl⟩
theorem am:cu 56 Ur:=by
 refine iB func56 ?_;rintro d' m h K ⟨cb,sc,p,k,v,s,ps,ks,q,rfl,hc,hs,h8,d0,hp,b',hk,a2,hq,b0,hK⟩;refine⟨f56_ctx cb sc p k v,rfl,aD FU (aD xA (aD af (aD uU (aD aa aF)))),al cb sc p k v m h K,by kernel_rfl,?_⟩;have d1:=hs.tables.slen;have b3:=hk.slen;have hw:IntKind.i64.wrap ((sc.tables.len:Int)+1)=(sc.tables.len:Int)+1:=dO aC aC;dsimp only[al,push_cast];rw[hw];refine⟨cb,_,rfl,hc,λf W f0 f1 o1 c1=>?_⟩;refine⟨λ⟨f,n,E,o⟩=>0<=f/\f<=sc.tables.len/\n<=sc.tables.len/\PH.le h o/\aT m E cb/\aL E o cb,λ⟨_,n,_,_⟩=>sc.tables.len-n,⟨(f,0,W,h),⟨f0,aC,aC,.refl _,o1,c1⟩,MT⟩,?_⟩;clear f0 f1 o1 c1 W hw;rintro⟨f,n,W,o⟩ ⟨f0,f1,hn,z,o1,c1⟩;dsimp only
 have C:∀(kk:Sl)(kl:dd)(E:MH)(o:PH)(Q:PV->Pred->MH->PH->Prop),Ints o kk kl->kl.length<=1000->PH.le h o->aL E o cb->(∀v p m' h',PH.le o h'->eX h' p v->wX kl ps 1 p->aT E m' cb->aL m' h' cb->Q v p m' h')->
  ∃(D:Nat)(s t:Sl)(cols u:dd)(I:Nat),[CV.val (.pointer (some ⟨cb,0,none⟩)),CV.val (.slice kk.a kk.len kk.cap),CV.val (.slice p.a p.len p.cap),CV.val (.int .i64 1)]=[CV.val (.pointer (some ⟨D,0,none⟩)),CV.val (.slice s.a s.len s.cap),CV.val (.slice t.a t.len t.cap),CV.val (.int .i64 I)]/\aL E o D/\Ints o s cols/\Ints o t u/\cols.length<=1000/\u.length<=1000/\I<=1000/\
   ∀(v:PV)(p:Pred)(m':MH)(h':PH),PH.le o h'->eX h' p v->wX cols u I p->aT E m' D->aL m' h' D->Q v p m' h':=λkk kl E o Q h1 h2 H h4 h5=>
  ⟨cb,kk,p,kl,ps,1,rfl,h4,h1,hp.mono H,h2,b',aC,λv p m' h' q1 q2 X q3 q4=>h5 v p m' h' q1 q2 X q3 q4⟩
 refine aE (λd2=>?_) (λd3=>?_)
 rotate_left
 .have fin:∀(w:PV)(p:Pred)(m':MH)(h':PH),PH.le o h'->eX h' p w->wX ks ps 1 p->aT W m' cb->aL m' h' cb->∀(s:Sl)(c:PH),PH.le h' c->bX c s 21 [QV.enc v]->K (aQ ⟨2,0,w,bT,bT,bT,bT,0,s⟩) m' c:=λw p m' h' q1 q2 X q3 q4 s h2 U q6=>
   hK _ _ m' h2 ((z.trans q1).trans U) (IH (q2.mono U) (zI q6 (hq.mono ((z.trans q1).trans U)))) ⟨Lw X.vals b0,λd hf=>hf.filter,λ_ Y b4 _ J b5=>kinds_filter b5 (X.valid (by decide) b4 Y) J⟩ (o1.trans q3) (q4.mono U)
  exact⟨C k ks W o _ (hk.mono z) a2 z c1 fin,C k ks W o _ (hk.mono z) a2 z c1 fin⟩
 have b6:IntKind.i64.wrap (f+(n:Int))=f+(n:Int):=dO aC aC;rw[b6];refine⟨aC,sc,s,_,rfl,hs.mono z,h8,λA h2 a3 F=>?_⟩;have a4:=F.slen;obtain⟨T,hT⟩:∃T,(f+(n:Int)).tmod (sc.tables.len:Int)=T:=⟨_,rfl⟩
 have a5:=aaQ (a:=f+(n:Int)) (n:=sc.tables.len) aC aC;rw[hT]at F a4 a5⊢
 have b7:(dT s T).length<=8:=by
  unfold dT;split
  .simp
  .split
   .simp
   .rename_i t ht;simpa using h8 t (mem_of_getElem? ht)
 obtain⟨S,Z⟩:∃S,dT s T=S:=⟨_,rfl⟩
 have L:cJ s ps (.mk 1 T iO [] [] [] [] 0 [])=(S,0):=by rw[IE a5.1 aC aC,Z]
 have a':cdQ s->Le S:=λx=>by rw[<-Z];exact x T
 rw[Z]at F a4 b7;refine⟨λ⟨f',n',t,B,cols,i,E,o⟩=>f'=f/\n'=n/\B=A/\t=T/\i<=ks.length/\cols.length<=i/\(cols.length=i->IV S (ks.take i) cols)/\PH.le h2 o/\aT m E cb/\aL E o cb,λ⟨_,_,_,_,_,i,_,_⟩=>ks.length-i,⟨(f,n,T,A,[],0,W,h2),⟨rfl,rfl,rfl,rfl,aC,by simp,λ_=>⟨by simp,by simp⟩,.refl _,o1,c1.mono a3⟩,MT⟩,?_⟩;rintro⟨f',n',t,A,cols,i,m2,H⟩ ⟨rfl,rfl,rfl,rfl,hi,d4,b8,G,o2,c2⟩;dsimp only;have g:PH.le h H:=(z.trans a3).trans G;refine aE (λV=>?_) (λc7=>?_)
 .obtain⟨x,o⟩:=eO b3 V;obtain⟨b1,b9,e1,r1⟩:=(hk.mono g).at o;refine⟨b1,b9,e1,aC,V,x,.imm (by grind),cb,_,rfl,c2,λfr m3 d5 d6 o3 c3=>?_⟩;refine⟨λ⟨f2,n2,t2,B,a0,i2,M,y,j,E,hy⟩=>f2=f'/\n2=n'/\B=A/\t2=t/\a0=cols/\i2=i/\M=x/\E=m3/\hy=H/\j<=A.len/\y=fr,λ⟨_,_,_,_,_,_,_,_,j,_,_⟩=>A.len-j,⟨(f',n',t,A,cols,i,x,fr,0,m3,H),⟨rfl,rfl,rfl,rfl,rfl,rfl,rfl,rfl,rfl,aC,rfl⟩,MT⟩,?_⟩;rintro⟨f2,n2,t2,A,cols,i,M,y,j,m3,H⟩ ⟨rfl,rfl,rfl,rfl,rfl,rfl,rfl,rfl,rfl,hj,rfl⟩;dsimp only;refine aE (λc8=>?_) (λc9=>⟨(f2,n2,t2,_,_,_,_,_),⟨rfl,rfl,rfl,rfl,by show i+1<=ks.length;omega,by show cols.length<=i+1;omega,λe=>by grind,G,o2.trans o3,c3⟩,by grind,MT⟩);have c':IntKind.i64.wrap (y+(j:Int))=y+(j:Int):=dO aC aC;rw[c'];have hm:=aaQ (a:=y+(j:Int)) (n:=Sl.len _) aC (show 0<A.len by omega);obtain⟨b2,c0,e2,r2⟩:=(F.mono G).inb (n:=(y+(j:Int)).tmod (A.len:Int)) hm.1 aC;refine⟨aC,b2,c0,e2,hm.1,hm.2,_,.imm (by simpa using r2),aB (λek=>⟨by simp;omega,by simp;omega,(f2,n2,t2,_,cols++[(y+(j:Int)).tmod (A.len:Int)],i+1,_,_),⟨rfl,rfl,rfl,rfl,by grind,by simp;omega,λe=>?_,G,o2.trans o3,c3⟩,by grind,?_⟩) (λ_=>⟨(f2,n2,t2,A,cols,i,M,y,j+1,m3,H),⟨rfl,rfl,rfl,rfl,rfl,rfl,rfl,rfl,rfl,by grind,rfl⟩,by grind,MT⟩)⟩
  .have e:(cols++[(y+(j:Int)).tmod (A.len:Int)]).length=i+1:=e;rw[length_append]at e;exact(b8 (by simpa using e)).snoc o (by simp only[Gt,Bool.and_eq_true,decide_eq_true_eq];omega) (by grind)
  .rw[map_append];exact MT
 .have a6:n'+1<=sc.tables.len:=by omega
  have d7:i=ks.length:=by omega
  refine aB (λ_=>⟨(f',n'+1,m2,H),⟨f0,f1,a6,g,o2,c2⟩,by grind,MT⟩) (λ_=>aE (λ_=>⟨(f',n'+1,m2,H),⟨f0,f1,a6,g,o2,c2⟩,by grind,MT⟩) (λd8=>⟨t,rfl,cb,2,rfl,aC,aC,c2,λr m4 o4 c4=>?_⟩))
  have O:IV S ks cols:=by
   grind
  refine aB (λ_=>?_) (λ_ s1 h5 a7 r5 s2 h6 a1 r6=>?_)
  .have fin:∀(w:PV)(p:Pred)(m':MH)(h':PH),PH.le H h'->eX h' p w->wX S ps 1 p->aT m4 m' cb->aL m' h' cb->∀(s:Sl)(c:PH),PH.le h' c->bX c s 21 [QV.enc ⟨1,t,gU,bT,bT,bT,bT,0,bT⟩]->∀(a8:Sl)(P:PH),PH.le c P->bX P a8 1 (cols.map eI)->∀(a9:Sl)(R:PH),PH.le P R->bX R a9 21 [QV.enc ⟨2,0,w,bT,bT,bT,bT,0,s⟩]->K (aQ ⟨3,0,gU,a8,bT,bT,bT,0,a9⟩) m' R:=λw p m' h' q1 q2 X q3 q4 s h5 U q6 s1 h6 q7 q8 s2 h7 q9 c5=>
    hK _ _ m' h7 ((((g.trans q1).trans U).trans q7).trans q9) (F9 (cols:=cols) ⟨q8.mono q9,aC⟩ (zI c5 (IH (q2.mono ((U.trans q7).trans q9)) (zI (q6.mono (q7.trans q9)) (AN _ t))))) ⟨Lw zK (Lw X.vals (El t)),λd _=>F0.three d (nT.one (nT.one nT.scan (by decide)) (by decide)),λc6 Y _ hn J _=>O.kin (kinds_filter L (X.valid (by decide) (a' c6) Y) aC) hn J⟩ ((o2.trans o4).trans q3) (q4.mono ((U.trans q7).trans q9))
   exact⟨C A S m4 H _ (F.mono G) aC g c4 fin,C A S m4 H _ (F.mono G) aC g c4 fin⟩
  .exact hK _ _ m4 h6 ((g.trans a7).trans a1) (F9 (cols:=cols) ⟨r5.mono a1,aC⟩ (zI (v:=⟨1,t,gU,bT,bT,bT,bT,0,bT⟩) r6 (AN _ t))) ⟨Lw zK (El t),λd _=>F0.three d (nT.mono (nT.one nT.scan (by decide)) (by decide) (by decide) (by decide)),λ_ _ _ hn J _=>O.kin L hn J⟩ (o2.trans o4) (c4.mono (a7.trans a1))
def KQ2(K:dc)(m:MH)(h:PH)(cb:Nat)(s:j4)(ps:dd)(d:Nat):Prop:=∀w q m' h',PH.le h h'->dR h' q w->QW q->DO d q->(eG s ps q).2=0->aT m m' cb->aL m' h' cb->K (aQ w) m' h'
def Z3(N:Nat):Vc.Spec:=λd m h K=>∃cb sc p s ps c,d=[cP cb,aS sc,cS p,cI c]/\aL m h cb/\dM h s sc/\dK s=0/\s.tables≠[]/\Ints h p ps/\ps.length<=1000/\ps.all cX=true/\ -1<=c/\c<=1000/\(c+1).toNat<N/\KQ2 K m h cb s ps c.toNat
noncomputable def f54_ctx(N:Nat)(cb:Nat)(sc:bJ)(p:Sl):Ctx:=
 rT [(13,FY),(53,anZ),(27,tV),(55,brX),(56,Ur),(96,b0Z),(52,Cx),(54,Z3 N)] [(11,{A:=QV×QV×Sl×Int×MH×PH,st:=λ⟨a,q,k,n,m,h⟩=>bU 171 175 [(0,pv cb),(2,sv p),(5,.at (.ptr 5 0)),(8,.at (.ptr 8 0)),(10,.at (.ptr 10 0)),(11,sv k),(13,.at (.ptr 13 0)),(14,iv n)] [(5,.cells 29 (sc.enc.map .val)),(8,.cells 68 (wI.enc.map .val)),(10,.cells 68 (a.enc.map .val)),(13,.cells 68 (q.enc.map .val))] m h})] [(7,{A:=Int×Int×QV×QV×Sl×MH×PH,st:=λ⟨d,op,a,q,k,m,h⟩=>bU 171 175 [(0,pv cb),(2,sv p),(3,iv d),(5,.at (.ptr 5 0)),(8,.at (.ptr 8 0)),(9,iv op),(10,.at (.ptr 10 0)),(11,sv k),(13,.at (.ptr 13 0))] [(5,.cells 29 (sc.enc.map .val)),(8,.cells 68 (wI.enc.map .val)),(10,.cells 68 (a.enc.map .val)),(13,.cells 68 (q.enc.map .val))] m h}),
  (16,{A:=Int×Int×QV×QV×Sl×Bool×MH×PH,st:=λ⟨d,op,a,q,k,t,m,h⟩=>bU 171 175 [(0,pv cb),(2,sv p),(3,iv d),(5,.at (.ptr 5 0)),(8,.at (.ptr 8 0)),(9,iv op),(10,.at (.ptr 10 0)),(11,sv k),(13,.at (.ptr 13 0)),(59,iv op),(84,bv t)] [(5,.cells 29 (sc.enc.map .val)),(8,.cells 68 (wI.enc.map .val)),(10,.cells 68 (a.enc.map .val)),(13,.cells 68 (q.enc.map .val))] m h}),
  (24,{A:=Int×QV×QV×Sl×Bool×MH×PH,st:=λ⟨op,a,q,k,t,m,h⟩=>bU 171 175 [(0,pv cb),(2,sv p),(5,.at (.ptr 5 0)),(8,.at (.ptr 8 0)),(10,.at (.ptr 10 0)),(11,sv k),(13,.at (.ptr 13 0)),(59,iv op),(122,bv t)] [(5,.cells 29 (sc.enc.map .val)),(8,.cells 68 (wI.enc.map .val)),(10,.cells 68 (a.enc.map .val)),(13,.cells 68 (q.enc.map .val))] m h}),
  (20,{A:=QV×QV×QV×Sl×Sl×MH×PH,st:=λ⟨a,b,q,k,l,m,h⟩=>bU 171 175 [(0,pv cb),(2,sv p),(5,.at (.ptr 5 0)),(8,.at (.ptr 8 0)),(10,.at (.ptr 10 0)),(11,sv k),(13,.at (.ptr 13 0)),(15,.at (.ptr 15 0)),(16,sv l)] [(5,.cells 29 (sc.enc.map .val)),(8,.cells 68 (wI.enc.map .val)),(10,.cells 68 (a.enc.map .val)),(13,.cells 68 (q.enc.map .val)),(15,.cells 68 (b.enc.map .val))] m h}),
  (30,{A:=QV×QV×MH×PH,frz:=true,st:=λ⟨a,q,m,h⟩=>bU 171 175 [(2,sv p),(5,.at (.ptr 5 0)),(8,.at (.ptr 8 0)),(10,.at (.ptr 10 0)),(13,.at (.ptr 13 0))] [(5,.cells 29 (sc.enc.map .val)),(8,.cells 68 (wI.enc.map .val)),(10,.cells 68 (a.enc.map .val)),(13,.cells 68 (q.enc.map .val))] m h})] [] [66,1066,1031] [] false
abbrev Gg(a:QV->Query->Prop):Prop:=∀(x:QV)(c:Query),a x c
abbrev EL(a:bJ)(b:Sl)(c:QV)(d:PH)(e:j4->dd->Query->Sl->PH->Prop):Prop:=DG (λx o=>∃(t:QV),DT (λf g=>∃(j:Query),aA (cE (dX a) (fP b (eH c))=cE (dX x) (fP o (eH t))) (dM d f x) (aA (Ints d o g) (dR d j t) (lE (λu n=>cR d n (Ints n u (eG f g j).1) (e f g j u n))))))
noncomputable abbrev sV(a:Int×Int×QV×QV×Sl×MH×PH):Sl×MH×PH:=a.2.2.2.2
abbrev j6:Prop:=eP 13
abbrev kQ(a b:QV):Prop:=vP 68 a.enc=vP 68 b.enc
noncomputable abbrev BJ(a b:At)(c:dt):dt:=cG aQz dA (cG dA dA (cG dA aQz (cG BV a (cG b BV (cG BV dA c)))))
abbrev CZ(a:Prop)(b:Nat)(c d e:Sl)(g:Prop):Prop:=aA a (bZ b) (aA (aH c) bS (aA dC l8 (aA (aX d e) j6 g)))
noncomputable abbrev wG(a:QV×QV×Sl×Int×MH×PH):MH×PH:=a.2.2.2.2
noncomputable abbrev TF(a:QV×QV×Sl×Int×MH×PH):Sl:=a.2.1.columns
noncomputable abbrev xZ(a:QV×QV×MH×PH):Nat->Option Obj:=a.2.2.1
noncomputable abbrev AB(a:QV×QV×MH×PH):Nat->Nat->Option Value:=a.2.2.2
noncomputable abbrev mW(a:Int×QV×QV×Sl×Bool×MH×PH):Sl:=a.2.2.2.1
noncomputable abbrev C0(a:Int×QV×QV×Sl×Bool×MH×PH):Bool:=a.2.2.2.2.1
noncomputable abbrev qR(a:Int×QV×QV×Sl×Bool×MH×PH):QV:=a.2.1
noncomputable abbrev DD(a:Int×QV×QV×Sl×Bool×MH×PH):QV:=a.2.2.1
noncomputable abbrev sW(a:Int×Int×QV×QV×Sl×Bool×MH×PH):QV:=DD a.2
noncomputable abbrev mS(a:Int×QV×QV×Sl×Bool×MH×PH):MH×PH:=a.2.2.2.2.2
noncomputable abbrev kH(a:Int×QV×QV×Sl×Bool×MH×PH):Nat->Nat->Option Value:=(mS a).2
noncomputable abbrev xK(a:QV×QV×QV×Sl×Sl×MH×PH):Sl×MH×PH:=a.2.2.2.2
abbrev NR(a:Sl)(b:QV×QV×QV×Sl×Sl×MH×PH)(c:bJ)(d:Int×Int×QV×QV×Sl×Bool×MH×PH)(e:Prop)(g:QV)(i:MH)(j:PH):Prop:=aA (eP 15) (aX a (xK b).1) (aA (aU c) iY (aA (kQ (qR d.2) b.1) e (aA (kQ g b.2.1) (j8 i (xK b)) (eA j (xK b).2))))
noncomputable abbrev wQ(a:QV×QV×QV×Sl×Sl×MH×PH):QV:=a.2.2.1
abbrev JO(a:Nat)(b c:Sl)(d:Nat)(e:MH)(g:PH)(i:dd->dd->Sl->di->Prop):Prop:=jE (λx n=>Bc (λf j=>aA (cZ a (gK b c)=cZ d (gK x n)) (aL e g d) (aA (Ints g x f) (Ints g n j) (aA (gJ f) (gJ j) (∀(o:Sl)(t:di),i f j o t)))))
noncomputable abbrev Km(a:QV×QV×QV×Sl×Sl×MH×PH):Sl:=(wQ a).args
abbrev BP(a:dt)(b:QV×MH×PH):Prop:=oQ 68 a=vP 68 b.1.enc
noncomputable abbrev Kd(a:Int)(b:PV)(c:Sl):dt:=cG (iN a) dA (pQ b (cG BV BV (cG BV BV (fZ dA (fY c)))))
attribute [push_cast] Gg EL sV j6 kQ BJ CZ wG TF xZ AB mW C0 qR DD sW mS kH xK NR wQ JO Km BP Kd
def an(N:Nat)(cb:Nat)(sc:bJ)(p:Sl)(S:Int)(m:MH)(h:PH)(K:dc):Prop:=
  fU cb 12 m h (λk Z=>aY S 1 (fU cb (ite (gY sc>1) (gY sc) 1) Z h (λE X=>∃(t:Int),eN E t/\K (nS (vZ t)) X h)) (bK (eE (1+k)) 1 (fU cb (ite (gY sc>1) (gY sc) 1) Z h (λE X=>∃(t:Int),eN E t/\K (nS (vZ t)) X h)) (bK (gY sc) 0 (fU cb (ite (gY sc>1) (gY sc) 1) Z h (λE X=>∃(t:Int),eN E t/\K (nS (vZ t)) X h)) (∃(c:Nat),DG (λs p1=>DT (λs1 p2=>∃(d:Int),aA (cZ cb (cE (dX sc) (eJ p (eE (S-1))))=cZ c (cE (dX s) (eJ p1 d))) (aL Z h c) (aA (dM h s1 s) (dK s1=0) (aA (jS (s1.tables=[])) (Ints h p1 p2) (aA (gJ p2) (gO (DE p2)) (aI (Int.negSucc 0<=d) (d<=1000) ((d+1).toNat<N) (Gg (λw q=>eZ (λX h1=>cR h h1 (dR h1 q w)
 (aR (QW q) (DO d.toNat q) (aR ((eG s1 p2 q).2=0) (aT Z X c) (iS X h1 c (EL sc p w h1 (λ_ _ _ s2 h2=>∃(I:Int×Int×QV×QV×Sl×MH×PH->Prop),Cc (λB u=>rK X u h2 B 68 21 (fV w.enc)->∃(x:Int×Int×QV×QV×Sl×MH×PH),aA (I x) (bZ cb) (aA (aH p) (bV S x.1) (aA bS dC (aA (bV (eE (1+k)) x.2.1) l8 (aA (aX s2 (sV x).1) j6 (aA (aU sc) iY (aA (kQ w x.2.2.1) (oQ 68 (cG (iN (eE (1+k))) dA (cG dA dA (cG dA dA (cG dA dA (BJ BV BV (qB B))))))=vP 68 x.2.2.2.1.enc) (aA (j8 u (sV x)) (fI h2 (sV x).2) True))))))))/\∀(x:Int×Int×QV×QV×Sl×MH×PH),I x->∃(I1:QV×QV×MH×PH->Prop),bK x.2.1 3 (fU cb 3 (fG (sV x)) (eV (sV x)) (λE u=>∃
 (I2:QV×QV×Sl×Int×MH×PH->Prop)(A:QV×QV×Sl×Int×MH×PH->Nat),(∃(f:QV×QV×Sl×Int×MH×PH),CZ (I2 f) cb p (sV x).1 f.2.2.1 (aA (bV E f.2.2.2.1) (aU sc) (aA iY (kQ x.2.2.1 f.1) (aI (kQ x.2.2.2.1 f.2.1) (iD u (wG f)) (fI (eV (sV x)) (wG f)) True))))/\∀(f:QV×QV×Sl×Int×MH×PH),lA (I2 f) (decide (f.2.2.2.1>=0)) (fU cb (aG f.2.2.1) (wG f).1 (wG f).2 (λP D=>∃(e:List cv),aI (cT D (cH (TF f)) 3 1 e) (cW (iA e 1*8)) (fN e) (∀(B:Sl)(L:MH),dV D L (cH (TF f)) B 3 1 (eK e (bG P))->∃(j:QV×QV×Sl×Int×MH×PH),aA (I2 j) (A j<A f) (aA (bZ cb) (aH p) (aA bS dC (aA l8 (aX f.2.2.1 j.2.2.1) (aA j6 (bV (eE
 (f.2.2.2.1-1)) j.2.2.2.1) (aA (aU sc) iY (aA (kQ f.1 j.1) (oQ 68 (cG (iN f.2.1.op) (wT f.2.1) (yK f.2.1 (fY B) (fY f.2.1.on) (fZ (DC f.2.1) (fY f.2.1.args))))=vP 68 j.2.1.enc) (aA (iD L (wG j)) (fI (wG f).2 (wG j)) True)))))))))) (zB (wG f).1 (wG f).2->∃(e:QV×QV×MH×PH),aA (I1 e) (aH p) (aA (eP 5) dC (aA l8 j6 (aA (aU sc) iY (aI (kQ f.1 e.1) (kQ f.2.1 e.2.1) (vX (wG f).1 (wG f).2 (xZ e) (AB e)) True))))))) (∃(I2:Int×Int×QV×QV×Sl×Bool×MH×PH->Prop),bK x.2.1 4 (∃(f:Int×Int×QV×QV×Sl×Bool×MH×PH),aA (I2 f) (bZ cb) (aA (aH p) (bV x.1 f.1) (aA bS dC (aA (bV x.2.1 f.2.1) l8 (aA (aX (sV x).1 (mW f.2)) j6 (aA (bV
 x.2.1 f.2.1) (A4 (C0 f.2)) (aA (aU sc) iY (aA (kQ x.2.2.1 (qR f.2)) (kQ x.2.2.2.1 (sW f)) (fM (fG (sV x)) (mS f.2) (eV (sV x))))))))))) (∃(f:Int×Int×QV×QV×Sl×Bool×MH×PH),aA (I2 f) (bZ cb) (aA (aH p) (bV x.1 f.1) (aA bS dC (aA (bV x.2.1 f.2.1) l8 (aA (aX (sV x).1 (mW f.2)) j6 (aA (bV x.2.1 f.2.1) (fS (x.2.1==5) (C0 f.2)) (aA (aU sc) iY (aA (kQ x.2.2.1 (qR f.2)) (kQ x.2.2.2.1 (sW f)) (fM (fG (sV x)) (mS f.2) (eV (sV x)))))))))))/\∀(f:Int×Int×QV×QV×Sl×Bool×MH×PH),lA (I2 f) (C0 f.2) (∃(z:Nat),DG (λB G=>DT (λH J=>∃(Q:Int),aA (cZ cb (cE (dX sc) (eJ p (eE (f.1-2))))=cZ z (cE (dX
 B) (eJ G Q))) (aL (mS f.2).1 (kH f.2) z) (aA (dM (kH f.2) H B) (dK H=0) (aA (jS (H.tables=[])) (Ints (kH f.2) G J) (aA (gJ J) (gO (DE J)) (aI (Int.negSucc 0<=Q) (Q<=1000) ((Q+1).toNat<N) (Gg (λT M=>eZ (λu n=>cR (kH f.2) n (dR n M T) (aR (QW M) (DO Q.toNat M) (aR ((eG H J M).2=0) (aT (mS f.2).1 u z) (iS u n z (EL sc p T n (λ_ _ _ R U=>∃(I3:QV×QV×QV×Sl×Sl×MH×PH->Prop),bK f.2.1 4 (kK (eE (aG (mW f.2)+aG R)) 8 (∃(e:QV×QV×QV×Sl×Sl×MH×PH),CZ (I3 e) cb p (mW f.2) e.2.2.2.1 (NR R e sc f (oQ 68 (cG (iN 5) (wT (sW f)) (yK (sW f) (zO (sW f)) (fY (sW f).on) (fZ (DC (sW f)) (fY (sW
 f).args))))=vP 68 (wQ e).enc) T u U)) (∃(e:QV×QV×QV×Sl×Sl×MH×PH),CZ (I3 e) cb p (mW f.2) e.2.2.2.1 (NR R e sc f (kQ (sW f) (wQ e)) T u U))) (∃(e:QV×QV×QV×Sl×Sl×MH×PH),CZ (I3 e) cb p (mW f.2) e.2.2.2.1 (NR R e sc f (kQ (sW f) (wQ e)) T u U))/\∀(e:QV×QV×QV×Sl×Sl×MH×PH),I3 e->(∃(F:Nat),JO cb e.2.2.2.1 (xK e).1 F (fG (xK e)) (eV (xK e)) (λ_ _ o V=>eZ (λA O=>cR (eV (xK e)) O (lF O o V) (aR (V.length<=10) (aT (fG (xK e)) A F) (iS A O F (Cc (λW D=>rK A D O W 68 21 (fV e.2.1.enc)->∃(j:List cv),zR (cT D (cH (Km e)) 68 21 j) (λy=>aA (dQ 21 y) (oW D O (cH W) 21 y) (aA (u6 j y
 280) (cW (u7 j y)) (∀(Y:Sl)(L:MH),aR (dV D L (cH (Km e)) Y 68 21 (j++y)) (zB L O) (∃(C:QV×QV×MH×PH),aA (I1 C) (aH p) (aA (eP 5) dC (aA l8 j6 (aA (aU sc) iY (aI (kQ e.1 C.1) (BP (cG (iN (wQ e).op) (wT (wQ e)) (yK (wQ e) (zO (wQ e)) (fY o) (fZ (DC (wQ e)) (fY Y)))) C.2) (vX L O (xZ C) (AB C)) True)))))))))))))))/\∀(W:Sl)(A:MH),rK (fG (xK e)) A (eV (xK e)) W 68 21 (fV e.2.1.enc)->∃(F:Nat),JO cb e.2.2.2.1 (xK e).1 F A (eV (xK e)) (λ_ _ o V=>eZ (λD O=>cR (eV (xK e)) O (lF O o V) (aR (V.length<=10) (aT A D F) (iS D O F (∃(j:List cv),zR (cT D (cH (Km e)) 68 21 j) (λy=>aA
 (dQ 21 y) (oW D O (cH W) 21 y) (aA (u6 j y 280) (cW (u7 j y)) (∀(Y:Sl)(L:MH),aR (dV D L (cH (Km e)) Y 68 21 (j++y)) (zB L O) (∃(C:QV×QV×MH×PH),aA (I1 C) (aH p) (aA (eP 5) dC (aA l8 j6 (aA (aU sc) iY (aI (kQ e.1 C.1) (BP (cG (iN (wQ e).op) (wT (wQ e)) (yK (wQ e) (zO (wQ e)) (fY o) (fZ (DC (wQ e)) (fY Y)))) C.2) (vX L O (xZ C) (AB C)) True)))))))))))))))))))))))))))) (∃(I3:Int×QV×QV×Sl×Bool×MH×PH->Prop),bK f.2.1 6 (∃(e:Int×QV×QV×Sl×Bool×MH×PH),CZ (I3 e) cb p (mW f.2) (mW e) (aA (bV f.2.1 e.1) (A4 (C0 e)) (aA (aU sc) iY (aA (kQ (qR f.2) (qR e)) (kQ (sW f) (DD e)) (aA (iD (mS
 f.2).1 (mS e)) (fI (kH f.2) (mS e)) True))))) (bK f.2.1 7 (∃(e:Int×QV×QV×Sl×Bool×MH×PH),CZ (I3 e) cb p (mW f.2) (mW e) (aA (bV f.2.1 e.1) (A4 (C0 e)) (aA (aU sc) iY (aA (kQ (qR f.2) (qR e)) (kQ (sW f) (DD e)) (aA (iD (mS f.2).1 (mS e)) (fI (kH f.2) (mS e)) True))))) (∃(e:Int×QV×QV×Sl×Bool×MH×PH),CZ (I3 e) cb p (mW f.2) (mW e) (aA (bV f.2.1 e.1) (fS (f.2.1==8) (C0 e)) (aA (aU sc) iY (aA (kQ (qR f.2) (qR e)) (kQ (sW f) (DD e)) (aA (iD (mS f.2).1 (mS e)) (fI (kH f.2) (mS e)) True))))))/\∀(e:Int×QV×QV×Sl×Bool×MH×PH),lA (I3 e) (C0 e) (∃(z:Nat)(B:bJ),jE (λG E=>∃(v:QV),DT
 (λH J=>∃(P:dd)(M:Query),aA (cZ cb (cE (dX sc) (cQ p (fP (mW e) (eH (qR e)))))=cZ z (cE (dX B) (cQ G (fP E (eH v))))) (aL (mS e).1 (kH e) z) (aA (dM (kH e) H B) (mQ H) (aA (jV H.tables.length) (Ints (kH e) G J) (aA (gJ J) (Ints (kH e) E P) (aI (gJ P) (dR (kH e) M v) (QW M) (Gg (λT q2=>eZ (λu n=>cR (kH e) n (dR n q2 T) (aR (amJ H J P M q2) (aT (mS e).1 u z) (iS u n z (Cc (λR A=>rK u A n R 68 21 (fV T.enc)->∃(j:List cv),zR (cT A (cH (DD e).args) 68 21 j) (λy=>aA (dQ 21 y) (oW A n (cH R) 21 y) (aA (u6 j y 280) (cW (u7 j y)) (∀(W:Sl)(D:MH),aR (dV A D (cH (DD
 e).args) W 68 21 (j++y)) (zB D n) (∃(C:QV×QV×MH×PH),aA (I1 C) (aH p) (aA (eP 5) dC (aA l8 j6 (aA (aU sc) iY (aI (kQ (qR e) C.1) (BP (qQ (DD e) (fY W)) C.2) (vX D n (xZ C) (AB C)) True)))))))))))))))))))))) (bK e.1 9 (∃(z:Nat)(v:QV),IC (λB E=>aA (cZ cb (kI (DD e) (mW e))=cZ z (eC (G5 v v (Hi v (bH (eF v.on) tE (bH tE (cV v.limit) (aM v.args))))) (mL B))) (aL (mS e).1 (kH e) z) (aA (Ints (kH e) B E) (gJ E) (∀(g o:Sl)(P:Int)(g1:dd)(V:dg),eZ (λu n=>cR (kH e) n (Ints n g g1) (aR (kC n o V) (g1.length<=E.length) (aR (V.length<=E.length) (dG P) (aR (P<=3) (aT (mS e).1 u z) (aR (aL u n z)
 (zB u n) (∃(j:QV×QV×MH×PH),aA (I1 j) (aH p) (aA (eP 5) dC (aA l8 j6 (aA (aU sc) iY (aI (kQ (qR e) j.1) (BP (cG (iN v.op) (wT v) (pQ v.where_ (cG (zO v) (fY v.on) (cG (fY g) (fY o) (fZ (iN P) (fY v.args)))))) j.2) (vX u n (xZ j) (AB j)) True)))))))))))))) (bK e.1 10 (∃(z:Nat)(v:QV),IC (λB E=>aA (cZ cb (kI (DD e) (mW e))=cZ z (eC (G5 v v (Hi v (bH (eF v.on) tE (bH tE (cV v.limit) (aM v.args))))) (mL B))) (aL (mS e).1 (kH e) z) (aA (Ints (kH e) B E) (gJ E) (∀(g o:Sl)(P:Int)(g1:dd)(V:dg),eZ (λu n=>cR (kH e) n (Ints n g g1) (aR (kC n o V) (g1.length<=E.length) (aR (V.length<=E.length) (dG P) (aR (P<=
 3) (aT (mS e).1 u z) (iS u n z (∃(F:Nat)(H:bJ),jE (λG k3=>∃(v1:QV),DT (λR J=>∃(k4:dd)(M:Query),aA (cZ cb (cE (dX sc) (cQ p (fP (mW e) (eH (qR e)))))=cZ F (cE (dX H) (cQ G (fP k3 (eH v1))))) (aL u n F) (aA (dM n R H) (mQ R) (aA (jV R.tables.length) (Ints n G J) (aA (gJ J) (Ints n k3 k4) (aI (gJ k4) (dR n M v1) (QW M) (Gg (λT q2=>eZ (λA U=>cR n U (dR U q2 T) (aR (amJ R J k4 M q2) (aT u A F) (iS A U F (Cc (λW D=>rK A D U W 68 21 (fV T.enc)->∃(j:List cv),zR (cT D (cH v.args) 68 21 j) (λy=>aA (dQ 21 y) (oW D U (cH W) 21 y) (aA (u6 j y 280) (cW (u7 j y)) (∀(Y:Sl)(L:MH),aR
 (dV D L (cH v.args) Y 68 21 (j++y)) (zB L U) (∃(C:QV×QV×MH×PH),aA (I1 C) (aH p) (aA (eP 5) dC (aA l8 j6 (aA (aU sc) iY (aI (kQ (qR e) C.1) (BP (cG (iN v.op) (wT v) (pQ v.where_ (cG (zO v) (fY v.on) (cG (fY g) (fY o) (fZ (iN P) (fY Y)))))) C.2) (vX L U (xZ C) (AB C)) True))))))))))))))))))))))))))))))) ((∃(z:Nat),yH (λB t F G Q=>aA (cZ cb (cQ (mW e) (eJ p 2))=cZ z (cQ B (eJ t (↑Q:Int)))) (aL (mS e).1 (kH e) z) (aA (Ints (kH e) B F) (Ints (kH e) t G) (aI (gJ F) (gJ G) (jV Q) (Cd (λv J=>eZ (λu n=>cR (kH e) n (eX n J v) (aR (wX F G Q J) (aT (mS e).1 u z) (iS u n z (∀(H:Sl)(A:MH),aR (rK u A n
 H 68 21 (fV (qR e).enc)) (zB A n) (∃(j:QV×QV×MH×PH),aA (I1 j) (aH p) (aA (eP 5) dC (aA l8 j6 (aA (aU sc) iY (aI (kQ (qR e) j.1) (BP (Kd 2 v H) j.2) (vX A n (xZ j) (AB j)) True)))))))))))))))/\∀(B:Sl)(u:MH),rK (mS e).1 u (kH e) B 68 21 (fV (qR e).enc)->∃(z:Nat),yH (λH t F G Q=>aA (cZ cb (cQ (mW e) (eJ p 2))=cZ z (cQ H (eJ t (↑Q:Int)))) (aL u (kH e) z) (aA (Ints (kH e) H F) (Ints (kH e) t G) (aI (gJ F) (gJ G) (jV Q) (Cd (λv J=>eZ (λA n=>cR (kH e) n (eX n J v) (aR (wX F G Q J) (aT u A z) (aR (aL A n z) (zB A n) (∃(j:QV×QV×MH×PH),aA (I1 j) (aH p) (aA (eP 5) dC (aA l8
 j6 (aA (aU sc) iY (aI (kQ (qR e) j.1) (BP (Kd 2 v B) j.2) (vX A n (xZ j) (AB j)) True))))))))))))))))))/\∀(f:QV×QV×MH×PH),I1 f->EL sc p f.2.1 (AB f) (λB G M _ n=>branch ((eG B G M).2 !=0) (K (eH f.1) (xZ f) n) (K (eH f.2.1) (xZ f) n))))))))))))))))))))
structure kS(m0 m:MH)(s:Sl)(E:TypeId)(sz:Nat)(xs:List cv):Prop where
 row:cT m s E sz xs
 fresh:∀b i,s.a=some ⟨b,i,none⟩->m0 b=none
def Kept(m0 m:MH)(cb:Nat):Prop:=∀b o,m0 b=some o->b≠cb->m b=some o
theorem Kept.of{m0:MH}(h:aT m0 m cb):Kept m0 m cb:=λb o e n=>by rw[h.other b n];exact e
theorem Kept.on{m0:MH}(k:Kept m0 m cb)(h:aT m m' cb):Kept m0 m' cb:=λb o e n=>by rw[h.other b n];exact k b o e n
theorem aL.blk(c:aL m h cb):∃cs,m cb=some (.cells cs 88 (0,0)):=by
 obtain⟨r,q,cs,k,d,_⟩:=c
 grind
theorem aL.keep(c:aL m h cb)(e:m' cb=m cb)(le:PH.le h h'):aL m' h' cb:=by
 obtain⟨r,q,cs,k,g,d,f⟩:=c;exact⟨r,q,cs,k,bk,d.mono le,f⟩
theorem Kept.free{m0:MH}(k:Kept m0 m cb)(c:aL m h cb)(d:m b=none):m0 b=none:=by
 cases e:m0 b with
 |none=>rfl
 |some o=>
  by_cases f:b=cb
  .obtain⟨cs,g⟩:=c.blk
   grind
  .rw[k b o e f]at d;cases d
theorem cT.nil(m:MH)(E:TypeId)(sz:Nat):cT m bT E sz []:=⟨⟨λ_ h=>by simp at h,λ_ h=>by simp at h⟩,.inl ⟨rfl,rfl⟩⟩
theorem kS.nil(m0 m:MH)(E:TypeId)(sz:Nat):kS m0 m bT E sz []:=⟨cT.nil m E sz,λb i e=>by cases e⟩
theorem kS.on{m0:MH}{s:Sl}{E:TypeId}(r:kS m0 m s E sz xs)(o:aT m m' cb)(c:aL m h cb)(f:E≠88):kS m0 m' s E sz xs:=by
 refine⟨cT.keep r.row (λb i e=>o.other b (λg=>?_)),r.fresh⟩;obtain⟨d,j⟩:=cT.blk r.row e;obtain⟨cs,n⟩:=c.blk
 grind
theorem kS.new{m0:MH}{s t:Sl}{E E':TypeId}{c:Nat}{f:List cv}(r:kS m0 m s E sz xs)(x:rK m m' h t E' c f):kS m0 m' s E sz xs:=by
 refine⟨cT.keep r.row (λb i e=>x.other b (λj g=>?_)),r.fresh⟩;obtain⟨n,d⟩:=cT.blk r.row e;rw[(x.fresh b j g).m_]at d;cases d
theorem rK.frow{m0:MH}{s:Sl}{E:TypeId}(x:rK m m' h s E sz xs)(k:Kept m0 m cb)(c:aL m h cb):kS m0 m' s E sz xs:=⟨x.row,λb i e=>k.free c (x.fresh b i e).m_⟩
theorem rK.at_cb{s:Sl}{E:TypeId}(x:rK m m' h s E sz xs)(c:aL m h cb):m' cb=m cb:=x.other cb (λi e=>by
 obtain⟨cs,d⟩:=c.blk;rw[(x.fresh cb i e).m_]at d;cases d)
theorem Kept.new{m0:MH}{s:Sl}{E:TypeId}(k:Kept m0 m cb)(x:rK m m' h s E sz xs):Kept m0 m' cb:=λb o e n=>by
 rw[x.other b (λi c=>by have:=(x.fresh b i c).m_;rw[k b o e n]at this;cases this)];exact k b o e n
theorem kS.grown{m0:MH}{s s':Sl}{E:TypeId}{f:List cv}(r:kS m0 m s E sz xs)(x:dV m m' s s' E sz f)(k:Kept m0 m cb)(c:aL m h cb):kS m0 m' s' E sz f:=
 ⟨x.row,λb i e=>by
  rcases x.fresh b i e with d|⟨j,d⟩
  .exact k.free c d
  .exact r.fresh b j d⟩
theorem kS.apart{m0:MH}{s t g:Sl}{E E':TypeId}{c:Nat}{n o:List cv}(r:kS m0 m s E sz xs)(q:kS m0 m t E' c n)(x:dV m m' t g E' c o)(z:E≠E'):kS m0 m' s E sz xs:=by
 refine⟨cT.keep r.row (λb i e=>?_),r.fresh⟩;obtain⟨u,d⟩:=cT.blk r.row e;rw[d];refine x.other b _ d (λj y=>?_);obtain⟨f,A⟩:=cT.blk q.row y
 grind
theorem Kept.grown{m0:MH}{s s':Sl}{E:TypeId}{c:List cv}(k:Kept m0 m cb)(r:kS m0 m s E sz xs)(x:dV m m' s s' E sz c):Kept m0 m' cb:=λb o e n=>x.other b o (k b o e n) (λi d=>by rw[r.fresh b i d]at e;cases e)
theorem dV.at_cb{m0:MH}{s s':Sl}{E:TypeId}{d:List cv}(x:dV m m' s s' E sz d)(r:kS m0 m s E sz xs)(c:aL m h cb)(j:E≠88):m' cb=m cb:=by
 obtain⟨cs,e⟩:=c.blk;rw[e];refine x.other cb _ e (λi f=>?_);obtain⟨g,n⟩:=cT.blk r.row f
 grind
theorem aXJ{sz:Nat}:∀{xs:List cv},(∀e∈xs,e.length=sz)->xs.flatten.length=xs.length*sz
 |[],_=>bf
 |x::xs,h=>by
  simp only[flatten_cons,bz,cq];rw[aXJ (λe c=>h e (by simp[c])),h x bf,Nat.add_mul];omega
theorem cT.src{s:Sl}{E:TypeId}{x:cv}(r:cT m s E sz (x::xs)):oW m h s sz (x::xs):=by
 rcases r.ex with⟨_,e⟩|⟨b,d,c,rfl,f,_,_,_,g⟩
 .cases e
 .exact .lent b 0 c E (0,0) rfl rfl f bk
def mK(m0 m:MH):MH:=λb=>match m0 b with|some _=>m b|none=>none
def tC(m0 m:MH)(h:PH):PH:=λb i=>match m0 b,m b with|none,some (.cells cs _ _)=>cs[i]? |_,_=>h b i
theorem yU{m0 m:MH}{h:PH}(d:zB m h):PH.le h (tC m0 m h):=⟨λb i v e=>by
 unfold tC;split
 .rename_i cs E f g c;rw[d.disj b _ c i]at e;cases e
 .exact e⟩
theorem LH{m0 m:MH}{h:PH}(d:zB m h):vX m h (mK m0 m) (tC m0 m h):=by
 refine⟨λb o e=>?_,yU d,λb i v e=>?_⟩
 .unfold mK at e
  grind
 .unfold tC at e;split at e
  .rename_i cs E c f g;exact .inr ⟨cs,E,c,g,e,by unfold mK;rw[f]⟩
  grind
theorem FT{p:Prop}(h:p:=by repeat' (first|with_reducible rfl|exact trivial|exact LH (by assumption)|refine⟨?_,?_⟩|rfl)):p:=h
theorem kS.ice{m0:MH}{s:Sl}{E:TypeId}(r:kS m0 m s E sz xs):bX (tC m0 m h) s sz xs:=by
 rcases r.row.ex with⟨rfl,rfl⟩|⟨b,f,g,rfl,u,c,_,_,n⟩
 .exact bX.nil _ _
 .have y:=r.fresh b 0 rfl;refine⟨rfl,.inr ⟨b,0,rfl,λi e o=>⟨λj v t=>?_⟩⟩,c⟩;have d:=oU r.row.rows.len o j v t;rw[<-n,getElem?_take]at d;split at d
  .unfold tC
   grind
  .cases d
theorem keep_other{m0:MH}(k:Kept m0 m cb):aT m0 (mK m0 m) cb:=⟨λb c=>by
 unfold mK;cases e:m0 b with
 |none=>rfl
 |some o=>exact k b o e c⟩
theorem Rj{m0:MH}(c:aL m h cb)(e:m0 cb≠none)(d:zB m h):aL (mK m0 m) (tC m0 m h) cb:=c.keep (by
 unfold mK
 grind) (yU d)
def QA(d:Nat)(q:Query):Prop:=QW q/\F0 d q
structure QM(d:Nat)(m0 m:MH)(h:PH)(v:QV)(vs:ef):Prop where
 wher:∃w,eX h w v.where_/\K9 w
 cols:∃co:dd,kS m0 m v.columns 3 1 (co.map eI)/\co.length<=1000
 on_:∃l,lF h v.on l
 group_:∃l,Ints h v.group l
 order_:∃l,kC h v.order l
 args_:kS m0 m v.args 68 21 (vs.map QV.enc)
 len_:vs.length<=2
 reps:∀v∈vs,∃q,dR h q v/\QA d q
theorem Vf{d:Nat}{h:PH}:∀{vs:ef},(∀v∈vs,∃q,dR h q v/\QA d q)->∃c:dl,c.length=vs.length/\(∀q∈c,QA d q)/\∀(i:Nat) q,c[i]? =some q->∃v,vs[i]? =some v/\dR h q v
 |[],_=>⟨[],rfl,λq f=>by simp at f,λi q e=>by simp at e⟩
 |v::vs,g=>by
  obtain⟨q,f,j⟩:=g v bf;obtain⟨c,n,t,y⟩:=Vf (vs:=vs) (λu o=>g u (by simp[o]));refine⟨q::c,by simp[n],λx z=>bk,λi x e=>?_⟩
  grind
theorem QM.ice{n:Nat}{m0:MH}{vs:ef}(x:QM n m0 m h v vs)(d:zB m h):∃q,dR (tC m0 m h) q v/\QW q/\DO (n+1) q:=by
 obtain⟨w,o,c⟩:=x.wher;obtain⟨co,t,u⟩:=x.cols;obtain⟨on,y⟩:=x.on_;obtain⟨gr,z⟩:=x.group_;obtain⟨od,f⟩:=x.order_;obtain⟨C,A,j,B⟩:=Vf x.reps;have le:=yU (m0:=m0) d;have D:=x.len_;exact⟨_,sL.rep ⟨rfl,rfl,o.mono le,⟨t.ice,aC⟩,y.mono le,z.mono le,f.mono le,rfl,⟨⟨vs,x.args_.ice,A,λi q e=>let⟨v,k1,k2⟩:=B i q e;⟨v,k1,k2.mono le⟩⟩,aC⟩⟩,Ty.2 ⟨c,λa g=>(j a g).1⟩,DO.node (λa g=>(j a g).2) aC⟩
theorem QM.on{n:Nat}{m0:MH}{vs:ef}(x:QM n m0 m h v vs)(o:aT m m' cb)(c:aL m h cb)(le:PH.le h h'):QM n m0 m' h' v vs:=by
 obtain⟨w,j,d⟩:=x.wher;obtain⟨co,t,f⟩:=x.cols;obtain⟨on,u⟩:=x.on_;obtain⟨gr,y⟩:=x.group_;obtain⟨od,g⟩:=x.order_;exact⟨⟨w,j.mono le,d⟩,⟨co,t.on o c bg,f⟩,⟨on,u.mono le⟩,⟨gr,y.mono le⟩,⟨od,g.mono le⟩,x.args_.on o c bg,x.len_,λv z=>let⟨q,e,ew⟩:=x.reps v z;⟨q,e.mono le,ew⟩⟩
theorem QM.new{d:Nat}{m0:MH}{vs:ef}{t:Sl}{E:TypeId}{j:List cv}(x:QM d m0 m h v vs)(n:rK m m' h' t E sz j)(le:PH.le h h'):QM d m0 m' h' v vs:=by
 obtain⟨w,o,c⟩:=x.wher;obtain⟨co,u,f⟩:=x.cols;obtain⟨on,y⟩:=x.on_;obtain⟨gr,z⟩:=x.group_;obtain⟨od,g⟩:=x.order_;exact⟨⟨w,o.mono le,c⟩,⟨co,u.new n,f⟩,⟨on,y.mono le⟩,⟨gr,z.mono le⟩,⟨od,g.mono le⟩,x.args_.new n,x.len_,λv A=>let⟨q,e,ew⟩:=x.reps v A;⟨q,e.mono le,ew⟩⟩
theorem QM.grow{d:Nat}{m0:MH}{e:QV}{vs:ef}{s':Sl}{u:QV}(x:QM d m0 m h v vs)(g:dV m m' v.args s' 68 21 (vs.map QV.enc++[u.enc]))(k:Kept m0 m cb)(c:aL m h cb)(D:∃q,dR h q u/\QA d q)(E:vs.length<=1)
 (n:e.where_=v.where_)(o:e.columns=v.columns)(t:∃l,lF h e.on l)(y:∃l,Ints h e.group l)(z:∃l,kC h e.order l)(A:e.args=s'):QM d m0 m' h e (vs++[u]):=by
 obtain⟨co,B,f⟩:=x.cols;refine⟨by rw[n];exact x.wher,⟨co,by rw[o];exact B.apart x.args_ g bg,f⟩,t,y,z,by rw[A,cd];exact x.args_.grown g k c,bj,λv C=>?_⟩;rcases mem_append.1 C with j|j
 .exact x.reps v j
 grind
theorem abX(h:dK s=0):DN s:=Classical.byContradiction λc=>by rw[wM c]at h;cases h
theorem zH(h:dK s=0):mQ s:=λt c=>by
 obtain⟨i,d⟩:=mem_iff_getElem?.1 c;have:=(abX h).2 i t d;exact this.1
theorem wL(h:dK s=0):s.tables.length<=8:=(abX h).1
theorem OK(s:j4)(ps:dd)(q:Query):(eG s ps q).1.length<=12:=by
 unfold eG;split
 .split
  .split
   .exact Fo s ps q
   .simp[kV]
  .simp[kV]
 .simp[kV]
theorem abZ{t:Int}(c:dK s=0)(d:ps.all cX=true)(e:0<=t)(f:t<s.tables.length):(eG s ps (.mk 1 t iO [] [] [] [] 0 [])).2=0:=by
 have g:=zH c
 have u:(dT s t).length<=12:=by
  unfold dT;split
  .simp
  .split
   .simp
   .rename_i x j;have:=g x (bx j);simp;omega
 have n:cJ s ps (.mk 1 t iO [] [] [] [] 0 [])=kB s ps (.mk 1 t iO [] [] [] [] 0 []) [] []:=by simp[cJ,fX,arity]
 have o:wK (.mk 1 t iO [] [] [] [] 0 [])=true:=by rfl
 unfold eG;rw[if_pos c,if_pos d,if_pos o,n];unfold kB;rw[if_neg (by simp[arity,eT])];simp only[if_true];rw[if_pos ⟨e,f⟩];unfold DK
 grind
structure Mid(m0:MH)(h3:PH)(cb:Nat)(a q:QV)(mx:MH):Prop where
 case_:aL mx h3 cb
 kept:Kept m0 mx cb
 ex:∃o args,q=⟨o,0,gU,bT,bT,bT,bT,0,args⟩/\kS m0 mx args 68 21 ([a].map QV.enc)
theorem Mid.qm{d:Nat}{m0 e:MH}{c:PH}{a q:QV}(x:Mid m0 c cb a q e)(j:∃f,dR c f a/\QA d f):QM d m0 e c q [a]:=by
 obtain⟨o,args,rfl,g⟩:=x.ex;exact⟨⟨_,DP c,zK⟩,⟨[],kS.nil _ _ _ _,bf⟩,⟨_,w8 _⟩,⟨_,qD _⟩,⟨_,wZ _⟩,g,bf,λv n=>bk⟩
theorem f54_all:∀N,cu 54 (Z3 N)
 |0=>by
  refine eR (fn:=Tryz.f54) (c:=cK Tryz.f54) func54 rfl bg ?_;rintro c0 m h K ⟨cb,sc,p,s,ps,A,rfl,_,_,_,_,_,_,_,_,_,hN,_⟩;omega
 |N+1=>by
  refine iB func54 ?_;rintro c0 m h K ⟨cb,sc,p,s,ps,A,rfl,hc,hs,he,b',hp,a0,a7,d0,d1,hN,hK⟩;refine⟨f54_ctx N cb sc p,rfl,aD FU (aD af (aD LS (aD ax (aD am (aD aCQ (aD aa (aD (f54_all N) aF))))))),an N cb sc p A m h K,be,?_⟩;have f3:=hs.tables.slen;have h8:=zH he;have f4:=wL he;have f5:0<s.tables.length:=length_pos_iff.2 b';have d':(if(sc.tables.len:Int)>1 then(sc.tables.len:Int)else 1)=(sc.tables.len:Int):=by omega
  have d2:m cb≠none:=by obtain⟨cs,e⟩:=hc.blk;rw[e];simp
  dsimp only[an,push_cast];rw[d'];refine⟨cb,12,rfl,hc,λk m1 k0 k1 o1 c1=>?_⟩;refine aE (λhd=>?_) (λhd=>aB (λ_=>?_) (λ_=>aB (λ_=>?_) (λ_=>?_)))
  .exact⟨cb,_,rfl,c1,λH m2 b0 d3 o2 c2=>⟨H,rfl,hK _ _ m2 h (.refl _) (AN h H) (El H) (DO.mono (d:=0) nT.scan (Nat.zero_le _)) (abZ he a7 b0 aC) (o1.trans o2) c2⟩⟩
  .exact⟨cb,_,rfl,c1,λH m2 b0 d3 o2 c2=>⟨H,rfl,hK _ _ m2 h (.refl _) (AN h H) (El H) (DO.mono (d:=0) nT.scan (Nat.zero_le _)) (abZ he a7 b0 aC) (o1.trans o2) c2⟩⟩
  .grind
  have d4:IntKind.i64.wrap (A-1)=A-1:=dO aC aC;have d5:IntKind.i64.wrap (A-2)=A-2:=dO aC aC;rw[d4];refine⟨cb,sc,p,s,ps,A-1,rfl,c1,hs,he,b',hp,a0,a7,aC,aC,aC,λa qa m2 h2 b1 ra b6 a3 d6 o2 c2=>⟨sc,p,a,s,ps,qa,rfl,hs.mono b1,hp.mono b1,ra,λkk h3 b3 ik=>?_⟩⟩;have d7:=OK s ps qa;obtain⟨U,d8⟩:∃U,(A-1).toNat=U:=⟨_,rfl⟩
  have d9:A.toNat=U+1:=by omega
  rw[d8]at a3;have V:QA U qa:=⟨b6,a3.arg⟩
  generalize e':(eG s ps qa).fst=ks at ik d7;clear e';have B:PH.le h h3:=b1.trans b3;have W:dR h3 qa a:=ra.mono b3;refine⟨λ⟨d,op,E,q,I,mx,J⟩=>d=A/\E=a/\I=kk/\J=h3/\Mid m h3 cb a q mx,λO m3 j=>⟨(A,IntKind.i64.wrap (1+k),a,⟨IntKind.i64.wrap (1+k),0,gU,bT,bT,bT,bT,0,O⟩,kk,m3,h3),⟨rfl,rfl,rfl,rfl,?_⟩,MT⟩,?_⟩
  .have H:=(Kept.of o1).on o2;have c3:=c2.mono b3;exact⟨c3.keep (rK.at_cb j c3) (.refl _),H.new j,_,_,rfl,rK.frow j H c3⟩
  rintro⟨A,op,E,q,I,mx,J⟩ ⟨rfl,rfl,rfl,rfl,y⟩;dsimp only;have F:∀(q:QV)(vs:ef)(C:MH)(D:PH),PH.le J D->Kept m C cb->aL C D cb->QM U m C D q vs->zB C D->PH.le J (tC m C D)/\aT m (mK m C) cb/\aL (mK m C) (tC m C D) cb/\∃qq,dR (tC m C D) qq q/\QW qq/\DO (U+1) qq:=λq vs C D l k c x d=>⟨l.trans (yU d),keep_other k,Rj c d2 d,x.ice d⟩
  have join:∀(q:QV)(u:QV)(O:Sl)(C:MH)(D:PH)(Q:Sl->MH->Prop),PH.le J D->Kept m C cb->aL C D cb->QM U m C D q [E]->kS m C O 68 21 [u.enc]->(∃qu,dR D qu u/\QA U qu)->
   (∀L m',(∀q':QV,q'.where_=q.where_->q'.columns=q.columns->(∃l,lF D q'.on l)->(∃l,Ints D q'.group l)->(∃l,kC D q'.order l)->q'.args=L->QM U m m' D q' [E,u])->Kept m m' cb->aL m' D cb->Q L m')->
   ∃xs,cT C ⟨q.args.a,q.args.len,q.args.cap⟩ 68 21 xs/\∃ys,dQ 21 ys/\oW C D ⟨O.a,O.len,O.cap⟩ 21 ys/\(xs.length+ys.length)*280<=140737488355328/\xs.length+ys.length<=140737488355328/\∀(L:Sl)(m':MH),dV C m' ⟨q.args.a,q.args.len,q.args.cap⟩ L 68 21 (xs++ys)->Q L m':=
   λq u O C D Q l k c x f hu hQ=>⟨_,x.args_.row,[u.enc],aYX [u],cT.src f.row,bf,bf,λL m' g=>hQ L m' (λq' e1 e2 e3 e4 e5 e6=>x.grow g k c hu bf e1 e2 e3 e4 e5 e6) (k.grown x.args_ g) (c.keep (dV.at_cb g x.args_ c bg) (.refl _))⟩
  refine⟨λ⟨X,q,C,D⟩=>X=E/\PH.le J D/\aT m C cb/\aL C D cb/\∃qq,dR D qq q/\QW qq/\DO (U+1) qq,aB (λ_=>?_) (λ_=>?_),?_⟩
  ·
   refine⟨cb,3,rfl,y.case_,λn m3 n0 n1 o3 c3=>?_⟩;refine⟨λ⟨X,q,H,n,C,D⟩=>X=E/\H=I/\D=J/\ -1<=n/\n<=2/\aL C J cb/\Kept m C cb/\QM U m C J q [E]/\∃co:dd,kS m C q.columns 3 1 (co.map eI)/\(co.length:Int)<=2-n,λ⟨_,_,_,n,_,_⟩=>(n+1).toNat,⟨(E,q,I,n,m3,J),⟨rfl,rfl,rfl,aC,aC,c3,y.kept.on o3,(y.qm ⟨qa,W,V⟩).on o3 y.case_ (.refl _),[],?_,bj⟩,MT⟩,?_⟩
   .obtain⟨o,args,rfl,hf⟩:=y.ex;exact kS.nil _ _ _ _
   clear y q c3 o3 m3 n0 n1 n;rintro⟨X,q,H,n,C,D⟩ ⟨rfl,rfl,rfl,n0,n1,cy,ky,qm,co,b7,f2⟩;dsimp only;refine aE (λhn=>⟨cb,_,rfl,cy,λc m4 _ _ o4 c4=>⟨_,(b7.on o4 cy bg).row,bj,bj,λL Y g=>?_⟩⟩) (λhn d=>⟨(X,q,mK m C,tC m C D),⟨rfl,F q _ C D (.refl _) ky cy qm d⟩,FT⟩);have P:=b7.on o4 cy bg;have q4:=qm.on o4 cy (.refl _);have k4:=ky.on o4;have a4:kS m Y L 3 1 ((co++[c]).map eI):=by rw[cd];exact P.grown g k4 c4
   have e0:IntKind.i64.wrap (n-1)=n-1:=dO aC aC;rw[e0];refine⟨(X,{q with columns:=L},H,n-1,Y,D),⟨rfl,rfl,rfl,bk,bk,c4.keep (dV.at_cb g P c4 bg) (.refl _),k4.grown P g,⟨q4.wher,⟨_,a4,bj⟩,q4.on_,q4.group_,q4.order_,q4.args_.apart P g bg,q4.len_,q4.reps⟩,_,a4,bj⟩,bk,MT⟩
  .refine⟨λ⟨d,op,X,q,H,t,C,D⟩=>d=A/\X=E/\H=I/\D=J/\Mid m J cb E q C,aB (λ_=>⟨(A,op,E,q,I,true,mx,J),⟨rfl,rfl,rfl,rfl,y⟩,MT⟩) (λ_=>⟨(A,op,E,q,I,op==5,mx,J),⟨rfl,rfl,rfl,rfl,y⟩,MT⟩),?_⟩;clear y q mx;rintro⟨A,op,E,q,I,t,mx,J⟩ ⟨rfl,rfl,rfl,rfl,y⟩;dsimp only;refine aB (λ_=>?_) (λ_=>?_)
   ·
    rw[d5];refine⟨cb,sc,p,s,ps,A-2,rfl,y.case_,hs.mono B,he,b',hp.mono B,a0,a7,aC,aC,aC,λb qb Y R z rb b8 e7 _ o5 Z=>⟨sc,p,b,s,ps,qb,rfl,hs.mono (B.trans z),hp.mono (B.trans z),rb,λl h6 M il=>?_⟩⟩;have b9:QA U qb:=⟨b8,(e7.mono aC).arg⟩
    have e8:=OK s ps qb;generalize f6:(eG s ps qb).fst=ls at il e8;have S:QM U m Y h6 q [E]:=(y.qm ⟨qa,W,V⟩).on o5 y.case_ (z.trans M);have k6:=y.kept.on o5;have T:=Z.mono M;refine⟨λ⟨X,b2,q,H,l2,C,D⟩=>X=E/\b2=b/\H=I/\l2=l/\D=h6/\aL C h6 cb/\Kept m C cb/\QM U m C h6 q [E],aB (λ_=>aE (λ_=>⟨(E,b,{q with op:=5},I,l,Y,h6),⟨rfl,rfl,rfl,rfl,rfl,T,k6,⟨S.wher,S.cols,S.on_,S.group_,S.order_,S.args_,S.len_,S.reps⟩⟩,MT⟩) (λ_=>⟨(E,b,q,I,l,Y,h6),⟨rfl,rfl,rfl,rfl,rfl,T,k6,S⟩,MT⟩)) (λ_=>⟨(E,b,q,I,l,Y,h6),⟨rfl,rfl,rfl,rfl,rfl,T,k6,S⟩,MT⟩),?_⟩;have c':=rb.mono M;have a1:PH.le J h6:=z.trans M;clear S k6 T o5 Z rb z y q;rintro⟨X,b,q,H,l,C,h6⟩ ⟨rfl,rfl,rfl,rfl,rfl,T,k6,S⟩;dsimp only;refine⟨⟨cb,H,l,ks,ls,rfl,T,ik.mono a1,il,aC,aC,λo on m7 h7 G b4 _ o7 c7 O m8 j=>?_⟩,λO m7 j=>⟨cb,H,l,ks,ls,rfl,T.keep (rK.at_cb j T) (.refl _),ik.mono a1,il,aC,aC,λo on m8 h7 G b4 _ o8 c8=>?_⟩⟩
    .have k7:=k6.on o7;refine join q b O m8 h7 _ (a1.trans G) (k7.new j) (c7.keep (rK.at_cb j c7) (.refl _)) ((S.on o7 T G).new j (.refl _)) (rK.frow j k7 c7) ⟨qb,c'.mono G,b9⟩ (λL m9 hq k9 c9 d=>?_);exact⟨(X,{q with on:=o,args:=L},mK m m9,tC m m9 h7),⟨rfl,F _ _ m9 h7 (a1.trans G) k9 c9 (hq {q with on:=o,args:=L} rfl rfl ⟨on,b4⟩ (let⟨l,e⟩:=S.group_;⟨l,e.mono G⟩) (let⟨l,e⟩:=S.order_;⟨l,e.mono G⟩) rfl) d⟩,FT⟩
    .have k7:=k6.new j;have c7:aL m7 h6 cb:=T.keep (rK.at_cb j T) (.refl _);have k8:=k7.on o8;refine join q b O m8 h7 _ (a1.trans G) k8 c8 ((S.new j (.refl _)).on o8 c7 G) ((rK.frow j k6 T).on o8 c7 bg) ⟨qb,c'.mono G,b9⟩ (λL m9 hq k9 c9 d=>?_);exact⟨(X,{q with on:=o,args:=L},mK m m9,tC m m9 h7),⟨rfl,F _ _ m9 h7 (a1.trans G) k9 c9 (hq {q with on:=o,args:=L} rfl rfl ⟨on,b4⟩ (let⟨l,e⟩:=S.group_;⟨l,e.mono G⟩) (let⟨l,e⟩:=S.order_;⟨l,e.mono G⟩) rfl) d⟩,FT⟩
   .refine⟨λ⟨op,X,q,H,t,C,D⟩=>X=E/\H=I/\D=J/\Mid m J cb E q C,aB (λ_=>⟨(op,E,q,I,true,mx,J),⟨rfl,rfl,rfl,y⟩,MT⟩) (λ_=>aB (λ_=>⟨(op,E,q,I,true,mx,J),⟨rfl,rfl,rfl,y⟩,MT⟩) (λ_=>⟨(op,E,q,I,op==8,mx,J),⟨rfl,rfl,rfl,y⟩,MT⟩)),?_⟩;clear y q mx;rintro⟨op,E,q,I,t,mx,J⟩ ⟨rfl,rfl,rfl,y⟩;dsimp only;have q3:=y.qm ⟨qa,W,V⟩;refine aB (λ_=>?_) (λ_=>aB (λ_=>?_) (λ_=>aB (λ_=>?_) (λ_=>?_)))
    ·
     refine⟨cb,sc,p,I,E,s,ps,ks,qa,rfl,y.case_,hs.mono B,h8,aC,hp.mono B,a0,ik,aC,W,V.1,λw qw Y R z e9 a5 o5 Z O m6 j=>?_⟩;have k5:=y.kept.on o5;refine join q w O m6 R _ z (k5.new j) (Z.keep (rK.at_cb j Z) (.refl _)) ((q3.on o5 y.case_ z).new j (.refl _)) (rK.frow j k5 Z) ⟨qw,e9,a5.qw,a5.siz U a3⟩ (λL m9 hq k9 c9 d=>?_);have q5:=q3.on o5 y.case_ z;exact⟨(E,{q with args:=L},mK m m9,tC m m9 R),⟨rfl,F _ _ m9 R z k9 c9 (hq {q with args:=L} rfl rfl q5.on_ q5.group_ q5.order_ rfl) d⟩,FT⟩
    ·
     obtain⟨o,args,rfl,hf⟩:=y.ex;refine⟨cb,⟨o,0,gU,bT,bT,bT,bT,0,args⟩,I,ks,rfl,y.case_,ik,aC,λg od kk gr a8 Y R z hg a9 _ _ _ _ o5 Z d=>?_⟩;have q5:=q3.on o5 y.case_ z;exact⟨(E,⟨o,0,gU,bT,bT,g,od,kk,args⟩,mK m Y,tC m Y R),⟨rfl,F _ [E] Y R z (y.kept.on o5) Z ⟨q5.wher,q5.cols,q5.on_,⟨gr,hg⟩,⟨a8,a9⟩,q5.args_,q5.len_,q5.reps⟩ d⟩,FT⟩
    ·
     obtain⟨o,args,rfl,hf⟩:=y.ex;refine⟨cb,⟨o,0,gU,bT,bT,bT,bT,0,args⟩,I,ks,rfl,y.case_,ik,aC,λg od kk gr a8 Y R z hg a9 _ _ _ _ o5 Z=>?_⟩;have q5:=q3.on o5 y.case_ z;have f':QM U m Y R ⟨o,0,gU,bT,bT,g,od,kk,args⟩ [E]:=⟨q5.wher,q5.cols,q5.on_,⟨gr,hg⟩,⟨a8,a9⟩,q5.args_,q5.len_,q5.reps⟩
     refine⟨cb,sc,p,I,E,s,ps,ks,qa,rfl,Z,hs.mono (B.trans z),h8,aC,hp.mono (B.trans z),a0,ik.mono z,aC,W.mono z,V.1,λw qw m6 h6 M f0 a5 o6 T O m7 j=>?_⟩;have k6:=(y.kept.on o5).on o6;refine join ⟨o,0,gU,bT,bT,g,od,kk,args⟩ w O m7 h6 _ (z.trans M) (k6.new j) (T.keep (rK.at_cb j T) (.refl _)) ((f'.on o6 Z M).new j (.refl _)) (rK.frow j k6 T) ⟨qw,f0,a5.qw,a5.siz U a3⟩ (λL m9 hq k9 c9 d=>?_);exact⟨(E,⟨o,0,gU,bT,bT,g,od,kk,L⟩,mK m m9,tC m m9 h6),⟨rfl,F _ _ m9 h6 (z.trans M) k9 c9 (hq ⟨o,0,gU,bT,bT,g,od,kk,L⟩ rfl rfl ⟨_,w8 _⟩ ⟨gr,hg.mono M⟩ ⟨a8,a9.mono M⟩ rfl) d⟩,FT⟩
    ·
     refine⟨⟨cb,I,p,ks,ps,2,rfl,y.case_,ik,hp.mono B,aC,a0,aC,λpv pp Y R z rp b5 o5 Z O m6 j d=>?_⟩,λO Y j=>⟨cb,I,p,ks,ps,2,rfl,y.case_.keep (rK.at_cb j y.case_) (.refl _),ik,hp.mono B,aC,a0,aC,λpv pp m6 R z rp b5 o6 T d=>?_⟩⟩
     .have k5:=y.kept.on o5;exact⟨(E,⟨2,0,pv,bT,bT,bT,bT,0,O⟩,mK m m6,tC m m6 R),⟨rfl,F _ [E] m6 R z (k5.new j) (Z.keep (rK.at_cb j Z) (.refl _)) ⟨⟨pp,rp,b5.vals⟩,⟨[],kS.nil _ _ _ _,bf⟩,⟨_,w8 _⟩,⟨_,qD _⟩,⟨_,wZ _⟩,rK.frow j k5 Z,bf,λv hv=>by simp at hv;subst hv;exact⟨qa,W.mono z,V⟩⟩ d⟩,FT⟩
     .have k5:=y.kept.new j;have Z:aL Y J cb:=y.case_.keep (rK.at_cb j y.case_) (.refl _);exact⟨(E,⟨2,0,pv,bT,bT,bT,bT,0,O⟩,mK m m6,tC m m6 R),⟨rfl,F _ [E] m6 R z (k5.on o6) T ⟨⟨pp,rp,b5.vals⟩,⟨[],kS.nil _ _ _ _,bf⟩,⟨_,w8 _⟩,⟨_,qD _⟩,⟨_,wZ _⟩,(rK.frow j y.kept y.case_).on o6 Z bg,bf,λv hv=>by simp at hv;subst hv;exact⟨qa,W.mono z,V⟩⟩ d⟩,FT⟩
  .rintro⟨X,q,C,D⟩ ⟨rfl,a6,oy,cy,qq,rq,f1,f7⟩;dsimp only;refine⟨sc,p,q,s,ps,qq,rfl,hs.mono (B.trans a6),hp.mono (B.trans a6),rq,λsl R z _=>aB (λe=>?_) (λe=>?_)⟩
   .exact hK X qa C R ((B.trans a6).trans z) ((W.mono a6).mono z) V.1 (by rw[d9];exact a3.mono aC) d6 oy (cy.mono z)
   .exact hK q qq C R ((B.trans a6).trans z) (rq.mono z) f1 bk (br e) oy (cy.mono z)
mutual
def OD(st:List cw):Query->cw
 |.mk op ta w co on gr od li args=>if op=1 then st.getD ta.toNat []else opF op (.mk op ta w co on gr od li args) (U3 st args)
def U3(st:List cw):dl->List cw
 |[]=>[]
 |q::qs=>OD st q::U3 st qs
end
structure GK(st ls:List cw)(k:Nat)(ts:dd):Prop where
 at_:∀(j:Nat)(t:Int),ts[j]? =some t->ls.getD (k+j) []=st.getD t.toNat []
theorem GK.left{st ls:List cw}{b:dd}(x:GK st ls k (a++b)):GK st ls k a:=
 ⟨λj t h=>x.at_ j t bk⟩
theorem GK.right{st ls:List cw}{b:dd}(x:GK st ls k (a++b)):GK st ls (k+a.length) b:=
 ⟨λj t h=>by
  have:=x.at_ (a.length+j) t bk
  grind⟩
theorem awZ{args:dl}{c:List dd}(d:fX s ps args=(c,0))(e:(c.length:Int)=arity 1):args=[]:=by
 cases args with
 |nil=>rfl
 |cons q f=>obtain⟨_,_,_,_,rfl⟩:=oR d;simp[arity]at e;omega
mutual
theorem SG{s:j4}{ps:dd}{st ls:List cw}:∀{q:Query}{ks:dd}{k:Nat},cJ s ps q=(ks,0)->GK st ls k (lV q)->lT ls q k=(OD st q,k+(lV q).length)
 |.mk op ta w co on gr od li args,ks,k,h,c=>by
  obtain⟨g,f,j,o⟩:=Fp h;by_cases e:op=1
  .subst e;have n:=awZ f j;subst n;have d:lV (.mk 1 ta w co on gr od li [])=[ta]:=by simp[lV,jY]
   rw[d]at c⊢
   have:=c.at_ 0 ta rfl;rw[Nat.add_zero]at this;rw[lT,OD,if_pos rfl,if_pos rfl,this];rfl
  .have d:lV (.mk op ta w co on gr od li args)=jY args:=by simp[lV,e]
   rw[d]at c⊢
   rw[lT,OD,if_neg e,if_neg e,PX f c]
theorem PX{s:j4}{ps:dd}{st ls:List cw}:∀{d:dl}{c:List dd}{k:Nat},fX s ps d=(c,0)->GK st ls k (jY d)->gM ls d k=(U3 st d,k+(jY d).length)
 |[],c,k,h,_=>by simp[gM,U3,jY]
 |q::d,c,k,h,e=>by
  obtain⟨n,f,g,j,rfl⟩:=oR h;rw[jY]at e;rw[gM,U3,jY,SG g e.left,PX j e.right,bz,Nat.add_assoc]
end
mutual
theorem OF{s:j4}{ps:dd}:∀{q:Query}{ks:dd},cJ s ps q=(ks,0)->∀t∈lV q,0<=t/\t<s.tables.length
 |.mk op ta w co on gr od li args,ks,h,t,f=>by
  obtain⟨g,j,n,c⟩:=Fp h;rw[lV]at f;rcases mem_append.1 f with d|d
  .split at d
   .rename_i e;subst e;simp only[mem_singleton]at d;subst d;unfold kB at c;dsimp only at c;split at c
    .simp[kV]at c
    try rw[if_pos rfl]at c
    split at c
    .omega
    .simp[kV]at c
   .simp at d
  .exact Q3 j t d
theorem Q3{s:j4}{ps:dd}:∀{e:dl}{d:List dd},fX s ps e=(d,0)->∀t∈jY e,0<=t/\t<s.tables.length
 |[],d,h,t,c=>by rw[jY]at c;simp at c
 |q::e,d,h,t,c=>by
  obtain⟨n,f,g,j,rfl⟩:=oR h;rw[jY]at c;rcases mem_append.1 c with c|c
  .exact OF g t c
  .exact Q3 j t c
end
def zW(key:Int)(k:Int)(i:Nat)(v:VV):Bool:=kN v&&(v.kind==k||((v.kind==2||v.kind==1)&&decide (key<=(i:Int))))
def FV(t:sZ)(r:de):Bool:=decide (r.length=t.columns.length)&&(List.range r.length).all λi=>zW t.key (t.columns.getD i ⟨⟨#[]⟩,0⟩).kind i (r.getD i zeroV)
def dU(t:sZ)(r:de):de:=r.take (max 0 (min t.key r.length)).toNat
def aaX(t:sZ)(l:cw):Prop:=(∀r∈l,FV t r=true)/\∀(i:Nat) r c,l[i]? =some r->l[i+1]? =some c->cN (dU t r) (dU t c)<0
def Lj(s:j4)(st:List cw):Prop:=∀(i:Nat) t l,s.tables[i]? =some t->st[i]? =some l->aaX t l
open Classical in
noncomputable def xE(s:j4)(st:List cw):Int:=
 if dK s≠0 then dK s else if 512<(st.map λl=>(l.length:Int)).sum then 2 else if st.length≠s.tables.length then 80 else if Lj s st then 0 else 80
def StV(st:List cw):Prop:=∀l∈st,∀r∈l,∀v∈r,H7 v.kind/\H7 v.int
def qO(t:sZ)(key row:de):Bool->cw->cw
 |d,[]=>if d then[]else[row]
 |d,r::l=>(if 0<=cN (dU t r) key/\d=false then[row]else[])++((if cN (dU t r) key≠0 then[r]else[])++qO t key row (d||decide (0<=cN (dU t r) key)) l)
def Lf(t:sZ)(l:cw):Prop:=l.Pairwise λx y=>cN (dU t x) (dU t y)<0
theorem Ud{x y z:de}(c:cN x y<0)(d:cN y z<0):cN x z<0:=by
 have:=zY x y z aC aC;rcases Int.lt_or_eq_of_le this with h|h
 .exact h
 .rw[gT]at h;subst h;have:=kL x y;omega
theorem Jo{t:sZ}{key row:de}:∀{l:cw},(∀r∈l,0<cN (dU t r) key)->qO t key row true l=l
 |[],_=>rfl
 |r::l,h=>by
  have d:=h r (mem_cons_self ..);rw[qO,if_neg bf,if_pos aC,Bool.true_or,Jo λx c=>h x (mem_cons_of_mem _ c)];rfl
theorem CK{t:sZ}{key row z:de}:∀{l:cw}{d:Bool},z∈qO t key row d l->z=row\/z∈l
 |[],d,h=>by
  rw[qO]at h
  grind
 |r::l,d,h=>by
  rw[qO]at h;rcases mem_append.1 h with h|h
  .grind
  .rcases mem_append.1 h with h|h
   .grind
   .exact(CK h).imp id λh=>mem_cons_of_mem _ h
theorem NA{t:sZ}{key row:de}:∀{l:cw}{d:Bool},(qO t key row d l).length<=l.length+(if d then 0 else 1)
 |[],d=>by rw[qO];grind
 |r::l,d=>by
  have:=NA (t:=t) (key:=key) (row:=row) (l:=l) (d:=d||decide (0<=cN (dU t r) key));rw[qO]
  grind
theorem OL{t:sZ}{row:de}:∀{l:cw},Lf t l->Lf t (qO t (dU t row) row false l)
 |[],_=>by rw[qO];exact pairwise_singleton _ _
 |r::l,h=>by
  obtain⟨f,n⟩:=pairwise_cons.1 h;rw[qO];by_cases g:0<=cN (dU t r) (dU t row)
  .rw[if_pos ⟨g,rfl⟩,show(false||decide (0<=cN (dU t r) (dU t row)))=true by simp[g]];by_cases j:cN (dU t r) (dU t row)=0
   .rw[if_neg (by simp[j])];have e:=gT.1 j
    rw[Jo λx c=>by
     have d:=f x c;rw[e]at d;have:=kL (dU t x) (dU t row);omega]
    exact pairwise_cons.2 ⟨λx c=>by rw[<-e];exact f x c,n⟩
   .rw[if_pos j];have d:cN (dU t row) (dU t r)<0:=by have:=kL (dU t row) (dU t r);omega
    rw[Jo λx c=>by
     have o:=Ud d (f x c);have:=kL (dU t x) (dU t row);omega]
    refine pairwise_cons.2 ⟨λx c=>?_,h⟩;rcases mem_cons.1 c with rfl|c
    .exact d
    .exact Ud d (f x c)
  .rw[if_neg (by simp[g]),if_pos aC,show(false||decide (0<=cN (dU t r) (dU t row)))=false by simp[g]];refine pairwise_cons.2 ⟨λx c=>?_,OL n⟩;rcases CK c with rfl|c
   .omega
   grind
theorem UX{st:List cw}(h:xE s st=0):dK s=0/\st.length=s.tables.length/\Lj s st/\(st.map λl=>(l.length:Int)).sum<=512:=by
 unfold xE at h
 grind
theorem a1J{t:sZ}{x y:de}(h:x.length=y.length):(dU t x).length=(dU t y).length:=by simp[dU,h]
theorem bmZ{t:sZ}{x y:de}(h:x.length=y.length)(c:cN (dU t x) (dU t y)<0):cN x y<0:=by
 have d:x=dU t x++x.drop (max 0 (min t.key x.length)).toNat:=(take_append_drop _ _).symm;have e:y=dU t y++y.drop (max 0 (min t.key y.length)).toNat:=(take_append_drop _ _).symm;rw[d,e,K3 (a1J h),if_pos aC];exact c
theorem Lf.of{t:sZ}:∀{l:cw},(∀(i:Nat) r c,l[i]? =some r->l[i+1]? =some c->cN (dU t r) (dU t c)<0)->Lf t l
 |[],_=>List.Pairwise.nil
 |[_],_=>pairwise_singleton _ _
 |a::b::l,h=>by
  have e:Lf t (b::l):=Lf.of λi r c g j=>h (i+1) r c g j;refine pairwise_cons.2 ⟨λx d=>?_,e⟩;have f:=h 0 a b rfl rfl;rcases mem_cons.1 d with rfl|d
  .exact f
  .exact Ud f ((pairwise_cons.1 e).1 x d)
theorem Lf.adj{t:sZ}{l:cw}(h:Lf t l)(i:Nat)(r c:de)(d:l[i]? =some r)(e:l[i+1]? =some c):cN (dU t r) (dU t c)<0:=by
 obtain⟨f,rfl⟩:=List.getElem?_eq_some_iff.1 d;obtain⟨g,rfl⟩:=List.getElem?_eq_some_iff.1 e;exact pairwise_iff_getElem.1 h i (i+1) f g aC
theorem aVZ{t:ByteArray}(h:t.toList=(⟨#[]⟩:ByteArray).toList):t.size<=64:=by rw[B4 h];decide
theorem Iy{t:ByteArray}(h:Ge t=true):t.size<=64:=aVZ (by simp only[Ge,beq_iff_eq]at h;rw[h,ByteArray.toList_eq])
theorem UM{v:VV}(h:kN v=true):v.text.size<=64:=by
 unfold kN at h;split at h
 .simp only[cg]at h;exact Iy h.2
 .split at h
  .simp only[cg]at h;exact Iy h.2
  .split at h
   .exact Iy h
   grind
theorem Vj(h:(eG s ps q).2=0):dK s=0/\ps.all cX=true/\wK q=true/\(cJ s ps q).2=0:=by
 unfold eG at h;split at h
 .rename_i c;split at h
  .rename_i d;split at h
   .grind
   .simp[kV]at h
  .simp[kV]at h
 .rename_i c;simp[kV]at h;omega
theorem MD{v:VV}(h:kN v=true):1<=v.kind/\v.kind<=5/\v.text.size<=64:=by
 refine⟨?_,?_,UM h⟩
 all_goals
  unfold kN at h;split at h
  .rename_i e;simp at e;omega
  .split at h
   .rename_i e;simp at e;omega
   .split at h
    .rename_i e;simp at e;omega
    .split at h
     .rename_i e;simp at e;omega
     .cases h
theorem T0{t:sZ}{r:de}(h:FV t r=true):r.length=t.columns.length/\∀v∈r,kN v=true:=by
 simp only[FV,cg,cm,all_eq_true,mem_range]at h;refine⟨h.1,λv e=>?_⟩;obtain⟨i,c,rfl⟩:=mem_iff_getElem.1 e;have d:=h.2 i c;simp only[zW,cg,getD_eq_getElem?_getD,bu c,Option.getD_some]at d;exact d.1
theorem bxZ{t:sZ}{l:cw}(u:t.columns.length<=12)(c:aaX t l)(g:∀r∈l,∀v∈r,H7 v.kind/\H7 v.int)(j:l.length<=8000000):kD t.columns.length l:=by
 have n:∀r∈l,r.length=t.columns.length:=λr d=>(T0 (c.1 r d)).1;refine⟨λr d=>⟨bk,λv e=>?_⟩,n,?_,j⟩
 .have o:=(T0 (c.1 r d)).2 v e;have f:=g r d v e;exact⟨f.1,f.2,(MD o).2.2⟩
 .exact(Lf.of c.2).imp_of_mem fun{x y} e z h=>bmZ bk h
def yR(st:List cw)(q:Query):List cw:=(lV q).map λt=>st.getD t.toNat []
theorem b6Z{st:List cw}{t:Int}(c:xE s st=0)(n:StV st)(o:0<=t)(D:t<s.tables.length):kD (dT s t).length (st.getD t.toNat [])/\st.getD t.toNat []∈st:=by
 obtain⟨u,E,y,F⟩:=UX c;have f:t.toNat<s.tables.length:=by omega
 have g:t.toNat<st.length:=by omega
 have j:s.tables[t.toNat]? =some s.tables[t.toNat]:=bu f;have z:st[t.toNat]? =some st[t.toNat]:=bu g;have A:st.getD t.toNat []=st[t.toNat]:=bk
 have d:st[t.toNat]∈st:=getElem_mem g;have G:=zH u _ (getElem_mem f);have B:(dT s t).length=s.tables[t.toNat].columns.length:=by rw[dT,if_neg aC,j];simp
 have e:∀{l:List cw}{x},x∈l->((x.length:Nat):Int)<=(l.map λl=>(l.length:Int)).sum:=fun{l x}=>by
  induction l with
  |nil=>grind
  |cons a l C=>
   intro h
   have o:∀l:List cw,0<=(l.map λl=>(l.length:Int)).sum:=λl=>by
    induction l with
    |nil=>simp
    |cons a l C=>grind
   grind
 have:=e d;rw[A,B];exact⟨bxZ aC (y _ _ _ j z) (n _ d) aC,d⟩
theorem aXX{st:List cw}{ks:dd}{c:Nat}(d:xE s st=0)(o:StV st)(A:∀l∈st,l.length<=c)(u:1<=c)(e:cJ s ps q=(ks,0))(g:rW c q<=8000000):
 okQ (yR st q) q 0/\(lT (yR st q) q 0).1=OD st q/\kD ks.length (OD st q)/\(OD st q).length<=8000000:=by
 have z:∀(j:Nat)(t:Int),(lV q)[j]? =some t->(yR st q)[0+j]? =some (st.getD t.toNat []):=λj t h=>by rw[Nat.zero_add,yR,getElem?_map,h];rfl
 have x:=W2 u (ls:=yR st q) (k:=0) e ⟨λj t h=>⟨_,z j t h,by
  have n:=OF e t (bx h);have:=b6Z d o n.1 n.2
  grind⟩⟩ g
 have y:=SG (st:=st) (ls:=yR st q) (k:=0) e ⟨λj t h=>bk⟩;have f:(lT (yR st q) q 0).1=OD st q:=by rw[y]
 refine⟨x.ok,f,by rw[<-f];exact x.rel,?_⟩;rw[<-f];exact cr x.bnd g
def QO(s:Sl):CV:=.val (.agg ⟨[.slice s.a s.len s.cap]⟩)
def b1Z:Vc.Spec:=λc m h K=>∃v s,c=[aS v,cI 3]/\dM h s v/\K (cI (dK s)) m h
def eD(st:List cw):Int:=(st.map λl=>(l.length:Int)).sum
def Uy:Vc.Spec:=λc m h K=>∃s d,c=[QO s]/\Leaves h s d/\d.length<=1000/\K (cI (eD d)) m h
def aBQ(s:j4)(t:Int)(r:de):Bool:=i7 s t&&(match s.tables[t.toNat]? with|some c=>FV c r|none=>false)
def iI(s:j4)(t:Int)(r:de):de:=match(if i7 s t then s.tables[t.toNat]? else none)with|some c=>dU c r|none=>[]
def b2Z:Vc.Spec:=λc m h K=>∃v s t d r,c=[aS v,cI t,cS d,cI 3]/\dM h s v/\bO h d r/\K (cB (aBQ s t r)) m h
def H5:Vc.Spec:=λc m h K=>∃v s t d r,c=[aS v,cI t,cS d]/\dM h s v/\bO h d r/\∀e,bO h e (iI s t r)->K (cS e) m h
def Nn:Vc.Spec:=λc m h K=>∃v s e d,c=[aS v,cI 3,QO e]/\dM h s v/\Leaves h e d/\d.length<=1000/\K (cI (xE s d)) m h
noncomputable def bhJ:Ctx:=dD [(113,aUZ),(114,My)] [(7,{A:=Nat×bR×Sl×MH×PH,st:=λ⟨i,t,s,m,h⟩=>bU 95 99 [(3,iv 3),(9,.at (.ptr 9 0)),(41,sv s),(42,iv s.len),(43,iv i)] [(9,.cells 74 (t.enc.map .val))] m h})] [(12,{A:=Nat×bR×VV×Sl×Bool×MH×PH,st:=λ⟨i,t,v,s,b,m,h⟩=>bU 95 99 [(3,iv 3),(9,.at (.ptr 9 0)),(10,iv i),(11,.at (.ptr 11 0)),(12,bv b),(41,sv s),(42,iv s.len),(43,iv i)] [(9,.cells 74 (t.enc.map .val)),(11,.cells 58 (v.enc.map .val))] m h}),
 (13,{A:=Nat×bR×VV×Sl×Bool×Bool×MH×PH,st:=λ⟨i,t,v,s,b,c,m,h⟩=>bU 95 99 [(3,iv 3),(9,.at (.ptr 9 0)),(10,iv i),(11,.at (.ptr 11 0)),(12,bv b),(13,bv c),(41,sv s),(42,iv s.len),(43,iv i)] [(9,.cells 74 (t.enc.map .val)),(11,.cells 58 (v.enc.map .val))] m h})] [] false
noncomputable def ahX(s:Sl)(m:MH)(h:PH):Ctx:=dD [] [(3,{A:=Nat×Int,st:=λ⟨i,n⟩=>bU 19 20 [(3,iv n),(7,sv s),(8,iv s.len),(9,iv i)] [] m h})] [] [] false
noncomputable def bHJ(v:bJ)(s:Sl)(m:MH)(h:PH):Ctx:=dD [(115,b1Z),(74,Uy),(116,b2Z),(118,H5),(117,FQ)] [(9,{A:=Nat,st:=λi=>bU 69 72 [(1,iv 3),(3,.at (.ptr 3 0)),(29,sv s),(30,iv s.len),(31,iv i)] [(3,.cells 29 (v.enc.map .val))] m h}),
 (12,{A:=Nat×Sl×Nat,st:=λ⟨i,u,j⟩=>bU 69 72 [(1,iv 3),(3,.at (.ptr 3 0)),(8,iv i),(9,sv u),(29,sv s),(30,iv s.len),(31,iv i),(36,sv u),(37,iv u.len),(38,iv j)] [(3,.cells 29 (v.enc.map .val))] m h})] [] [] false
abbrev Hw(a:j4)(b:dc)(c:MH)(d:PH)(e:Prop):Prop:=branch (dK a !=0) (b (jA (dK a)) c d) e
attribute [push_cast] Hw
def Sv(v:bJ)(m:MH)(h:PH)(K:dc):Prop:=
  G7 v h (λs=>Hw s K m h (K (jA 0) m h))
def KJ(s:Sl)(m:MH)(h:PH)(K:dc):Prop:=
  ∃(I:Nat×Int->Prop)(d:Nat×Int->Nat),(∃(x:Nat×Int),aA (I x) (bV 0 x.2) (aA (aH s) (bI s) (cF (bE x.1) m m h h)))/\∀(x:Nat×Int),I x->aY (↑x.1:Int) (aG s) (dN s.a (↑x.1:Int) s (λb o y=>aJ m h b (bB o x.1 1) (aM y)/\∃(c:Nat×Int),aA (I c) (d c<d x) (aA (bV (eE (x.2+aG y)) c.2) (aH s) (aA (bI s) (fJ (aW x.1 1)=bY c.1) (aA (m=m) (h=h) True))))) (K (jA x.2) m h)
noncomputable abbrev pD(a:Nat×bR×Sl×MH×PH):Sl×MH×PH:=a.2.2
noncomputable abbrev wS(a:Nat×bR×Sl×MH×PH):Sl:=(pD a).1
noncomputable abbrev ID(a:Nat×bR×Sl×MH×PH):bR:=a.2.1
noncomputable abbrev Ep(a:Nat×bR×VV×Sl×Bool×MH×PH):Sl:=a.2.2.2.1
abbrev G6(a:Nat×bR×VV×Sl×Bool×MH×PH->Prop)(b:Int)(c:Nat×bR×Sl×MH×PH)(d e:(Nat×bR×VV×Sl×Bool×MH×PH)->Prop):Prop:=∃(x:Nat×bR×VV×Sl×Bool×MH×PH),aA (a x) (bL b) (aA (eP 9) (bP c.1 x.1) (aA gW (d x) (aA (aX (wS c) (Ep x)) (cD (wS c) (Ep x)) (e x))))
abbrev J4(a:Nat)(b:bR)(c:Bool):Prop:=fS (decide ((↑a:Int)>=b.key)) c
noncomputable abbrev yA(a:Nat×bR×VV×Sl×Bool×MH×PH):Bool:=a.2.2.2.2.1
abbrev Hk(a:Nat×bR×Sl×MH×PH)(b:Nat×bR×VV×Sl×Bool×MH×PH)(c:Prop)(d:VV):Prop:=aA (bP a.1 b.1) c (aA (vP 58 d.enc=vP 58 b.2.2.1.enc) (iD (fG (pD a)) b.2.2.2.2.2) (eA (eV (pD a)) b.2.2.2.2.2))
abbrev Hj(a:Nat×bR×Sl×MH×PH)(b:Nat×bR×VV×Sl×Bool×MH×PH):Prop:=oQ 74 (hU (ID a))=oQ 74 (hU b.2.1)
noncomputable abbrev C1(a:Nat×bR×VV×Sl×Bool×Bool×MH×PH):Bool:=a.2.2.2.2.1
noncomputable abbrev C2(a:Nat×bR×VV×Sl×Bool×Bool×MH×PH):Bool:=a.2.2.2.2.2.1
noncomputable abbrev Et(a:Nat×bR×VV×Sl×Bool×Bool×MH×PH):Sl:=a.2.2.2.1
abbrev Hm(a:Nat×bR×VV×Sl×Bool×MH×PH)(b:Nat×bR×VV×Sl×Bool×Bool×MH×PH)(c:Prop):Prop:=aA (cD (Ep a) (Et b)) (bP a.1 b.1) (aA c (vP 58 a.2.2.1.enc=vP 58 b.2.2.1.enc) (fM a.2.2.2.2.2.1 b.2.2.2.2.2.2 a.2.2.2.2.2.2))
noncomputable abbrev IB(a:Nat×bR×VV×Sl×Bool×Bool×MH×PH):bR:=a.2.1
abbrev Hl(a:Nat×bR×VV×Sl×Bool×MH×PH)(b:Nat×bR×VV×Sl×Bool×Bool×MH×PH):Prop:=oQ 74 (hU a.2.1)=oQ 74 (hU (IB b))
noncomputable abbrev Hy(a:Nat×bR×VV×Sl×Bool×Bool×MH×PH):Nat->Option Obj:=a.2.2.2.2.2.2.1
noncomputable abbrev Hz(a:Nat×bR×VV×Sl×Bool×Bool×MH×PH):Nat->Nat->Option Value:=a.2.2.2.2.2.2.2
abbrev O4(a:Bool)(b:Prop)(c:(Nat×bR×Sl×MH×PH)->Prop):Prop:=branch a b (∃(x:Nat×bR×Sl×MH×PH),c x)
abbrev EI(a:Nat×bR×Sl×MH×PH->Prop)(b:Nat×bR×Sl×MH×PH)(c:Nat×bR×Sl×MH×PH->Nat)(d:Nat)(e:Int)(g:Nat×bR×VV×Sl×Bool×Bool×MH×PH)(i j:Prop):Prop:=aA (a b) (c b<d) (aA (bL e) (eP 9) (aA (aX (Et g) (wS b)) (cD (Et g) (wS b)) (aA (fJ (aW g.1 1)=bY b.1) i j)))
abbrev EZ(a:Nat×bR×VV×Sl×Bool×Bool×MH×PH)(b:Nat×bR×Sl×MH×PH):Prop:=oQ 74 (hU (IB a))=oQ 74 (hU (ID b))
abbrev E0(a:Nat×bR×VV×Sl×Bool×Bool×MH×PH)(b:Nat×bR×Sl×MH×PH):Prop:=fM (Hy a) (pD b).2 (Hz a)
attribute [push_cast] pD wS ID Ep G6 J4 yA Hk Hj C1 C2 Et Hm IB Hl Hy Hz O4 EI EZ E0
def Su(v:bJ)(t:Int)(s:Sl)(m:MH)(h:PH)(K:dc):Prop:=
  CR v t h (λC D=>branch (!(i7 C D)) (K aZ m h) (bD (λb o=>aI (bF (mD v) b o) (0<=t) (t<aG v.tables) (∃(y:bR),aJ m h b (eM o t 5) (wB y)/\branch (aG s !=AE y) (K aZ m h) (∃(I:Nat×bR×Sl×MH×PH->Prop)(f:Nat×bR×Sl×MH×PH->Nat),(∃(x:Nat×bR×Sl×MH×PH),aA (I x) (bL 3) (aA (eP 9) (aX s (wS x)) (aA (cD s (wS x)) (bE x.1) (aA (oQ 74 (hU y)=oQ 74 (hU (ID x))) (j8 m (pD x)) (eA h (pD x).2)))))/\∀(x:Nat×bR×Sl×MH×PH),I x->aY (↑x.1:Int) (aG (wS x)) (bD (λj n=>aI (bF (wS x).a j n) (0<=(↑x.1:Int)) ((↑x.1:Int)<aG (wS x)) (∃(g:VV),aJ (fG (pD x)) (eV (pD x)) j (bB n x.1 3) g.enc/\∃(u:VV),eW (oD g) (oD u)/\branch
 (!(kN u)) (K aZ (fG (pD x)) (eV (pD x))) (∃(I1:Nat×bR×VV×Sl×Bool×MH×PH->Prop),bK g.kind 2 (G6 I1 3 x (λd=>J4 x.1 (ID x) (yA d)) (λd=>Hk x d (Hj x d) g)) (G6 I1 3 x (λd=>tK (yA d)) (λd=>Hk x d (Hj x d) g))/\∀(d:Nat×bR×VV×Sl×Bool×MH×PH),I1 d->∃(I2:Nat×bR×VV×Sl×Bool×Bool×MH×PH->Prop),bK d.2.2.1.kind 1 (∃(c:Nat×bR×VV×Sl×Bool×Bool×MH×PH),aA (I2 c) (bL 3) (aA (eP 9) (bP d.1 c.1) (aA gW (fS (yA d) (C1 c)) (aA (J4 d.1 d.2.1 (C2 c)) (aX (Ep d) (Et c)) (Hm d c (Hl d c)))))) (∃(c:Nat×bR×VV×Sl×Bool×Bool×MH×PH),aA (I2 c) (bL 3) (aA (eP 9) (bP d.1 c.1) (aA gW (fS (yA d)
 (C1 c)) (aA (tK (C2 c)) (aX (Ep d) (Et c)) (Hm d c (Hl d c))))))/\∀(c:Nat×bR×VV×Sl×Bool×Bool×MH×PH),I2 c->bD (λz A=>aI (bF (IB c).columns.a z A) (0<=(↑c.1:Int)) ((↑c.1:Int)<aG (IB c).columns) (∃(B:Int),aJ (Hy c) (Hz c) z (bB A c.1 2+1) (bG B)/\O4 (c.2.2.1.kind !=B) (O4 (!(C1 c)) (branch (!(C2 c)) (K aZ (Hy c) (Hz c)) (∃(e:Nat×bR×Sl×MH×PH),EI I e f (f x) 3 c (EZ c e) (E0 c e))) (λe=>EI I e f (f x) 3 c (EZ c e) (E0 c e))) (λe=>EI I e f (f x) 3 c (EZ c e) (E0 c e)))))))) (K fB (fG (pD x)) (eV (pD x))))))))
def Ss(v:bJ)(t:Int)(s:Sl)(m:MH)(h:PH)(K:dc):Prop:=
  aY t 0 (K CE m h) (mE t (gY v) K CE m h (Ai v t (λb o y=>aI (aJ m h b (eM o t 5+2) (bG y)) (0<=ite (ite (aG s<y) (aG s) y>0) (ite (aG s<y) (aG s) y) 0) (uN (ite (ite (aG s<y) (aG s) y>0) (ite (aG s<y) (aG s) y) 0) s) (K (CV.val (Value.slice s.a (ite (ite (aG s<y) (aG s) y>0) (ite (aG s<y) (aG s) y) 0).toNat s.cap)) m h))))
noncomputable abbrev pR(a:Sl):CV:=nS (aM a)
noncomputable abbrev iQ(a:Nat×Sl×Nat):Sl:=a.2.1
noncomputable abbrev qA(a:Nat×Sl×Nat):Nat:=a.2.2
noncomputable abbrev nH(a:Int)(b:du):du:=jA a::b
noncomputable abbrev Br(a:Nat×Sl×Nat):Int:=eE ((↑(qA a):Int)-1)
abbrev Ak(a:bJ)(b:Int)(c:Sl)(d:PH)(e:Sl->Prop):Prop:=zS (λx f g=>tH (λj n=>aI (cE (dX a) (fT b (mL c))=cE (dX x) (fT g (mL j))) (dM d f x) (bO d j n) (∀(o:Sl),bO d o (iI f g n)->e o)))
abbrev JM(a:Nat×Sl×Nat->Prop)(b:Nat×Sl×Nat->Nat)(c:Nat×Sl×Nat)(d:Int)(e:Sl)(g:(Nat×Sl×Nat)->Prop):Prop:=∃(x:Nat×Sl×Nat),aA (a x) (b x<b c) (aA (bL d) fW (aA (bP c.1 x.1) (aX (iQ c) (iQ x)) (aA (aH e) (bI e) (g x))))
attribute [push_cast] pR iQ qA nH Br Ak JM
def Wa(v:bJ)(s:Sl)(m:MH)(h:PH)(K:dc):Prop:=
  Bi (λu z=>aA (cO (gL v) 3=cO (gL u) 3) (dM h z u) (Hw z K m h (Ch (λA f=>aI (eW (pR s) (pR A)) (Leaves h A f) (jV f.length) (iG (eD f) 512 K lG m h (branch (aG s !=gY v) (K (jA 80) m h) (nG (λI x=>aA (I x) (bL 3) (aA (eP 3) (aH s) (aA (bI s) (bE x) (aA (aU v) (m=m) (dH h h))))) (λI B x=>I x->aY (↑x:Int) (aG s) (dN s.a (↑x:Int) s (λb o y=>aJ m h b (bB o x 1) (aM y)/\∃(I1:Nat×Sl×Nat->Prop)(C:Nat×Sl×Nat->Nat),(∃(c:Nat×Sl×Nat),aA (I1 c) (bL 3) (aA (eP 3) (bP x c.1) (aA (aX y (iQ c)) (aH s) (aA (bI s) (bP x c.1) (aA (aX y (iQ c)) (cD y (iQ c)) (aA (bE (qA c)) (aU v) (dP m m h h)))))))/\∀(c:Nat×Sl×Nat),I1 c
 ->aY (↑(qA c):Int) (aG (iQ c)) (dN (iQ c).a (↑(qA c):Int) (iQ c) (λG H g=>aJ m h G (bB H (qA c) 1) (aM g)/\zS (λD E t=>tH (λF r=>aI (cE (dX v) (nH (↑c.1:Int) (eJ g 3))=cE (dX D) (nH t (eJ F 3))) (dM h E D) (bO h F r) (branch (!(aBQ E t r)) (K (jA 80) m h) (kK (↑(qA c):Int) 0 (dN (iQ c).a (Br c) (iQ c) (λj n e=>aJ m h j (eM n (Br c) 1) (aM e)/\Ak v (↑c.1:Int) e h (λJ=>bA h j (eM n (Br c) 1) (aM e)/\Ak v (↑c.1:Int) g h (λL=>bA h j (eM n (Br c) 1) (aM e)/\xV J L h (λa M=>mE (cN a M) 0 K (jA 80) m h (JM I1 C c 3 s (λd=>aA (bP c.1 d.1) (aX (iQ c) (iQ d)) (aA (cD (iQ
 c) (iQ d)) (fJ (aW (qA c) 1)=bY (qA d)) (cF (aU v) m m h h))))))))) (JM I1 C c 3 s (λd=>aA (bP c.1 d.1) (aX (iQ c) (iQ d)) (aA (cD (iQ c) (iQ d)) (fJ (aW (qA c) 1)=bY (qA d)) (cF (aU v) m m h h)))))))))) (∃(d:Nat),aA (I d) (B d<B x) (aA (bL 3) fW (aA (aH s) (bI s) (aA (fJ (aW c.1 1)=bY d) (aU v) (dP m m h h))))))) (K (jA 0) m h)))))))))
theorem bO.cut{h:PH}{a:Option Addr}{len cap:Nat}{r:de}(x:bO h ⟨a,len,cap⟩ r){n:Nat}(e:n<=r.length):bO h ⟨a,n,cap⟩ (r.take n):=by
 obtain⟨⟨c,d,f,g⟩,j⟩:=x;refine⟨⟨c.take n,by rw[map_take];exact bX.cut d n bk,bk,λi x o=>?_⟩,bk⟩
 grind
theorem bTX{v:bJ}(d:dM h s v)(c:K (cI (dK s)) m h):Sv v m h K:=
 ⟨v,s,rfl,d,aB (λ_=>c) (λe=>by rw[show dK s=0 by simpa using e]at c;exact c)⟩
theorem Zw:cu 115 b1Z:=by
 refine iB func115 ?_;rintro c m h K ⟨v,s,rfl,d,e⟩;refine⟨dD [(66,z7)] [] [] [] false,rfl,aD HK aF,Sv v m h K,be,?_⟩;exact bTX d e
theorem Leaves.lens{s:Sl}{st:List cw}(c:Leaves h s st){l:cw}(d:l∈st):l.length<=502633886983:=by
 obtain⟨i,e,rfl⟩:=mem_iff_getElem.1 d;obtain⟨_,_,_,_,_,f⟩:=bC.at c (bu e);exact f.len
theorem AX:∀{l:List cw},(∀x∈l,x.length<=502633886983)->0<=eD l/\eD l<=(l.length:Int)*502633886983
 |[],_=>by simp[eD]
 |a::l,h=>by
  have e:=h a (mem_cons_self ..);have c:=AX (l:=l) λx d=>h x (mem_cons_of_mem _ d);simp only[eD,map_cons,sum_cons,cq]at c⊢
  omega
theorem P6{st:List cw}{l:cw}(h:st[i]? =some l):eD (st.take (i+1))=eD (st.take i)+(l.length:Int):=by
 rw[cj,h];simp[eD]
theorem Rt:cu 74 Uy:=by
 refine iB func74 ?_;rintro y m h K ⟨s,c,rfl,f,I,A⟩;refine⟨ahX s m h,rfl,aF,KJ s m h K,be,?_⟩;dsimp only[KJ,push_cast];have g:=bC.slen f;refine⟨λz=>z.1<=c.length/\z.2=eD (c.take z.1),λz=>c.length-z.1,⟨(0,0),⟨bf,by simp[eD]⟩,MT⟩,?_⟩;rintro⟨i,n⟩ ⟨B,e⟩;dsimp only at B e⊢
 subst e;refine aE (λj=>?_) (λC=>?_)
 .obtain⟨l,d⟩:=eO g j;obtain⟨b,o,u,D,rd,E⟩:=bC.at f d;have t:=bC.slen E;have F:=AX (l:=c.take (i+1)) λx d=>f.lens (mem_of_mem_take d);have G:=(AX (l:=c.take i) λx d=>f.lens (mem_of_mem_take d)).1;have H:=P6 d;rw[length_take]at F;refine⟨b,o,D,aC,aC,u,.imm rd,(i+1,eD (c.take (i+1))),⟨aC,rfl⟩,aC,?_⟩;rw[dO aC aC,t, <-H];exact MT
 .rw[ca aC];exact A
theorem AU{t:sZ}{r:de}:FV t r=true↔r.length=t.columns.length/\∀i,i<r.length->zW t.key (t.columns.getD i ⟨⟨#[]⟩,0⟩).kind i (r.getD i zeroV)=true:=by
 simp only[FV,cg,cm,all_eq_true,mem_range]
theorem VU{t:Int}{r:de}{tb:sZ}(c:s.tables[t.toNat]? =some tb)(h:i7 s t=true):aBQ s t r=FV tb r:=by
 simp only[aBQ,h,c,Bool.true_and]
theorem Zv:cu 116 b2Z:=by
 refine iB func116 ?_;rintro a' m h K ⟨v,s,t,L,r,rfl,M,O,C⟩;refine⟨bhJ,rfl,aD Cp (aD IL aF),Su v t L m h K,be,?_⟩;dsimp only[Su,push_cast];have a0:=M.tables.slen;have a1:=bC.slen O;refine⟨v,s,t,rfl,M,aB (λe=>?_) (λe=>?_)⟩
 .have e:i7 s t=false:=br e
  simp only[aBQ,e,Bool.false_and]at C;exact C
 have e:i7 s t=true:=br e
 have he:=e;simp only[i7,cg,cm]at he;obtain⟨d,E⟩:∃d,s.tables[t.toNat]? =some d:=⟨_,bu aC⟩
 obtain⟨b,o,y,ea,rd,P⟩:=bC.at M.tables E;rw[VU E e]at C;have a2:=bC.slen P.columns;have hk:=P.key;refine⟨b,o,ea,he.1,aC,y,.imm rd,aB (λH=>?_) (λH=>?_)⟩
 .have:FV d r=false:=by
   cases f:FV d r with
   |false=>rfl
   |true=>
    have:=(AU.1 f).1
    grind
  rw[this]at C;exact C
 have Q:r.length=d.columns.length:=bk
 have R:∀i,i<r.length->zW d.key (d.columns.getD i ⟨⟨#[]⟩,0⟩).kind i (r.getD i zeroV)=false->K (cB false) m h:=λi S F=>by
  have:FV d r=false:=by
   cases f:FV d r with
   |false=>rfl
   |true=>rw[(AU.1 f).2 i S]at F;cases F
  grind
 refine⟨λz=>z.2.1=y/\z.2.2.1=L/\z.2.2.2.1=m/\z.2.2.2.2=h/\z.1<=r.length/\∀j,j<z.1->zW d.key (d.columns.getD j ⟨⟨#[]⟩,0⟩).kind j (r.getD j zeroV)=true,λz=>r.length-z.1,⟨(0,y,L,m,h),⟨rfl,rfl,rfl,rfl,bf,λj T=>by simp at T⟩,MT⟩,?_⟩;rintro⟨i,n,A,m',h'⟩ ⟨H,f,I,J,S,B⟩;dsimp only at H f I J S B⊢
 subst H f I J;refine aE (λa3=>?_) (λa4=>?_)
 .have U:i<r.length:=by omega
  have hx:r[i]? =some (r.getD i zeroV):=bk
  obtain⟨b2,o2,x,V,G,W⟩:=bC.at O hx;subst W;have hc:d.columns[i]? =some (d.columns.getD i ⟨⟨#[]⟩,0⟩):=bk
  obtain⟨b3,o3,c,X,Y,Z⟩:=bC.at P.columns hc;have g:=R i U
  have u:zW d.key (d.columns.getD i ⟨⟨#[]⟩,0⟩).kind i (r.getD i zeroV)=true->∀j,j<i+1->zW d.key (d.columns.getD j ⟨⟨#[]⟩,0⟩).kind j (r.getD j zeroV)=true:=λF j T=>by
   grind
  generalize r.getD i zeroV=x at g u G hx;rw[Z]at g u;have go:zW d.key c.kind i x=true->∃z:Nat×bR×Sl×MH×PH,(z.2.1=n/\z.2.2.1=A/\z.2.2.2.1=m'/\z.2.2.2.2=h'/\z.1<=r.length/\∀j,j<z.1->zW d.key (d.columns.getD j ⟨⟨#[]⟩,0⟩).kind j (r.getD j zeroV)=true)/\r.length-z.1<r.length-i/\z=(i+1,n,A,m',h'):=λF=>⟨_,⟨rfl,rfl,rfl,rfl,aC,u F⟩,aC,rfl⟩
  refine⟨b2,o2,V,aC,aC,x,.imm G,x,rfl,aB (λev=>g ?_) (λev=>?_)⟩
  .have ev:kN x=false:=bk
   simp[zW,ev]
  have ev:kN x=true:=bk
  refine⟨λz=>z=(i,n,x,A,(x.kind==2&&decide ((i:Int)>=n.key)),m',h'),aB (λf=>⟨_,rfl,by rw[f];exact MT⟩) (λf=>⟨_,rfl,by rw[f];exact MT⟩),?_⟩;rintro _ rfl;dsimp only;refine⟨λz=>z=(i,n,x,A,(x.kind==2&&decide ((i:Int)>=n.key)),(x.kind==1&&decide ((i:Int)>=n.key)),m',h'),aB (λf=>⟨_,rfl,by rw[f];exact MT⟩) (λf=>⟨_,rfl,by rw[f];exact MT⟩),?_⟩;rintro _ rfl;dsimp only
  have D:zW d.key c.kind i x=(x.kind==c.kind||((x.kind==2&&decide ((i:Int)>=n.key))||(x.kind==1&&decide ((i:Int)>=n.key)))):=by
   rw[hk];simp only[zW,ev,Bool.true_and,ge_iff_le,Bool.and_or_distrib_right]
  generalize a5:(x.kind==2&&decide ((i:Int)>=n.key))=B1 at D⊢
  generalize a6:(x.kind==1&&decide ((i:Int)>=n.key))=B2 at D⊢
  refine⟨b3,o3,X,aC,aC,c.kind,.imm (bA.part Y 1 1),aB (λI=>aB (λJ=>aB (λe5=>g ?_) (λe5=>?_)) (λJ=>?_)) (λI=>?_)⟩
  .grind
  all_goals
   obtain⟨_,g1,g2,rfl⟩:=go (by rw[D];simp_all);refine⟨_,g1,g2,?_⟩;dsimp only;rw[jG (by have:=bC.len O;omega)];exact MT
 .have:FV d r=true:=AU.2 ⟨Q,λj T=>B j aC⟩;rw[this]at C;exact C
theorem Co:cu 118 H5:=by
 refine iB func118 ?_;rintro D m h K ⟨v,s,t,z,r,rfl,A,n,B⟩;refine⟨dD [] [] [] [] false,rfl,aF,Ss v t z m h K,be,?_⟩;dsimp only[Ss,push_cast];have E:=A.tables.slen;have d:=bC.slen n;have c:i7 s t=false->K CE m h:=λe=>B ⟨none,0,0⟩ (by simp only[iI,e];exact bC.nil _ _ _ _);refine aE (λF=>c (by simp[i7];omega)) (λF=>aE (λG=>c (by simp[i7];omega)) (λG=>?_));have e:i7 s t=true:=by simp[i7];omega
 obtain⟨f,g⟩:∃f,s.tables[t.toNat]? =some f:=⟨_,bu aC⟩
 obtain⟨b,o,y,H,rd,I⟩:=bC.at A.tables g;have M:=I.key;obtain⟨a,len,j⟩:=z;have C:len<=j:=by obtain⟨O,J,_⟩:=n.ex;exact J.cap
 have d:len=r.length:=d
 have u:(if(if(len:Int)<y.key then(len:Int)else y.key)>0 then(if(len:Int)<y.key then(len:Int)else y.key)else 0)=max 0 (min f.key r.length):=by
  omega
 refine⟨b,o,H,aC,aC,y.key,.imm (bA.part rd 2 1),?_⟩;dsimp only;rw[u];refine⟨aC,aC,B ⟨a,(max 0 (min f.key r.length)).toNat,j⟩ ?_⟩;have L:iI s t r=r.take (max 0 (min f.key r.length)).toNat:=by simp only[iI,e,if_true,g];rfl
 rw[L];exact n.cut aC
theorem rG{t:Nat}{tb:sZ}(h:s.tables[t]? =some tb)(r:de):iI s t r=dU tb r:=by
 have:t<s.tables.length:=(bt h);have e:i7 s (t:Int)=true:=by simp[i7];omega
 simp only[iI,e,if_true,Int.toNat_natCast,h]
theorem agQ{t:Nat}{tb:sZ}(h:s.tables[t]? =some tb)(r:de):aBQ s t r=FV tb r:=by
 have:t<s.tables.length:=(bt h);have e:i7 s (t:Int)=true:=by simp[i7];omega
 exact VU (br h) e
theorem aGJ:cu 72 Nn:=by
 refine iB func72 ?_;rintro b0 m h K ⟨v,s,X,G,rfl,L,Y,Z,d⟩;refine⟨bHJ v X m h,rfl,aD Zw (aD Rt (aD Zv (aD Co (aD tN aF)))),Wa v X m h K,be,?_⟩;dsimp only[Wa,push_cast];have b1:=L.tables.slen;have a':=bC.slen Y;unfold xE at d;refine⟨v,s,rfl,L,aB (λe=>?_) (λe=>⟨X,G,rfl,Y,Z,aE (λH=>?_) (λH=>aB (λe3=>?_) (λe3=>?_))⟩)⟩
 .rw[if_pos (br e)]at d;exact d
 all_goals rw[if_neg (br e)]at d
 .rw[if_pos (by unfold eD at H;omega)]at d;exact d
 all_goals rw[if_neg (by unfold eD at H;omega)]at d
 .rw[if_pos bk]at d;exact d
 have M:G.length=s.tables.length:=bk
 rw[if_neg (by simp[M])]at d;have a0:¬Lj s G->K (cI 80) m h:=λhb=>bk
 refine⟨λi=>i<=G.length/\∀(j:Nat) t l,j<i->s.tables[j]? =some t->G[j]? =some l->aaX t l,λi=>G.length-i,⟨0,⟨bf,λj t l hj=>by omega⟩,MT⟩,?_⟩;rintro i ⟨hi,O⟩;refine aE (λa1=>?_) (λb4=>?_)
 .obtain⟨l,hx⟩:=eO a' a1;obtain⟨b,o,u,ea,rd,I⟩:=bC.at Y hx;have a2:=bC.slen I;have b5:=bC.len I;obtain⟨y,c⟩:∃y,s.tables[i]? =some y:=⟨_,bu aC⟩
  have A:¬aaX y l->K (cI 80) m h:=λhb=>a0 λf=>hb (f i y l c hx);refine⟨b,o,ea,aC,aC,u,.imm rd,λz=>z.1=i/\z.2.1=u/\z.2.2<=l.length/\(∀k r,k<z.2.2->l[k]? =some r->FV y r=true)/\∀k r J,k+1<z.2.2->l[k]? =some r->l[k+1]? =some J->cN (dU y r) (dU y J)<0,λz=>l.length-z.2.2,⟨(i,u,0),⟨rfl,rfl,bf,λk r D=>by simp at D,λk r J D=>by simp at D⟩,MT⟩,?_⟩;rintro⟨E,u',j⟩ ⟨e1,H,hj,B,C⟩;dsimp only at e1 H hj B C⊢
  subst e1 H;refine aE (λP=>?_) (λb'=>?_)
  .obtain⟨r,Q⟩:=eO a2 P;obtain⟨b2,o2,w,a3,a4,hv⟩:=bC.at I Q;refine⟨b2,o2,a3,aC,aC,w,.imm a4,v,s,E,w,r,rfl,L,hv,aB (λV=>A λf=>?_) (λV=>?_)⟩
   .rw[agQ c,f.1 r (bx Q)]at V;cases V
   have hf:FV y r=true:=by rw[agQ c]at V;grind
   have g:∀k r,k<j+1->l[k]? =some r->FV y r=true:=λk J D b6=>by
    grind
   refine aE (λa5=>?_) (λa5=>?_)
   .have hw:IntKind.i64.wrap ((j:Int)-1)=((j-1:Nat):Int):=by rw[dO aC aC];omega
    obtain⟨W,R⟩:∃W,l[j-1]? =some W:=⟨_,bu aC⟩
    obtain⟨b3,o3,w3,a6,F,a7⟩:=bC.at I R;rw[hw];refine⟨b3,o3,a6,aC,aC,w3,.imm F,v,s,E,w3,W,rfl,L,a7,λs1 a8=>⟨F,v,s,E,w,r,rfl,L,hv,λs2 a9=>⟨F,s1,s2,_,_,rfl,a8,a9,aE (λhc=>A λf=>?_) (λhc=>?_)⟩⟩⟩
    .rw[rG c,rG c]at hc;have:=f.2 (j-1) W r R bk;omega
    .rw[rG c,rG c]at hc;refine⟨(E,u',j+1),⟨rfl,rfl,bk,g,λk r1 r2 D S T=>?_⟩,bk,?_⟩
     .grind
     .dsimp only;rw[jG aC];exact MT
   .refine⟨(E,u',j+1),⟨rfl,rfl,bk,g,λk r1 r2 D S T=>bk⟩,bk,?_⟩;dsimp only;rw[jG aC];exact MT
  .refine⟨E+1,⟨aC,λk t l' D ht U=>?_⟩,aC,?_⟩
   .by_cases e5:k=E
    .subst e5;rw[c]at ht;cases ht;rw[hx]at U;cases U;refine⟨λr I=>?_,λk r J S T=>C k r J ?_ S T⟩
     .obtain⟨n,Z,rfl⟩:=mem_iff_getElem.1 I;exact B n _ aC (bu Z)
     grind
    grind
   .rw[jG aC];exact MT
 .rw[if_pos]at d
  .exact d
  .exactλj t l S T=>O j t l bk S T
def AT(c key:Int)(k:Int)(i:Nat)(v:VV):Bool:=kN v&&(v.kind==k||(((v.kind==2&&c !=1)||(v.kind==1&&c==3))&&decide (key<=(i:Int))))
def qM(c:Int)(t:sZ)(r:de):Bool:=decide (r.length=t.columns.length)&&(List.range r.length).all λi=>AT c t.key (t.columns.getD i ⟨⟨#[]⟩,0⟩).kind i (r.getD i zeroV)
def XH(d:Int)(t:sZ)(l:cw):Prop:=(∀r∈l,qM d t r=true)/\∀(i:Nat) r c,l[i]? =some r->l[i+1]? =some c->cN (dU t r) (dU t c)<0
def Tl(c:Int)(s:j4)(st:List cw):Prop:=∀(i:Nat) t l,s.tables[i]? =some t->st[i]? =some l->XH c t l
open Classical in
noncomputable def wJ(c:Int)(s:j4)(st:List cw):Int:=
 if dK s≠0 then dK s else if 512<(st.map λl=>(l.length:Int)).sum then 2 else if st.length≠s.tables.length then 80 else if Tl c s st then 0 else 80
def rR(c:Int)(s:j4)(t:Int)(r:de):Bool:=i7 s t&&(match s.tables[t.toNat]? with|some d=>qM c d r|none=>false)
def b1J:Vc.Spec:=λc m h K=>∃v s d,c=[aS v,cI d]/\dM h s v/\1<=d/\d<=3/\K (cI (dK s)) m h
def buJ:Vc.Spec:=λd m h K=>∃v s t e r c,d=[aS v,cI t,cS e,cI c]/\dM h s v/\bO h e r/\1<=c/\c<=3/\K (cB (rR c s t r)) m h
def No:Vc.Spec:=λd m h K=>∃v s f e c,d=[aS v,cI c,QO f]/\dM h s v/\Leaves h f e/\e.length<=1000/\1<=c/\c<=3/\K (cI (wJ c s e)) m h
noncomputable def aQJ(d:Int)(v:bJ)(t:Int)(s:Sl)(m:MH)(h:PH):Ctx:=dD [(113,aUZ),(114,My)] [(7,{A:=Nat×bR×Sl×MH×PH,st:=λ⟨i,t,s,m,h⟩=>bU 95 99 [(3,iv d),(9,.at (.ptr 9 0)),(41,sv s),(42,iv s.len),(43,iv i)] [(9,.cells 74 (t.enc.map .val))] m h})] [(3,{A:=Unit,st:=λ_=>bU 95 99 [(1,iv t),(2,sv s),(3,iv d),(4,.at (.ptr 4 0))] [(4,.cells 29 (v.enc.map .val))] m h}),
 (12,{A:=Nat×bR×VV×Sl×Bool×MH×PH,st:=λ⟨i,t,v,s,b,m,h⟩=>bU 95 99 [(3,iv d),(9,.at (.ptr 9 0)),(10,iv i),(11,.at (.ptr 11 0)),(12,bv b),(41,sv s),(42,iv s.len),(43,iv i)] [(9,.cells 74 (t.enc.map .val)),(11,.cells 58 (v.enc.map .val))] m h}),
 (13,{A:=Nat×bR×VV×Sl×Bool×Bool×MH×PH,st:=λ⟨i,t,v,s,b,c,m,h⟩=>bU 95 99 [(3,iv d),(9,.at (.ptr 9 0)),(10,iv i),(11,.at (.ptr 11 0)),(12,bv b),(13,bv c),(41,sv s),(42,iv s.len),(43,iv i)] [(9,.cells 74 (t.enc.map .val)),(11,.cells 58 (v.enc.map .val))] m h})] [] false
noncomputable def a5Z(c:Int)(v:bJ)(s:Sl)(m:MH)(h:PH):Ctx:=dD [(115,b1J),(74,Uy),(116,buJ),(118,H5),(117,FQ)] [(9,{A:=Nat,st:=λi=>bU 69 72 [(1,iv c),(3,.at (.ptr 3 0)),(29,sv s),(30,iv s.len),(31,iv i)] [(3,.cells 29 (v.enc.map .val))] m h}),
 (12,{A:=Nat×Sl×Nat,st:=λ⟨i,u,j⟩=>bU 69 72 [(1,iv c),(3,.at (.ptr 3 0)),(8,iv i),(9,sv u),(29,sv s),(30,iv s.len),(31,iv i),(36,sv u),(37,iv u.len),(38,iv j)] [(3,.cells 29 (v.enc.map .val))] m h})] [] [] false
def PS(c:Int)(v:bJ)(m:MH)(h:PH)(K:dc):Prop:=
  G7 v h (λs=>Hw s K m h (nK c 1 (nK c 2 (branch (c !=3) (K (jA 1) m h) (K (jA 0) m h)) (K (jA 0) m h)) (K (jA 0) m h)))
abbrev JN(a:(Unit->Prop)->Prop)(b:Prop):Prop:=∃(x:Unit->Prop),a x/\∀(c:Unit),x c->b
attribute [push_cast] JN
def PR(e:Int)(v:bJ)(t:Int)(s:Sl)(m:MH)(h:PH)(K:dc):Prop:=
  JN (λI=>nK e 1 (nK e 2 (branch (e !=3) (K aZ m h) (CR v t h (λn u=>branch (!(i7 n u)) (K aZ m h) (∃(x:Unit),aA (I x) (bL t) (aA (aH s) (bL e) (aA iC (aU v) (aA (m=m) (h=h) True))))))) (CR v t h (λn u=>branch (!(i7 n u)) (K aZ m h) (∃(x:Unit),aA (I x) (bL t) (aA (aH s) (bL e) (aA iC (aU v) (aA (m=m) (h=h) True))))))) (CR v t h (λn u=>branch (!(i7 n u)) (K aZ m h) (∃(x:Unit),aA (I x) (bL t) (aA (aH s) (bL e) (aA iC (aU v) (aA (m=m) (h=h) True))))))) (bD (λb o=>aI (bF (mD v) b o) (0<=t) (t<aG v.tables) (∃(y:bR),aJ m h b (eM o t 5) (wB y)/\branch (aG s !=AE y) (K aZ m h) (∃(I:Nat×bR×Sl×MH×PH->Prop)(g:Nat×bR×Sl×MH×PH->
 Nat),(∃(x:Nat×bR×Sl×MH×PH),aA (I x) (bL e) (aA (eP 9) (aX s (wS x)) (aA (cD s (wS x)) (bE x.1) (aA (oQ 74 (hU y)=oQ 74 (hU (ID x))) (j8 m (pD x)) (eA h (pD x).2)))))/\∀(x:Nat×bR×Sl×MH×PH),I x->aY (↑x.1:Int) (aG (wS x)) (bD (λz A=>aI (bF (wS x).a z A) (0<=(↑x.1:Int)) ((↑x.1:Int)<aG (wS x)) (∃(j:VV),aJ (fG (pD x)) (eV (pD x)) z (bB A x.1 3) j.enc/\∃(B:VV),eW (oD j) (oD B)/\branch (!(kN B)) (K aZ (fG (pD x)) (eV (pD x))) (∃(I1:Nat×bR×VV×Sl×Bool×MH×PH->Prop),bK j.kind 2 (nK e 1 (G6 I1 e x (λd=>J4 x.1 (ID x) (yA d)) (λd=>Hk x d (Hj x d) j)) (G6 I1 e x (λd=>tK (yA d)) (λd=>
 Hk x d (Hj x d) j))) (G6 I1 e x (λd=>tK (yA d)) (λd=>Hk x d (Hj x d) j))/\∀(d:Nat×bR×VV×Sl×Bool×MH×PH),I1 d->∃(I2:Nat×bR×VV×Sl×Bool×Bool×MH×PH->Prop),bK d.2.2.1.kind 1 (bK e 3 (∃(c:Nat×bR×VV×Sl×Bool×Bool×MH×PH),aA (I2 c) (bL e) (aA (eP 9) (bP d.1 c.1) (aA gW (fS (yA d) (C1 c)) (aA (J4 d.1 d.2.1 (C2 c)) (aX (Ep d) (Et c)) (Hm d c (Hl d c)))))) (∃(c:Nat×bR×VV×Sl×Bool×Bool×MH×PH),aA (I2 c) (bL e) (aA (eP 9) (bP d.1 c.1) (aA gW (fS (yA d) (C1 c)) (aA (tK (C2 c)) (aX (Ep d) (Et c)) (Hm d c (Hl d c))))))) (∃(c:Nat×bR×VV×Sl×Bool×Bool×MH×PH),aA (I2 c) (bL e) (aA
 (eP 9) (bP d.1 c.1) (aA gW (fS (yA d) (C1 c)) (aA (tK (C2 c)) (aX (Ep d) (Et c)) (Hm d c (Hl d c))))))/\∀(c:Nat×bR×VV×Sl×Bool×Bool×MH×PH),I2 c->bD (λC D=>aI (bF (IB c).columns.a C D) (0<=(↑c.1:Int)) ((↑c.1:Int)<aG (IB c).columns) (∃(E:Int),aJ (Hy c) (Hz c) C (bB D c.1 2+1) (bG E)/\O4 (c.2.2.1.kind !=E) (O4 (!(C1 c)) (branch (!(C2 c)) (K aZ (Hy c) (Hz c)) (∃(f:Nat×bR×Sl×MH×PH),EI I f g (g x) e c (EZ c f) (E0 c f))) (λf=>EI I f g (g x) e c (EZ c f) (E0 c f))) (λf=>EI I f g (g x) e c (EZ c f) (E0 c f)))))))) (K fB (fG (pD x)) (eV (pD x)))))))
def Rv(e:Int)(v:bJ)(s:Sl)(m:MH)(h:PH)(K:dc):Prop:=
  zS (λB C j=>aA (cO (gL v) e=cO (gL B) j) (dM h C B) (aA (1<=j) (j<=3) (Hw C K m h (Ch (λD n=>aI (eW (pR s) (pR D)) (Leaves h D n) (jV n.length) (iG (eD n) 512 K lG m h (branch (aG s !=gY v) (K (jA 80) m h) (nG (λI x=>aA (I x) (bL e) (aA (eP 3) (aH s) (aA (bI s) (bE x) (aA (aU v) (m=m) (dH h h))))) (λI E x=>I x->aY (↑x:Int) (aG s) (dN s.a (↑x:Int) s (λb o y=>aJ m h b (bB o x 1) (aM y)/\∃(I1:Nat×Sl×Nat->Prop)(F:Nat×Sl×Nat->Nat),(∃(c:Nat×Sl×Nat),aA (I1 c) (bL e) (aA (eP 3) (bP x c.1) (aA (aX y (iQ c)) (aH s) (aA (bI s) (bP x c.1) (aA (aX y (iQ c)) (cD y (iQ c)) (aA (bE (qA c)) (aU v) (dP m m h h)))))))
 /\∀(c:Nat×Sl×Nat),I1 c->aY (↑(qA c):Int) (aG (iQ c)) (dN (iQ c).a (↑(qA c):Int) (iQ c) (λL M u=>aJ m h L (bB M (qA c) 1) (aM u)/\zS (λG H t=>tH (λJ r=>∃(f:Int),aA (cE (dX v) (nH (↑c.1:Int) (eJ u e))=cE (dX G) (nH t (eJ J f))) (dM h H G) (aA (bO h J r) (1<=f) (f<=3/\branch (!(rR f H t r)) (K (jA 80) m h) (kK (↑(qA c):Int) 0 (dN (iQ c).a (Br c) (iQ c) (λz A g=>aJ m h z (eM A (Br c) 1) (aM g)/\Ak v (↑c.1:Int) g h (λO=>bA h z (eM A (Br c) 1) (aM g)/\Ak v (↑c.1:Int) u h (λP=>bA h z (eM A (Br c) 1) (aM g)/\xV O P h (λa Q=>mE (cN a Q) 0 K (jA 80) m h (JM I1 F c e s (λd
 =>aA (bP c.1 d.1) (aX (iQ c) (iQ d)) (aA (cD (iQ c) (iQ d)) (fJ (aW (qA c) 1)=bY (qA d)) (cF (aU v) m m h h))))))))) (JM I1 F c e s (λd=>aA (bP c.1 d.1) (aX (iQ c) (iQ d)) (aA (cD (iQ c) (iQ d)) (fJ (aW (qA c) 1)=bY (qA d)) (cF (aU v) m m h h))))))))))) (∃(d:Nat),aA (I d) (E d<E x) (aA (bL e) fW (aA (aH s) (bI s) (aA (fJ (aW c.1 1)=bY d) (aU v) (dP m m h h))))))) (K (jA 0) m h))))))))))
theorem adX{c:Int}(e:1<=c)(f:c<=3){A B:Prop}(d:B):branch (c !=1) (branch (c !=2) (branch (c !=3) A B) B) B:=
 aB (λg=>aB (λj=>aB (λn=>bk) λ_=>d) λ_=>d) λ_=>d
theorem biQ{c:Int}{v:bJ}(f:dM h s v)(g:1<=c)(j:c<=3)(d:K (cI (dK s)) m h):PS c v m h K:=
 ⟨v,s,rfl,f,aB (λ_=>d) (λe=>by rw[show dK s=0 by simpa using e]at d;exact adX g j d)⟩
theorem WW:cu 115 b1J:=by
 refine iB func115 ?_;rintro c m h K ⟨v,s,d,rfl,e,f,g,j⟩;refine⟨dD [(66,z7)] [] [] [] false,rfl,aD HK aF,PS d v m h K,be,?_⟩;exact biQ e f g j
theorem jF{c:Int}{t:sZ}{r:de}:qM c t r=true↔r.length=t.columns.length/\∀i,i<r.length->AT c t.key (t.columns.getD i ⟨⟨#[]⟩,0⟩).kind i (r.getD i zeroV)=true:=by
 simp only[qM,cg,cm,all_eq_true,mem_range]
theorem zX{c:Int}{s:j4}{t:Int}{r:de}{tb:sZ}(d:s.tables[t.toNat]? =some tb)(h:i7 s t=true):rR c s t r=qM c tb r:=by
 simp only[rR,h,d,Bool.true_and]
theorem Nc:cu 116 buJ:=by
 refine iB func116 ?_;rintro a1 m h K ⟨v,s,t,J,r,f,rfl,P,Q,h1,h3,D⟩;refine⟨aQJ f v t J m h,rfl,aD Cp (aD IL aF),PR f v t J m h K,be,?_⟩;dsimp only[PR,push_cast];have a2:=P.tables.slen;have a3:=bC.slen Q;refine⟨λ_=>i7 s t=true,adX h1 h3 ⟨v,s,t,rfl,P,aB (λe=>?_) (λe=>⟨(),br e,MT⟩)⟩,?_⟩
 .have e:i7 s t=false:=br e
  simp only[rR,e,Bool.false_and]at D;exact D
 rintro _ e;have he:=e;simp only[i7,cg,cm]at he;obtain⟨d,G⟩:∃d,s.tables[t.toNat]? =some d:=⟨_,bu aC⟩
 obtain⟨b,o,y,ea,rd,R⟩:=bC.at P.tables G;rw[zX G e]at D;have a4:=bC.slen R.columns;have hk:=R.key;refine⟨b,o,ea,he.1,aC,y,.imm rd,aB (λL=>?_) (λL=>?_)⟩
 .have:qM f d r=false:=by
   cases g:qM f d r with
   |false=>rfl
   |true=>
    have:=(jF.1 g).1
    grind
  rw[this]at D;exact D
 have S:r.length=d.columns.length:=bk
 have T:∀i,i<r.length->AT f d.key (d.columns.getD i ⟨⟨#[]⟩,0⟩).kind i (r.getD i zeroV)=false->K (cB false) m h:=λi U H=>by
  have:qM f d r=false:=by
   cases g:qM f d r with
   |false=>rfl
   |true=>rw[(jF.1 g).2 i U]at H;cases H
  grind
 refine⟨λz=>z.2.1=y/\z.2.2.1=J/\z.2.2.2.1=m/\z.2.2.2.2=h/\z.1<=r.length/\∀j,j<z.1->AT f d.key (d.columns.getD j ⟨⟨#[]⟩,0⟩).kind j (r.getD j zeroV)=true,λz=>r.length-z.1,⟨(0,y,J,m,h),⟨rfl,rfl,rfl,rfl,bf,λj V=>by simp at V⟩,MT⟩,?_⟩;rintro⟨i,u,B,m',h'⟩ ⟨L,g,M,O,U,C⟩;dsimp only at L g M O U C⊢
 subst L g M O;refine aE (λa5=>?_) (λa6=>?_)
 .have W:i<r.length:=by omega
  have hx:r[i]? =some (r.getD i zeroV):=bk
  obtain⟨b2,o2,x,X,I,Y⟩:=bC.at Q hx;subst Y;have hc:d.columns[i]? =some (d.columns.getD i ⟨⟨#[]⟩,0⟩):=bk
  obtain⟨b3,o3,c,Z,a',a0⟩:=bC.at R.columns hc;have n:=T i W
  have A:AT f d.key (d.columns.getD i ⟨⟨#[]⟩,0⟩).kind i (r.getD i zeroV)=true->∀j,j<i+1->AT f d.key (d.columns.getD j ⟨⟨#[]⟩,0⟩).kind j (r.getD j zeroV)=true:=λH j V=>by
   grind
  generalize r.getD i zeroV=x at n A I hx;rw[a0]at n A;have go:AT f d.key c.kind i x=true->∃z:Nat×bR×Sl×MH×PH,(z.2.1=u/\z.2.2.1=B/\z.2.2.2.1=m'/\z.2.2.2.2=h'/\z.1<=r.length/\∀j,j<z.1->AT f d.key (d.columns.getD j ⟨⟨#[]⟩,0⟩).kind j (r.getD j zeroV)=true)/\r.length-z.1<r.length-i/\z=(i+1,u,B,m',h'):=λH=>⟨_,⟨rfl,rfl,rfl,rfl,aC,A H⟩,aC,rfl⟩
  refine⟨b2,o2,X,aC,aC,x,.imm I,x,rfl,aB (λev=>n ?_) (λev=>?_)⟩
  .have ev:kN x=false:=bk
   simp[AT,ev]
  have ev:kN x=true:=bk
  refine⟨λz=>z=(i,u,x,B,(x.kind==2&&(f !=1&&decide ((i:Int)>=u.key))),m',h'),aB (λg=>aB (λE=>⟨_,rfl,by rw[g,E];exact MT⟩) (λE=>⟨_,rfl,by rw[g,E];exact MT⟩)) (λg=>⟨_,rfl,by rw[g];exact MT⟩),?_⟩;rintro _ rfl;dsimp only;refine⟨λz=>z=(i,u,x,B,(x.kind==2&&(f !=1&&decide ((i:Int)>=u.key))),(x.kind==1&&(f==3&&decide ((i:Int)>=u.key))),m',h'),aB (λg=>aB (λE=>⟨_,rfl,by rw[g,E];exact MT⟩) (λE=>⟨_,rfl,by rw[g,E];exact MT⟩)) (λg=>⟨_,rfl,by rw[g];exact MT⟩),?_⟩;rintro _ rfl;dsimp only
  have F:AT f d.key c.kind i x=(x.kind==c.kind||((x.kind==2&&(f !=1&&decide ((i:Int)>=u.key)))||(x.kind==1&&(f==3&&decide ((i:Int)>=u.key))))):=by
   rw[hk];simp only[AT,ev,Bool.true_and,ge_iff_le,Bool.and_or_distrib_right,Bool.and_assoc]
  generalize a7:(x.kind==2&&(f !=1&&decide ((i:Int)>=u.key)))=B1 at F⊢
  generalize a8:(x.kind==1&&(f==3&&decide ((i:Int)>=u.key)))=B2 at F⊢
  refine⟨b3,o3,Z,aC,aC,c.kind,.imm (bA.part a' 1 1),aB (λM=>aB (λO=>aB (λe5=>n ?_) (λe5=>?_)) (λO=>?_)) (λM=>?_)⟩
  .grind
  all_goals
   obtain⟨_,g1,g2,rfl⟩:=go (by rw[F];simp_all);refine⟨_,g1,g2,?_⟩;dsimp only;rw[jG (by have:=bC.len Q;omega)];exact MT
 .have:qM f d r=true:=jF.2 ⟨S,λj V=>C j aC⟩;rw[this]at D;exact D
theorem VT{c:Int}{t:Nat}{tb:sZ}(h:s.tables[t]? =some tb)(r:de):rR c s t r=qM c tb r:=by
 have:t<s.tables.length:=(bt h);have e:i7 s (t:Int)=true:=by simp[i7];omega
 exact zX (br h) e
theorem X9:cu 72 No:=by
 refine iB func72 ?_;rintro b0 m h K ⟨v,s,Y,H,y,rfl,M,Z,hn,m1,m3,d⟩;refine⟨a5Z y v Y m h,rfl,aD WW (aD Rt (aD Nc (aD Co (aD tN aF)))),Rv y v Y m h K,be,?_⟩;dsimp only[Rv,push_cast];have b1:=M.tables.slen;have a':=bC.slen Z;unfold wJ at d;refine⟨v,s,y,rfl,M,m1,m3,aB (λe=>?_) (λe=>⟨Y,H,rfl,Z,hn,aE (λI=>?_) (λI=>aB (λe3=>?_) (λe3=>?_))⟩)⟩
 .rw[if_pos (br e)]at d;exact d
 all_goals rw[if_neg (br e)]at d
 .rw[if_pos (by unfold eD at I;omega)]at d;exact d
 all_goals rw[if_neg (by unfold eD at I;omega)]at d
 .rw[if_pos bk]at d;exact d
 have O:H.length=s.tables.length:=bk
 rw[if_neg (by simp[O])]at d;have a0:¬Tl y s H->K (cI 80) m h:=λhb=>bk
 refine⟨λi=>i<=H.length/\∀(j:Nat) t l,j<i->s.tables[j]? =some t->H[j]? =some l->XH y t l,λi=>H.length-i,⟨0,⟨bf,λj t l hj=>by omega⟩,MT⟩,?_⟩;rintro i ⟨hi,P⟩;refine aE (λa1=>?_) (λb4=>?_)
 .obtain⟨l,hx⟩:=eO a' a1;obtain⟨b,o,u,ea,rd,J⟩:=bC.at Z hx;have a2:=bC.slen J;have b5:=bC.len J;obtain⟨A,c⟩:∃A,s.tables[i]? =some A:=⟨_,bu aC⟩
  have B:¬XH y A l->K (cI 80) m h:=λhb=>a0 λf=>hb (f i A l c hx);refine⟨b,o,ea,aC,aC,u,.imm rd,λz=>z.1=i/\z.2.1=u/\z.2.2<=l.length/\(∀k r,k<z.2.2->l[k]? =some r->qM y A r=true)/\∀k r L,k+1<z.2.2->l[k]? =some r->l[k+1]? =some L->cN (dU A r) (dU A L)<0,λz=>l.length-z.2.2,⟨(i,u,0),⟨rfl,rfl,bf,λk r E=>by simp at E,λk r L E=>by simp at E⟩,MT⟩,?_⟩;rintro⟨F,u',j⟩ ⟨e1,I,hj,C,D⟩;dsimp only at e1 I hj C D⊢
  subst e1 I;refine aE (λQ=>?_) (λb'=>?_)
  .obtain⟨r,R⟩:=eO a2 Q;obtain⟨b2,o2,w,a3,a4,hv⟩:=bC.at J R;refine⟨b2,o2,a3,aC,aC,w,.imm a4,v,s,F,w,r,y,rfl,M,hv,m1,m3,aB (λW=>B λf=>?_) (λW=>?_)⟩
   .rw[VT c,f.1 r (bx R)]at W;cases W
   have hf:qM y A r=true:=by rw[VT c]at W;grind
   have g:∀k r,k<j+1->l[k]? =some r->qM y A r=true:=λk L E b6=>by
    grind
   refine aE (λa5=>?_) (λa5=>?_)
   .have hw:IntKind.i64.wrap ((j:Int)-1)=((j-1:Nat):Int):=by rw[dO aC aC];omega
    obtain⟨X,S⟩:∃X,l[j-1]? =some X:=⟨_,bu aC⟩
    obtain⟨b3,o3,w3,a6,G,a7⟩:=bC.at J S;rw[hw];refine⟨b3,o3,a6,aC,aC,w3,.imm G,v,s,F,w3,X,rfl,M,a7,λs1 a8=>⟨G,v,s,F,w,r,rfl,M,hv,λs2 a9=>⟨G,s1,s2,_,_,rfl,a8,a9,aE (λhc=>B λf=>?_) (λhc=>?_)⟩⟩⟩
    .rw[rG c,rG c]at hc;have:=f.2 (j-1) X r S bk;omega
    .rw[rG c,rG c]at hc;refine⟨(F,u',j+1),⟨rfl,rfl,bk,g,λk r1 r2 E T U=>?_⟩,bk,?_⟩
     .grind
     .dsimp only;rw[jG aC];exact MT
   .refine⟨(F,u',j+1),⟨rfl,rfl,bk,g,λk r1 r2 E T U=>bk⟩,bk,?_⟩;dsimp only;rw[jG aC];exact MT
  .refine⟨F+1,⟨aC,λk t l' E ht V=>?_⟩,aC,?_⟩
   .by_cases e5:k=F
    .subst e5;rw[c]at ht;cases ht;rw[hx]at V;cases V;refine⟨λr J=>?_,λk r L T U=>D k r L ?_ T U⟩
     .obtain⟨n,hn,rfl⟩:=mem_iff_getElem.1 J;exact C n _ aC (bu hn)
     grind
    grind
   .rw[jG aC];exact MT
 .rw[if_pos]at d
  .exact d
  .exactλj t l T U=>P j t l bk T U
structure tD where
 tab:Int
 old:de
 new:de
def sJ(s:j4)(c:tD):de:=if 0<c.old.length then iI s c.tab c.old else iI s c.tab c.new
def AY(d:Int)(s:j4)(c:tD):Bool:=
 i7 s c.tab&& !(c.old.length==0&&c.new.length==0)&&(c.old.length==0||rR d s c.tab c.old)&&(c.new.length==0||rR d s c.tab c.new)&&(c.old.length==0||c.new.length==0||cN (iI s c.tab c.old) (iI s c.tab c.new)==0)
def mG(k:de->de)(l:cw)(key:de):Nat:=l.countP λr=>decide (cN (k r) key<0)
def lC(k:de->de)(l:cw)(key:de):Bool:=decide (mG k l key<l.length)&&cN (k (l.getD (mG k l key) [])) key==0
def lO(s:j4)(l:cw)(c:tD):Option cw:=
 let i:=mG (iI s c.tab) l (sJ s c)
 let f:=lC (iI s c.tab) l (sJ s c)
 if(f !=decide (0<c.old.length))||(f&&cN (l.getD i []) c.old !=0)then none
 else some (l.take i++(if 0<c.new.length then[c.new]else[])++l.drop (if f then i+1 else i))
def qH(d:Int)(s:j4):List cw->Int->List tD->List cw×Int
 |st,_,[]=>(st,0)
 |st,n,c::cs=>
  if AY d s c=false then([],71)
  else match lO s (st.getD c.tab.toNat []) c with
   |none=>([],81)
   |some l=>if 512<n+((l.length:Int)-((st.getD c.tab.toNat []).length:Int))then([],2)else qH d s (st.set c.tab.toNat l) (n+((l.length:Int)-((st.getD c.tab.toNat []).length:Int))) cs
theorem Gz{a b c:de}(f:cN a b<0)(g:cN b c<0):cN a c<0:=by
 have d:=zY a b c aC aC;rcases Int.lt_or_eq_of_le d with h|h
 .exact h
 .have e:=gT.1 h;subst e;have:=kL a b;omega
theorem ZL{a b c:de}(e:cN a b<=0)(d:cN b c<0):cN a c<0:=by
 rcases Int.lt_or_eq_of_le e with h|h
 .exact Gz h d
 .rw[gT.1 h];exact d
abbrev UpK(k:de->de)(l:cw):Prop:=l.Pairwise λx y=>cN (k x) (k y)<0
theorem Lx{k:de->de}{key:de}:∀{l:cw},UpK k l->(∀r∈l.take (mG k l key),cN (k r) key<0)/\(∀r∈l.drop (mG k l key),0<=cN (k r) key)
 |[],_=>bf
 |a::l,h=>by
  have h:List.Pairwise (λx y=>cN (k x) (k y)<0) (a::l):=h;rw[pairwise_cons]at h;obtain⟨c,d⟩:=h;have o:=Lx (key:=key) d;by_cases f:cN (k a) key<0
  .have e:mG k (a::l) key=mG k l key+1:=by unfold mG;grind
   grind
  .have g:mG k l key=0:=by
    unfold mG;rw[countP_eq_zero];intro r j;simp only[cm];intro n;have:=c r j;exact f (Gz this n)
   have e:mG k (a::l) key=0:=by
    have:mG k (a::l) key=mG k l key:=by unfold mG;grind
    rw[this,g]
   grind
theorem aZX(k:de->de)(l:cw)(key:de):mG k l key<=l.length:=countP_le_length
theorem LJ{k:de->de}{key:de}{l:cw}(h:UpK k l):lC k l key=true↔∃r∈l,k r=key:=by
 have n:=Lx (key:=key) h;unfold lC;rw[cg,cm,beq_iff_eq];constructor
 .rintro⟨f,g⟩;rw[getD_eq_getElem?_getD,bu f]at g;exact⟨_,getElem_mem f,gT.1 g⟩
 .rintro⟨r,o,rfl⟩;have y:cN (k r) (k r)=0:=gT.2 rfl
  have c:r∈l.drop (mG k l (k r)):=by
   rw[<-take_append_drop (mG k l (k r)) l,mem_append]at o
   grind
  have d:mG k l (k r)<l.length:=by
   refine Nat.lt_of_not_le λt=>?_;rw[drop_of_length_le t]at c;simp at c
  refine⟨d,?_⟩;rw[getD_eq_getElem?_getD,bu d];show cN (k l[mG k l (k r)]) (k r)=0;have j:l.drop (mG k l (k r))=l[mG k l (k r)]::l.drop (mG k l (k r)+1):=drop_eq_getElem_cons d;have z:=n.2 l[mG k l (k r)] bk;rw[j]at c;rcases mem_cons.1 c with e|A
  .grind
  .have u:=List.Pairwise.sublist (drop_sublist (mG k l (k r)) l) h;rw[j,pairwise_cons]at u
   grind
structure Wr where
 cols:dd
 bef:cw
 aft:cw
abbrev fb:=List Wr
structure Den where
 chg:Int
 aft:Bool
 tab:Int
 key:de
 col:Int
abbrev fe:=List Den
def yS(s:j4)(c:tD):de:=iI s c.tab (if c.new.length=0 then c.old else c.new)
def kO(ws:fb)(key:de)(d:Bool)(c:Int):Bool:=ws.any λw=>(decide (c<0)||w.cols.contains c)&&X4 (if d then w.aft else w.bef) key
def P4(s:j4)(ws:fb)(i:Int)(c:tD):fe:=
 if c.old.length=0 then(if kO ws (yS s c) true (-1)then[]else[⟨i,true,c.tab,yS s c, -1⟩])
 else if c.new.length=0 then(if kO ws (yS s c) false (-1)then[]else[⟨i,false,c.tab,yS s c, -1⟩])
 else(List.range c.old.length).flatMap λj=>if W4 (c.old.getD j zeroV) (c.new.getD j zeroV)=true then[]else([false,true].filter λa=> !kO ws (yS s c) a j).map λa=>⟨i,a,c.tab,yS s c,j⟩
structure Bh(h:PH)(c:tD)(v:fO):Prop where
 tab_:v.table=c.tab
 old_:bO h v.old c.old
 new_:bO h v.new c.new
theorem Bh.mono{c:tD}{v:fO}(x:Bh h c v)(le:PH.le h h'):Bh h' c v:=⟨x.tab_,x.old_.mono le,x.new_.mono le⟩
def ZV(v:fO):CV:=.val (.agg ⟨v.enc⟩)
def Uz:Vc.Spec:=λc m h K=>∃s r,c=[cS s]/\bO h s r/\r.length<=1000/\∀d h',PH.le h h'->bO h' d r->K (cS d) m h'
def cdJ:Vc.Spec:=λc m h K=>∃s t a b,c=[cS s,cS t]/\bO h s a/\bO h t b/\K (cB (cN a b==0)) m h
def bvZ:Vc.Spec:=λd m h K=>∃sc v s c,d=[aS sc,ZV v]/\dM h s sc/\Bh h c v/\∀e,bO h e (sJ s c)->K (cS e) m h
def amQ:Vc.Spec:=λe m h K=>∃sc v s c d,e=[aS sc,cI d,ZV v]/\dM h s sc/\Bh h c v/\1<=d/\d<=3/\K (cB (AY d s c)) m h
def bXX:Vc.Spec:=λd m h K=>∃x u e f sc v s c a b,d=[cS x,cS u,cP e,cP f]/\m e=some (.cells ⟨bJ.enc sc⟩ 29 (0,0))/\m f=some (.cells ⟨fO.enc v⟩ 84 (0,0))/\dM h s sc/\v.table=c/\bO h x a/\bO h u b/\K (cI (cN (iI s c a) b)) m h
def bvQ:Vc.Spec:=λd m h K=>∃(s u:Sl)(g:Nat)(c:cv)(l:cw)(key:de)(k:de->de),d=[cS s,cS u,.val (.func (.func g) #[] ⟨c⟩)]/\Rows h s l/\l.length<=8000000/\UpK k l/\
 (∀(x:Sl) r,r∈l->bO h x r->FAt Tryz.prog g 3 (cS x::cS u::c.map .val) m h (λz m' h'=>z=[.int .i64 (cN (k r) key)]/\m'=m/\h'=h))/\K (.tup [cI (mG k l key:Nat),cB (lC k l key)]) m h
noncomputable def bHZ(sc:bJ)(v:fO)(c:Int)(m:MH)(h:PH):Ctx:=dD [(116,buJ),(118,H5),(119,cdJ)] [(4,{A:=Nat,st:=λi=>bU 78 81 [(1,iv c),(3,.at (.ptr 3 0)),(5,.at (.ptr 5 0)),(36,.agg [.val (.slice v.old.a v.old.len v.old.cap),.val (.slice v.new.a v.new.len v.new.cap)]),(37,iv i)] [(3,.cells 29 (sc.enc.map .val)),(5,.cells 84 (v.enc.map .val))] m h})] [(3,{A:=Unit,st:=λ_=>bU 78 81 [(1,iv c),(3,.at (.ptr 3 0)),(5,.at (.ptr 5 0))] [(3,.cells 29 (sc.enc.map .val)),(5,.cells 84 (v.enc.map .val))] m h}),(9,{A:=Unit,st:=λ_=>bU 78 81 [(3,.at (.ptr 3 0)),(5,.at (.ptr 5 0))] [(3,.cells 29 (sc.enc.map .val)),(5,.cells 84 (v.enc.map .val))] m h})] [] false
noncomputable def bhZ(s u:Sl)(g:Nat)(c:cv)(m:MH)(h:PH):Ctx:=
 rT [] [(3,{A:=Nat×Nat,st:=λ⟨i,j⟩=>bU 49 52 [(0,sv s),(1,sv u),(2,vv (.func (.func g) #[] ⟨c⟩)),(8,iv s.len),(9,iv i),(10,iv j)] [] m h})] [] [] [510003] [] false
def V9(s:Sl)(m:MH)(h:PH)(K:dc):Prop:=
  ∃(y:List cv),aA (dQ 3 y) (bX h (cH s) 3 y) (aA (cW (y.length*32)) (cW y.length) (bQ h 3 y (λc d=>K (mL c) m d)))
def aQX(s t:Sl)(m:MH)(h:PH)(K:dc):Prop:=
  xV s t h (λa b=>K (Cr (cN a b==0)) m h)
def Sq(sc:bJ)(v:fO)(m:MH)(h:PH)(K:dc):Prop:=
  kK (aG v.old) 0 (Ak sc v.table v.old h (λs=>K (mL s) m h)) (Ak sc v.table v.new h (λs=>K (mL s) m h))
abbrev mT(a:fO):Prop:=eQ (oQ 84 (cG (iN a.table) (fY a.old) (qB a.new)))
noncomputable abbrev yB(a:fO):SV:=SV.agg (fZ (fY a.old) (fY a.new))
attribute [push_cast] mT yB
def V8(sc:bJ)(v:fO)(d:Int)(m:MH)(h:PH)(K:dc):Prop:=
  JN (λI=>aY v.table 0 (K aZ m h) (branch (decide (v.table>=gY sc)) (K aZ m h) (bK (aG v.old) 0 (branch (aG v.new==0) (K aZ m h) (∃(x:Unit),aA (I x) (bL d) (aA (eP 3) bS (aA (aU sc) (mT v) (aA (m=m) (h=h) True))))) (∃(x:Unit),aA (I x) (bL d) (aA (eP 3) bS (aA (aU sc) (mT v) (aA (m=m) (h=h) True))))))) (JN (λI=>nG (λI1 x=>aA (I1 x) (bL d) (aA (eP 3) bS (aA (yB v=yB v) (bE x) (aA (aU sc) (mT v) (dP m m h h))))) (λI1 f x=>I1 x->aY (↑x:Int) 2 (aA (sC x) ((↑x:Int)<2) (bK (↑x:Int) 0 (kK (aG v.old) 0 (zS (λj s t=>tH (λg r=>∃(e:Int),aA (cE (dX sc) (nH v.table (eJ v.old d))=cE (dX j) (nH t (eJ g e))) (dM h s j) (aA (bO h g r)
 (1<=e) (e<=3/\oF (!(rR e s t r)) K m h (λc=>aA (I1 c) (f c<f x) (aA (bL d) fW (aA bS (yB v=yB v) (aA (fJ (aW x 1)=bY c) (aU sc) (cF (mT v) m m h h)))))))))) (∃(c:Nat),aA (I1 c) (f c<f x) (aA (bL d) fW (aA bS (yB v=yB v) (aA (fJ (aW x 1)=bY c) (aU sc) (cF (mT v) m m h h)))))) (bK (↑x:Int) 1 (kK (aG v.new) 0 (zS (λj s t=>tH (λg r=>∃(e:Int),aA (cE (dX sc) (nH v.table (eJ v.new d))=cE (dX j) (nH t (eJ g e))) (dM h s j) (aA (bO h g r) (1<=e) (e<=3/\oF (!(rR e s t r)) K m h (λc=>aA (I1 c) (f c<f x) (aA (bL d) fW (aA bS (yB v=yB v) (aA (fJ (aW x 1)=bY c) (aU sc) (cF (mT v) m m h
 h)))))))))) (∃(c:Nat),aA (I1 c) (f c<f x) (aA (bL d) fW (aA bS (yB v=yB v) (aA (fJ (aW x 1)=bY c) (aU sc) (cF (mT v) m m h h)))))) True))) (∃(c:Unit),aA (I c) fW (aA bS (aU sc) (cF (mT v) m m h h))))) (branch (aG v.old==0) (K fB m h) (branch (aG v.new==0) (K fB m h) (Ak sc v.table v.old h (λs=>Ak sc v.table v.new h (λg=>xV s g h (λa b=>K (Cr (cN a b==0)) m h)))))))
def Sp(x u:Sl)(c d:Nat)(m:MH)(h:PH)(K:dc):Prop:=
  ∃(y:bJ),aJ m h c 0 (dX y)/\sO m h d 0 (λe=>Ak y e x h (λs=>xV s u h (λa b=>K (jA (cN a b)) m h)))
noncomputable abbrev Jx(a:Nat×Nat):Int:=eE (Int.fdiv (O1 (aW a.1 (↑a.2:Int))) 2)
abbrev J7(a b:Nat)(c d:Sl)(e:cv)(g:MH)(i:Nat->Nat->Option Value)(j:cv->MH->PH->Prop):Prop:=FAt Proofs.Tryz.prog a b (cQ c (cQ d (List.map CV.val e))) g i (fun(x:cv)=>fun(f:MH)=>fun(n:PH)=>j x f n)
attribute [push_cast] Jx J7
def Sr(s u:Sl)(g:Nat)(c:cv)(m:MH)(h:PH)(K:dc):Prop:=
  NS (λI x=>aA (I x) (aH s) (aA (aH u) (eQ (De (Fn.func g) (Array.mk c))) (aA (bI s) (bE x.1) (aA (bY s.len=bY x.2) (m=m) (dH h h))))) (λI n x=>I x->aY (↑x.1:Int) (↑x.2:Int) (dN s.a (Jx x) s (λb o y=>aJ m h b (eM o (Jx x) 1) (aM y)/\∃(R:Int->MH->PH->Prop),J7 g 3 y u c m h (λl e f=>∃(d:Int),l=bG d/\R d e f)/\∀(d:Int),eZ (λe f=>R d e f->aY d 0 (∃(j:Nat×Nat),aA (I j) (n j<n x) (aA (aH s) (aH u) (aA (eQ (De (Fn.func g) (Array.mk c))) (bI s) (aA (SV.at (At.val (cV (eE (Jx x+1))))=bY j.1) (bP x.2 j.2) (dP e m f h))))) (∃(j:Nat×Nat),aA (I j) (n j<n x) (aA (aH s) (aH u) (aA (eQ (De (Fn.func g) (Array.mk c))) (bI s) (aA (bP x.1 j.1)
 (SV.at (At.val (cV (Jx x)))=bY j.2) (dP e m f h)))))))) (aY (↑x.1:Int) (aG s) (dN s.a (↑x.1:Int) s (λb o y=>aJ m h b (bB o x.1 1) (aM y)/\∃(R:Int->MH->PH->Prop),J7 g 3 y u c m h (λl e f=>∃(d:Int),l=bG d/\R d e f)/\∀(d:Int),eZ (λe f=>R d e f->K (CV.tup (fT (↑x.1:Int) (Cr (d==0)))) e f))) (K (CV.tup (fT (↑x.1:Int) aZ)) m h)))
theorem VX{P:Program}{f:FuncId}{T:TypeId}{c:du}{R R':cv->MH->PH->Prop}(x:FAt P f T c m h R)(d:∀l m' h',R l m' h'->R' l m' h'):FAt P f T c m h R':=
 ⟨x.fn,λg w e j=>(x.go g w e j).mono λ_ _⟨l,m',h',n,o,t⟩=>⟨l,m',h',n,d _ _ _ o,t⟩⟩
theorem a2X{j:Nat}(h:i+j<=32000000):IntKind.i64.wrap ((IntKind.u64.wrap (IntKind.i64.wrap ((i:Int)+(j:Int)))).fdiv 2)=(((i+j)/2:Nat):Int):=by
 rw[dO (n:=(i:Int)+j) aC aC,QR aC aC,Int.fdiv_eq_ediv_of_nonneg _ aC];have:((i:Int)+j)/2=(((i+j)/2:Nat):Int):=by omega
 rw[this,dO aC aC]
theorem aVX{k:de->de}{l:cw}(d:UpK k l){j:Nat}{x y:de}(c:i<j)(hx:l[i]? =some x)(e:l[j]? =some y):cN (k x) (k y)<0:=by
 obtain⟨f,rfl⟩:=List.getElem?_eq_some_iff.1 hx;obtain⟨g,rfl⟩:=List.getElem?_eq_some_iff.1 e;exact pairwise_iff_getElem.1 d i j f g c
theorem bzQ{k:de->de}{l:cw}{key:de}(f:i<=l.length)(g:∀j y,j<i->l[j]? =some y->cN (k y) key<0)(n:∀j y,i<=j->l[j]? =some y->¬cN (k y) key<0):mG k l key=i:=by
 have e:mG k l key=(l.take i).countP (λy=>decide (cN (k y) key<0))+(l.drop i).countP (λy=>decide (cN (k y) key<0)):=by
  rw[<-countP_append,take_append_drop];rfl
 have o:(l.take i).countP (λy=>decide (cN (k y) key<0))=(l.take i).length:=countP_eq_length.2 λy c=>by
  obtain⟨j,d⟩:=getElem?_of_mem c
  grind
 have t:(l.drop i).countP (λy=>decide (cN (k y) key<0))=0:=countP_eq_zero.2 λy c=>by
  obtain⟨j,d⟩:=getElem?_of_mem c
  grind
 grind
theorem bTQ{x u:Sl}{d e:Nat}{v:fO}{c:Int}{a b:de}(f:m d=some (.cells ⟨bJ.enc sc⟩ 29 (0,0)))(g:m e=some (.cells ⟨fO.enc v⟩ 84 (0,0)))(j:dM h s sc)(n:v.table=c)(hx:bO h x a)(o:bO h u b)(t:K (cI (cN (iI s c a) b)) m h):Sp x u d e m h K:=
 ⟨sc,.lent _ _ _ f rfl,v.table,.lent _ _ _ g rfl,sc,s,v.table,x,a,rfl,j,hx,λy h'=>⟨y,u,_,_,rfl,h',o,by rw[n];exact t⟩⟩
theorem Ru:cu 73 Uz:=by
 refine iB func73 ?_;rintro e m h K ⟨s,r,rfl,f,d,g⟩;refine⟨dD [] [] [] [] false,rfl,aF,V9 s m h K,be,?_⟩;dsimp only[V9,push_cast];obtain⟨⟨c,j,n,o⟩,t⟩:=f;exact⟨c.map VV.enc,B8 c,j,bk,bk,λs h' le d=>g s h' le ⟨⟨c,d,n,o⟩,t⟩⟩
theorem PQ:cu 119 cdJ:=by
 refine iB func119 ?_;rintro c m h K ⟨s,t,a,b,rfl,d,e,f⟩;refine⟨dD [(117,FQ)] [] [] [] false,rfl,aD tN aF,aQX s t m h K,be,?_⟩;exact⟨s,t,a,b,rfl,d,e,f⟩
theorem Zu:cu 121 bvZ:=by
 refine iB func121 ?_;rintro j m h K ⟨sc,v,s,c,rfl,f,d,g⟩;refine⟨dD [(118,H5)] [] [] [] false,rfl,aD Co aF,Sq sc v m h K,be,?_⟩;dsimp only[Sq,push_cast];have n:=bC.slen d.old_;refine aE (λa=>⟨sc,s,v.table,v.old,c.old,rfl,f,d.old_,λe h'=>g e ?_⟩) (λa=>⟨sc,s,v.table,v.new,c.new,rfl,f,d.new_,λe h'=>g e ?_⟩)
 .rw[sJ,if_pos aC, <-d.tab_];exact h'
 .rw[sJ,if_neg aC, <-d.tab_];exact h'
theorem aGZ:cu 75 amQ:=by
 refine iB func75 ?_;rintro G m h K ⟨sc,v,s,c,d,rfl,t,H,E,F,f⟩;refine⟨bHZ sc v d m h,rfl,aD Nc (aD Co (aD PQ aF)),V8 sc v d m h K,be,?_⟩;dsimp only[V8,push_cast];have U:=t.tables.slen;obtain⟨I,A,B⟩:=H;have J:=bC.slen A;have L:=bC.slen B;have n:AY d s c=false->K (cB false) m h:=λe=>bk
 have low:c.tab<0\/(s.tables.length:Int)<=c.tab->i7 s c.tab=false:=λe=>by
  simp only[i7,Bool.and_eq_false_iff,decide_eq_false_iff_not];omega
 refine⟨λ_=>i7 s c.tab=true/\(c.old.length≠0\/c.new.length≠0),aE (λg=>n ?_) (λg=>aE (λj=>n ?_) (λj=>aB (λy=>aB (λo=>n ?_) (λo=>⟨(),⟨?_,Or.inr ?_⟩,MT⟩)) (λy=>⟨(),⟨?_,Or.inl ?_⟩,MT⟩))),?_⟩
 .simp[AY,low aC]
 .simp[AY,low aC]
 .simp only[beq_iff_eq]at y o;simp[AY,show c.old.length=0 by omega,show c.new.length=0 by omega]
 .simp only[i7,cg,cm];omega
 .grind
 .simp only[i7,cg,cm];omega
 .grind
 rintro _ ⟨M,V⟩
 have O:AY d s c=((c.old.length==0||rR d s c.tab c.old)&&(c.new.length==0||rR d s c.tab c.new)&&(c.old.length==0||c.new.length==0||cN (iI s c.tab c.old) (iI s c.tab c.new)==0)):=by
  have:(!(c.old.length==0&&c.new.length==0))=true:=by
   grind
  simp only[AY,M,this,Bool.true_and]
 rw[O]at f n;have P:v.table=c.tab:=I;refine⟨λ_=>(c.old.length==0||rR d s c.tab c.old)=true/\(c.new.length==0||rR d s c.tab c.new)=true,⟨λi=>i<=2/\(0<i->(c.old.length==0||rR d s c.tab c.old)=true)/\(1<i->(c.new.length==0||rR d s c.tab c.new)=true),λi=>2-i,⟨0,⟨aC,λe=>by omega,λe=>by omega⟩,MT⟩,λi⟨W,z,C⟩=>aE (λg=>⟨aC,g,aB (λj=>?_) (λj=>aB (λy=>?_) (λy=>trivial))⟩) (λg=>⟨(),⟨z aC,C aC⟩,MT⟩)⟩,?_⟩
 .have:i=0:=bk
  subst this;have u:(c.old.length==0||rR d s c.tab c.old)=true->(0+1<=2/\(0<0+1->(c.old.length==0||rR d s c.tab c.old)=true)/\(1<0+1->(c.new.length==0||rR d s c.tab c.new)=true)):=λe=>⟨aC,λ_=>e,λe=>by omega⟩
  refine aE (λo=>⟨sc,s,v.table,v.old,c.old,d,rfl,t,A,E,F,aB (λD=>n ?_) (λD=>⟨1,u ?_,bk,MT⟩)⟩) (λo=>⟨1,u ?_,bk,MT⟩)
  .grind
  .grind
  grind
 .have:i=1:=bk
  subst this;have u:(c.new.length==0||rR d s c.tab c.new)=true->(1+1<=2/\(0<1+1->(c.old.length==0||rR d s c.tab c.old)=true)/\(1<1+1->(c.new.length==0||rR d s c.tab c.new)=true)):=λe=>⟨aC,λ_=>z aC,λ_=>e⟩
  refine aE (λo=>⟨sc,s,v.table,v.new,c.new,d,rfl,t,B,E,F,aB (λD=>n ?_) (λD=>⟨2,u ?_,bk,MT⟩)⟩) (λo=>⟨2,u ?_,bk,MT⟩)
  .grind
  .grind
  grind
 .rintro _ ⟨z,C⟩;rw[z,C,Bool.true_and,Bool.true_and]at f;refine aB (λg=>?_) (λg=>aB (λj=>?_) (λj=>⟨sc,s,v.table,v.old,c.old,rfl,t,A,λQ R=>⟨sc,s,v.table,v.new,c.new,rfl,t,B,λS T=>⟨Q,S,_,_,rfl,R,T,?_⟩⟩⟩))
  .simp only[beq_iff_eq]at g;rw[show c.old.length=0 by omega]at f;exact f
  .simp only[beq_iff_eq]at j;rw[show(c.new.length==0)=true by grind,Bool.or_true,Bool.true_or]at f;exact f
  .simp only[beq_eq_false_iff_ne]at g j;rw[show(c.old.length==0)=false by grind,show(c.new.length==0)=false by grind]at f;rw[P];exact f
theorem Zt:cu 122 bXX:=by
 refine iB func122 ?_;rintro d m h K ⟨x,u,e,f,sc,v,s,c,a,b,rfl,g,j,n,o,t,y,z⟩;refine⟨dD [(118,H5),(117,FQ)] [] [] [] false,rfl,aD Co (aD tN aF),Sp x u e f m h K,be,?_⟩;exact bTQ g j n o t y z
theorem PO:cu 120 bvQ:=by
 refine iB func120 ?_;rintro Y m h K ⟨s,u,g,d,l,key,k,rfl,F,hl,V,W,B⟩;refine⟨bhZ s u g d m h,rfl,aF,Sr s u g d m h K,be,?_⟩;dsimp only[Sr,push_cast];have Z:=bC.slen F;refine⟨λx=>x.1<=x.2/\x.2<=l.length/\(∀j y,j<x.1->l[j]? =some y->cN (k y) key<0)/\∀j y,x.2<=j->l[j]? =some y->¬cN (k y) key<0,λx=>x.2-x.1,⟨(0,l.length),⟨bf,bf,λj y C=>by omega,λj y C E=>bk⟩,?_⟩,?_⟩
 .grind
 rintro⟨i,j⟩ ⟨G,C,f,t⟩;dsimp only at G C f t;refine aE (λA=>?_) (λH=>?_)
 .dsimp only at A⊢
  have A:i<j:=by omega
  rw[a2X aC];have I:i<=(i+j)/2:=by omega
  have J:(i+j)/2<j:=by omega
  generalize (i+j)/2=n at I J;have c:l[n]? =some (l[n]'(by omega)):=bu _;generalize l[n]'(by omega)=x at c;obtain⟨b,o,e,L,rd,M⟩:=bC.at F c;refine⟨b,o,L,aC,aC,e,.imm rd,λz m' h'=>z=cN (k x) key/\m'=m/\h'=h,VX (W e x (bx c) M) λz m' h'⟨O,P,Q⟩=>⟨_,O,rfl,P,Q⟩,?_⟩;rintro _ _ _ ⟨rfl,rfl,rfl⟩;refine aE (λR=>⟨(n+1,j),⟨aC,C,λS y T E=>?_,t⟩,aC,?_⟩) (λR=>⟨(i,n),⟨aC,aC,f,λS y T E hn=>?_⟩,aC,?_⟩)
  .by_cases U:S=n
   .grind
   .exact Gz (aVX V aC E c) R
  .rw[jG aC];exact MT
  .by_cases U:S=n
   .grind
   .exact R (Gz (aVX V aC c E) hn)
  .exact MT
 .dsimp only at H⊢
  have:i=j:=by omega
  subst this;have ep:=bzQ C f t;rw[lC,ep]at B;refine aE (λA=>?_) (λX=>?_)
  .have D:i<l.length:=by omega
   have c:l[i]? =some l[i]:=bu D;generalize l[i]=x at c;obtain⟨b,o,e,L,rd,M⟩:=bC.at F c;refine⟨b,o,L,aC,aC,e,.imm rd,λz m' h'=>z=cN (k x) key/\m'=m/\h'=h,VX (W e x (bx c) M) λz m' h'⟨O,P,Q⟩=>⟨_,O,rfl,P,Q⟩,?_⟩;rintro _ _ _ ⟨rfl,rfl,rfl⟩;rw[getD_eq_getElem?_getD,c,decide_eq_true D,Bool.true_and]at B;exact B
  .rw[decide_eq_false (show¬i<l.length by omega),Bool.false_and]at B;exact B
def XA:Vc.Spec:=λd m h K=>∃sc u v s l c,d=[aS sc,cS u,ZV v]/\dM h s sc/\Bh h c v/\Rows h u l/\UpK (iI s c.tab) l/\l.length<=100000/\c.new.length<=1000/\
 (lO s l c=none->∀x,K (.tup [cS x,cB false]) m h)/\(∀e,lO s l c=some e->∀x h',PH.le h h'->Rows h' x e->K (.tup [cS x,cB true]) m h')
noncomputable def bHX(u:Sl)(h:PH):Ctx:=rT [(121,bvZ),(120,bvQ),(119,cdJ),(73,Uz)] []
 [(4,{A:=Nat×Nat×Bool×MH,st:=λ⟨b,i,f,m⟩=>bU 70 73 [(1,sv u),(5,pv b),(8,iv i),(9,bv f)] [] m h}),
  (5,{A:=Nat×Nat×Bool×Sl×Sl×MH,st:=λ⟨b,i,f,x,y,m⟩=>bU 70 73 [(1,sv u),(5,pv b),(8,iv i),(9,bv f),(10,sv x),(11,sv y)] [] m h}),
  (7,{A:=Nat×Sl×Sl×MH,st:=λ⟨b,x,y,m⟩=>bU 70 73 [(5,pv b),(10,sv x),(11,sv y)] [] m h}),
  (9,{A:=Sl×Sl×MH×PH,st:=λ⟨x,y,m,h⟩=>bU 70 73 [(10,sv x),(11,sv y)] [] m h})] [] [200003,200005,3095,4095,100061,100069,0] [] false
noncomputable abbrev jQ(a:fO):cv:=bH (cV a.table) (eF a.old) (aM a.new)
noncomputable abbrev nF(a:Nat×Nat×Bool×MH):Nat:=a.2.1
noncomputable abbrev J5(a:Nat×Nat×Bool×Sl×Sl×MH):Nat->Option Obj:=a.2.2.2.2.2
noncomputable abbrev C3(a:Nat×Sl×Sl×MH):Nat->Option Obj:=a.2.2.2
attribute [push_cast] jQ nF J5 C3
def Pq(sc:bJ)(u:Sl)(v:fO)(m:MH)(h:PH)(K:dc):Prop:=
  ∀(b:Nat)(G:MH),aR (dL m h b) (cL m G b (dX sc) 29) (∀(C:Nat)(j:MH),aR (dL G h C) (cL G j C (jQ v) 84) (∃(y:bJ),aJ j h b 0 (dX y)/\∃(H:fO),aJ j h C 0 (jQ H)/\∃(s:bJ)(J:fO)(L:j4)(c:tD),aI (eC (dX y) (nS (jQ H))=eC (dX s) (nS (jQ J))) (dM h L s) (Bh h c J) (∀(M:Sl),bO h M (sJ L c)->jE (λO P=>Ks (λg Q=>N7 (λl k=>∃(D:de->de),aA (cQ u (fP M (qU 122 (Array.mk (bH (vQp b 0) (vQp C 0) []))))=cQ O (fP P (qU g (Array.mk Q)))) (Rows h O l) (aA (l.length<=8000000) (UpK D l) ((∀(x:Sl)(r:de),aR (List.Mem r l) (bO h x r) (J7 g 3 x P Q j h (λz T E=>aA (z=bG (cN (D r) k)) (T=j) (E=h))))/\∃(I:Nat×Nat×Bool×MH
 ->Prop),j5 j h C 1 (λn=>branch (!(lC D l k==decide (aG n>0))) (aA (aJ j h C 1 (aM n)) (aJ j h C 1 (aM n)) (K (CV.tup (qS CE aZ)) j h)) (branch (lC D l k) (dN u.a (↑(mG D l k):Int) u (λU o F=>aJ j h U (bB o (mG D l k) 1) (aM F)/\∃(R:Sl),aA (aJ j h C 1 (aM R)) (aJ j h C 1 (aM n)) (TD (λB t a S=>aA (gK F R=gK B t) (bO h B a) (aA (bO h t S) (aJ j h C 1 (aM n)) (branch (!(cN a S==0)) (K (CV.tup (qS CE aZ)) j h) (∃(x:Nat×Nat×Bool×MH),aA (I x) (aH u) (aA (eU C x.1) (bP (mG D l k) (nF x)) (cF (fS (lC D l k) x.2.2.1) j x.2.2.2 h h))))))))) (aA (aJ j h C 1 (aM n)) (aJ j h C 1 (aM n)) (∃(x:Nat×Nat×Bool×MH),aA (I x) (aH u) (aA (eU C x.1) (bP (mG
 D l k) (nF x)) (cF (fS (lC D l k) x.2.2.1) j x.2.2.2 h h))))))/\∀(x:Nat×Nat×Bool×MH),I x->∃(I1:Nat×Nat×Bool×Sl×Sl×MH->Prop),aA (aA (sC (nF x)) ((↑(nF x):Int)<=(↑(nF x):Int)) (aA (uN (↑(nF x):Int) u) (sC (nF x)) (aA ((↑(nF x):Int)<=aG u) (u.len<=u.cap) (∀(B:Sl),Dw 1 (cH u) (nL (nF x)) B->∃(f:Nat×Nat×Bool×Sl×Sl×MH),aA (I1 f) (aH u) (aA (eU x.1 f.1) (bP (nF x) f.2.1) (aA (fS x.2.2.1 f.2.2.1) (SV.at (At.val (Value.slice u.a (nL (nF x)) (nL (nF x))))=sQs f.2.2.2.1) (aA (aX B f.2.2.2.2.1) (x.2.2.2=J5 f) (dH h h)))))))) (sC (nF x)) (aA ((↑(nF x):Int)<=aG u) (u.len<=u.cap) (∀(B:Sl),Dw 1 (cH u) (nL (nF x)) B->aI (sC (nF x))
 ((↑(nF x):Int)<=(↑(nF x):Int)) (uN (↑(nF x):Int) u) (∃(f:Nat×Nat×Bool×Sl×Sl×MH),aA (I1 f) (aH u) (aA (eU x.1 f.1) (bP (nF x) f.2.1) (aA (fS x.2.2.1 f.2.2.1) (SV.at (At.val (Value.slice u.a (nL (nF x)) (nL (nF x))))=sQs f.2.2.2.1) (aA (aX B f.2.2.2.2.1) (x.2.2.2=J5 f) (dH h h)))))))/\∀(f:Nat×Nat×Bool×Sl×Sl×MH),I1 f->∃(I2:Nat×Sl×Sl×MH->Prop),branch f.2.2.1 (aI (dG (aW f.2.1 1)) (aW f.2.1 1<=aG u) (u.len<=u.cap) (∀(B:Sl),Dw 1 (cH u) (aW f.2.1 1).toNat B->∃(e:Nat×Sl×Sl×MH),aA (I2 e) (eU f.1 e.1) (aA (aX f.2.2.2.1 e.2.1) (aX B e.2.2.1) (dP (J5 f) (C3 e) h h)))) (∃(e:Nat×Sl×Sl×MH),aA (I2 e) (eU f.1 e.1) (aA (aX f.2.2.2.1 e.2.1) (aX
 f.2.2.2.2.1 e.2.2.1) (dP (J5 f) (C3 e) h h)))/\∀(e:Nat×Sl×Sl×MH),I2 e->∃(I3:Sl×Sl×MH×PH->Prop),j5 (C3 e) h e.1 2 (λn=>kK (aG n) 0 (j5 (C3 e) h e.1 2 (λF=>Bw F h (λB E=>zR (e.2.1.cap=e.2.1.len) (λd=>aI (dQ 1 d) (bX E (cH e.2.1) 1 d) (aR (jS (e.2.1.a=Option.none)) (fV (aM B)=[]) (∃(A:Sl×Sl×MH×PH),aA (I3 A) (aX e.2.1 A.1) (aA (aX e.2.2.1 A.2.1) (j8 (C3 e) A.2) (eA E A.2.2)))) (e.2.1.a=Option.none\/(0:Nat)<1->kX d 24 (bQ E 1 (eK d (aM B)) (λV W=>∃(A:Sl×Sl×MH×PH),aA (I3 A) (aX V A.1) (aA (aX e.2.2.1 A.2.1) (j8 (C3 e) A.2) (eA W A.2.2))))))))) (∃(d:Sl×Sl×MH×PH),aA (I3 d) (aX e.2.1 d.1) (aA (aX e.2.2.1
 d.2.1) (j8 (C3 e) d.2) (eA h d.2.2))))/\∀(d:Sl×Sl×MH×PH),I3 d->Gh (dG (aG d.1)) (aG d.1<=aG d.1) (uN (aG d.1) d.1) (wC d.1=wC d.1) (λA=>vE (dQ 1 A) (bX (eV d.2) (Sl.mk d.1.a (wC d.1) (wC d.1)) 1 A) (λn=>aI (dQ 1 n) (oW (fG d.2) (eV d.2) (cH d.2.1) 1 n) (aR (jS (d.1.a=Option.none)) (n=[]) (K (CV.tup (qS (CV.val (Value.slice d.1.a (wC d.1) (wC d.1))) fB)) (fG d.2) (eV d.2))) (d.1.a=Option.none\/0<n.length->aA (u6 A n 24) (cW (u7 A n)) (bQ (eV d.2) 1 (A++n) (λB E=>K (CV.tup (fP B fB)) (fG d.2) E)))))))))))))
theorem clQ(x:Value):Vc.valOf Tryz.prog 3 [x]=x:=be
theorem akZ{g:Nat}{S:Vc.Spec}{x u:Sl}{c:cv}{z:Int}(d:cu g S)(e:∀K:CV->MH->PH->Prop,K (cI z) m h->S (cS x::cS u::c.map .val) m h K):FAt Tryz.prog g 3 (cS x::cS u::c.map .val) m h λy m' h'=>y=[.int .i64 z]/\m'=m/\h'=h:=
 Sound.fat (vs:=Sl.val x::Sl.val u::c) d (e _ ⟨[.int .i64 z],(congrArg CV.val (clQ _)).symm,rfl,rfl,rfl⟩)
theorem bX.low{s s':Sl}(r:bX h s sz xs)(c:Dw sz ⟨s.a,s.len,s.cap⟩ i s')(t:i<=xs.length):bX h s' sz (xs.drop i):=by
 have d:=r.len;have u:=r.cap;refine⟨by rw[c.len,length_drop, <-d],?_,by rw[c.len,c.cap];grind⟩;rcases r.row with e|⟨b,o,f,k⟩
 .grind
 .by_cases g:s.cap=i
  .grind
  .right;refine⟨b,o+i*sz,by rw[c.a_,if_neg g,f];by_cases n:i*sz=0<;>simp[Addr.add,n],λj e y=>?_⟩
   grind
theorem Va{s:Sl}{l:cw}(x:Rows h s l):s.len<=s.cap:=by
 obtain⟨⟨d,c,_⟩,_⟩:=x;exact c.cap
theorem U9{s:Sl}{l:cw}(x:Rows h s l){n:Nat}(j:n<=l.length):Rows h ⟨s.a,n,n⟩ (l.take n):=by
 obtain⟨⟨d,f,g,o⟩,t⟩:=x;have c:=bX.cut f n bk;refine⟨⟨d.take n,by rw[map_take];exact⟨c.len,c.row,Nat.le_refl _⟩,by simp[g],λi y e=>?_⟩,bj⟩
 grind
theorem Q8{s s':Sl}{l:cw}(x:Rows h s l){n:Nat}(c:Dw 1 ⟨s.a,s.len,s.cap⟩ n s')(j:n<=l.length):Rows h s' (l.drop n):=by
 obtain⟨⟨d,f,g,o⟩,t⟩:=x;refine⟨⟨d.drop n,by rw[map_drop];exact bX.low f c bk,by simp[g],λi y e=>?_⟩,bj⟩
 grind
theorem Q7{h:PH}{s:Sl}{us vs:dk}{a b:cw}(f:bX h s 1 (us.map eS++vs.map eS))(c:a.length=us.length)(g:∀(i:Nat) x,a[i]? =some x->∃v,us[i]? =some v/\bO h v x)(d:b.length=vs.length)(j:∀(i:Nat) x,b[i]? =some x->∃v,vs[i]? =some v/\bO h v x)(n:a.length+b.length<=500000):Rows h s (a++b):=by
 refine⟨⟨us++vs,bk,by simp[c,d],λi x e=>?_⟩,bj⟩
 grind
theorem aGX:cu 76 XA:=by
 refine X7 func76 ?_;rintro b7 m h K ⟨sc,u,v,s,l,c,rfl,hs,V,M,hk,hl,hn,hN,hY⟩;refine⟨bHX u h,rfl,aD Zu (aD PO (aD PQ (aD Ru aF))),Pq sc u v m h (dE h K),be,?_⟩;show Pq sc u v m h (dE h K);dsimp only[Pq,push_cast];intro b m1 Y G O P Q H
 obtain⟨sub,Z,d⟩:Sub m P/\P b=some (.cells ⟨bJ.enc sc⟩ 29 (0,0))/\P O=some (.cells ⟨fO.enc v⟩ 84 (0,0)):=by
  obtain⟨s1,n1⟩:=kG (Sub.refl m) Y G;obtain⟨st,n2⟩:=kG s1 Q H;have a5:b≠O:=λe=>by have:=Q.m_;rw[<-e,G.at_]at this;cases this
  exact⟨st,by rw[H.other b a5];exact G.at_,H.at_⟩
 clear Y G Q H;have b8:=bC.slen M;have B:=Va M;have b9:=bC.slen V.old_;have c':=bC.slen V.new_;refine⟨sc,.of_m Z rfl,v,.of_m d rfl,sc,v,s,c,rfl,hs,V,λs1 a6=>⟨u,s1,122,[.pointer (some ⟨b,0,none⟩),.pointer (some ⟨O,0,none⟩)],l,sJ s c,iI s c.tab,rfl,M,aC,hk,λx r _ R=>akZ Zt λK hK=>⟨x,s1,b,O,sc,v,s,c.tab,r,sJ s c,rfl,Z,d,hs,V.tab_,R,a6,hK⟩,?_⟩⟩
 have hA:lO s l c=(if((lC (iI s c.tab) l (sJ s c) !=decide (0<c.old.length))||(lC (iI s c.tab) l (sJ s c)&&cN (l.getD (mG (iI s c.tab) l (sJ s c)) []) c.old !=0))=true then none
  else some (l.take (mG (iI s c.tab) l (sJ s c))++(if 0<c.new.length then[c.new]else[])++l.drop (if lC (iI s c.tab) l (sJ s c)=true then mG (iI s c.tab) l (sJ s c)+1 else mG (iI s c.tab) l (sJ s c)))):=rfl
 have C:=aZX (iI s c.tab) l (sJ s c)
 have I:lC (iI s c.tab) l (sJ s c)=true->mG (iI s c.tab) l (sJ s c)<l.length:=λe=>by
  simp only[lC,cg,cm]at e;exact e.1
 generalize mG (iI s c.tab) l (sJ s c)=i at hA C I⊢
 generalize lC (iI s c.tab) l (sJ s c)=f at hA I⊢
 generalize lO s l c=A at hA hN hY;have ed:decide ((v.old.len:Int)>0)=decide (0<c.old.length):=decide_eq_decide.2 aC;have D:A=none->∀x,dE h K (.tup [cS x,cB false]) P h:=λe x=>dE.sub sub (.refl _) (hN e x);refine⟨λz=>z.1=O/\z.2.1=i/\z.2.2.1=f/\z.2.2.2=P/\A=some (l.take i++(if 0<c.new.length then[c.new]else[])++l.drop (if f=true then i+1 else i)),⟨v.old,.of_m d rfl,aB (λE=>⟨.of_m d rfl,.of_m d rfl,D ?_ ⟨none,0,0⟩⟩) (λE=>aB (λa2=>?_) (λa2=>⟨.of_m d rfl,.of_m d rfl,(O,i,f,P),⟨rfl,rfl,rfl,rfl,?_⟩,MT⟩))⟩,?_⟩
 .grind
 .have C:=I a2;obtain⟨x,R⟩:∃x,l[i]? =some x:=⟨_,bu C⟩
  obtain⟨b3,o3,ux,ea,rd,a7⟩:=bC.at M R;have t:l.getD i []=x:=bk
  rw[ed]at E;have E:(f !=decide (0<c.old.length))=false:=E;rw[t,E,Bool.false_or,a2,Bool.true_and]at hA;refine⟨b3,o3,ea,aC,aC,ux,.imm rd,v.old,.of_m d rfl,.of_m d rfl,ux,v.old,x,c.old,rfl,a7,V.old_,.of_m d rfl,aB (λa3=>D ?_ ⟨none,0,0⟩) (λa3=>⟨(O,i,f,P),⟨rfl,rfl,rfl,rfl,?_⟩,MT⟩)⟩
  .grind
  grind
 .grind
 rintro⟨W,g,S,m'⟩ ⟨t,F,L,e4,hS⟩;dsimp only at t F L e4;subst t F L e4;dsimp only;have tl:∀j,Dw 1 ⟨u.a,u.len,u.cap⟩ g j->Rows h j (l.drop g):=λj T=>Q8 M T C;refine⟨λz=>W=z.1/\g=z.2.1/\S=z.2.2.1/\⟨u.a,g,g⟩=z.2.2.2.1/\Rows h z.2.2.2.2.1 (l.drop g)/\m'=z.2.2.2.2.2,⟨⟨aC,aC,aC,aC,aC,B,λj T=>⟨(W,g,S,⟨u.a,g,g⟩,j,m'),⟨rfl,rfl,rfl,rfl,tl j T,rfl⟩,MT⟩⟩,aC,aC,B,λj T=>⟨aC,aC,aC,(W,g,S,⟨u.a,g,g⟩,j,m'),⟨rfl,rfl,rfl,rfl,tl j T,rfl⟩,MT⟩⟩,?_⟩;rintro⟨_,_,_,_,y,_⟩ ⟨t,F,L,e4,hy,e5⟩;dsimp only at t F L e4 hy e5;subst t F L e4 e5;dsimp only;refine⟨λz=>W=z.1/\⟨u.a,g,g⟩=z.2.1/\Rows h z.2.2.1 (l.drop (if S=true then g+1 else g))/\m'=z.2.2.2,aB (λE=>?_) (λE=>⟨(W,⟨u.a,g,g⟩,y,m'),⟨rfl,rfl,bk,rfl⟩,MT⟩),?_⟩
 .have b5:=I E;rw[jG aC];refine⟨aC,aC,B,λj T=>⟨(W,⟨u.a,g,g⟩,j,m'),⟨rfl,rfl,by rw[if_pos E];exact Q8 M T aC,rfl⟩,MT⟩⟩
 rintro⟨_,_,y2,_⟩ ⟨t,F,a',L⟩;dsimp only at t F a' L;subst t F L;dsimp only;have hd:Rows h ⟨u.a,g,g⟩ (l.take g):=U9 M C;refine⟨λz=>Rows z.2.2.2 z.1 (l.take g++(if 0<c.new.length then[c.new]else[]))/\y2=z.2.1/\m'=z.2.2.1/\PH.le h z.2.2.2,⟨v.new,.of_m d rfl,aE (λE=>⟨v.new,.of_m d rfl,v.new,c.new,rfl,V.new_,hn,λs' h' le a8=>?_⟩) (λE=>⟨(⟨u.a,g,g⟩,y2,m',h),⟨bk,rfl,rfl,.refl _⟩,MT⟩)⟩,?_⟩
 .obtain⟨X,hr,eu,fu⟩:=hd.ex;have c0:X.length=g:=bk
  refine⟨rfl,X.map eS,vN X,hr.mono le,λ_ e=>by simp at e,λ_=>⟨bk,bk,λj h2 o U=>⟨(j,y2,m',h2),⟨?_,rfl,rfl,le.trans o⟩,MT⟩⟩⟩;rw[if_pos aC];refine Q7 (vs:=[s']) U eu (λi x e=>?_) rfl (λi x e=>?_) bk
  .obtain⟨w,k1,k2⟩:=fu i x e;exact⟨w,k1,k2.mono (le.trans o)⟩
  .cases i with
   |zero=>simp at e;subst e;exact⟨s',rfl,a8.mono o⟩
   |succ i=>simp at e
 rintro⟨x,_,_,R⟩ ⟨J,t,F,le⟩;dsimp only at J t F le;subst t F;dsimp only;have c1:=bC.slen J;have c2:=Va J
 have b6:(l.take g++(if 0<c.new.length then[c.new]else[])).length<=100001:=by
  grind
 have c3:(l.drop (if S=true then g+1 else g)).length<=100000:=bk
 have fin:∀x' h',PH.le R h'->Rows h' x' (l.take g++(if 0<c.new.length then[c.new]else[])++l.drop (if S=true then g+1 else g))->dE h K (.tup [cS x',cB true]) m' h':=λx' h' a0 hr=>dE.sub sub (le.trans a0) (hY _ hS x' h' (le.trans a0) hr);generalize l.take g++(if 0<c.new.length then[c.new]else[])=a9 at*
 generalize l.drop (if S=true then g+1 else g)=b0 at*
 have a4:Rows R ⟨x.a,x.len,x.len⟩ a9:=by
  have:=U9 J (n:=x.len) aC
  grind
 have et:((x.len:Nat):Int).toNat=x.len:=rfl;rw[et];obtain⟨X,b1,eu,fu⟩:=a4.ex;obtain⟨vs,b4,ev,fv⟩:=(a'.mono le (λ_ _ e=>e.mono le)).ex;refine⟨aC,aC,aC,rfl,X.map eS,vN X,b1,vs.map eS,vN vs,.imm b4,λ_ e=>?_,λ_=>⟨bk,bk,λj h2 o U=>fin j h2 o ?_⟩⟩
 .have:b0=[]:=length_eq_zero_iff.1 (by rw[ev, <-length_map (f:=eS),e];rfl);exact fin ⟨x.a,x.len,x.len⟩ R (.refl _) bk
 .exact Q7 U eu (λi x e=>by obtain⟨w,k1,k2⟩:=fu i x e;exact⟨w,k1,k2.mono o⟩) ev (λi x e=>by obtain⟨w,k1,k2⟩:=fv i x e;exact⟨w,k1,k2.mono o⟩) aC
noncomputable def yZ(c:Int)(s:j4)(st:List cw)(cs:List tD):List cw×Int:=if wJ c s st≠0 then([],wJ c s st)else qH c s st (eD st) cs
structure bZZ(m:MH)(h:PH)(w:Sl)(us:dk)(st:List cw):Prop where
 len:w.len=us.length
 ulen:us.length=st.length
 rd:∀(i:Nat) u,us[i]? =some u->∃b o,w.a=some ⟨b,o,none⟩/\aJ m h b (o+i*1) [Sl.val u]
 rows:∀(i:Nat) u l,us[i]? =some u->st[i]? =some l->Rows h u l
def arX:Vc.Spec:=λc m h K=>∃w e d,c=[QO w]/\bZZ m h w e d/\d.length<=1000/\K (cI (eD d)) m h
def pH(h:PH)(s:Sl)(cs:List tD):Prop:=bC h 3 fO.enc (Bh h) s cs
def bxQ:Vc.Spec:=λe m h K=>∃sc c f g s d cs,e=[aS sc,cI c,QO f,cS g]/\dM h s sc/\Leaves h f d/\pH h g cs/\1<=c/\c<=3/\d.length<=1000/\
 ∀w h',PH.le h h'->Leaves h' w (yZ c s d cs).1->K (.tup [QO w,cI (yZ c s d cs).2]) m h'
noncomputable def bLQ(d:Int)(sc:bJ)(sl c:Sl):Ctx:=rT [(72,No),(73,Uz),(74,arX),(75,amQ),(76,XA)]
 [(6,{A:=Nat×Sl×MH×PH,frz:=true,st:=λ⟨i,w,m,h⟩=>bU 115 119 [(1,iv d),(3,sv c),(4,.at (.ptr 4 0)),(8,.at (.ptr 8 0)),(11,.at (.ptr 11 0)),(35,sv sl),(36,iv sl.len),(37,iv i)] [(4,.cells 29 (sc.enc.map .val)),(8,.cells 38 [.val (.slice none 0 0)]),(11,.cells 38 [.val (.slice w.a w.len w.cap)])] m h}),
  (9,{A:=Nat×Sl×Nat×Sl×MH×PH,st:=λ⟨j,u,i,w,m,h⟩=>bU 115 119 [(1,iv d),(3,sv c),(4,.at (.ptr 4 0)),(8,.at (.ptr 8 0)),(11,.at (.ptr 11 0)),(12,iv i),(35,sv sl),(36,iv sl.len),(37,iv i),(42,sv u),(43,iv u.len),(44,iv j)] [(4,.cells 29 (sc.enc.map .val)),(8,.cells 38 [.val (.slice none 0 0)]),(11,.cells 38 [.val (.slice w.a w.len w.cap)])] m h}),
  (16,{A:=Nat×Int×Sl×MH×PH,st:=λ⟨i,n,w,m,h⟩=>bU 115 119 [(1,iv d),(4,.at (.ptr 4 0)),(8,.at (.ptr 8 0)),(11,.at (.ptr 11 0)),(16,iv n),(65,sv c),(66,iv c.len),(67,iv i)] [(4,.cells 29 (sc.enc.map .val)),(8,.cells 38 [.val (.slice none 0 0)]),(11,.cells 38 [.val (.slice w.a w.len w.cap)])] m h})]
 [] [] [2036,1095,0] [] false
abbrev jO:Prop:=eQ (oQ 38 (rN BV))
abbrev gG(a b:Sl):Prop:=oQ 38 (qB a)=oQ 38 (qB b)
noncomputable abbrev pT(a:Nat×Sl×Nat×Sl×MH×PH):Nat:=a.2.2.1
noncomputable abbrev kY(a:Nat×Sl×Nat×Sl×MH×PH):Sl×MH×PH:=a.2.2.2
noncomputable abbrev rA(a:Nat×Int×Sl×MH×PH):Sl:=a.2.2.1
noncomputable abbrev uP(a:Nat×Int×Sl×MH×PH):Nat->Option Obj:=fG a.2.2
noncomputable abbrev pS(a:Nat×Int×Sl×MH×PH):Nat->Nat->Option Value:=eV a.2.2
attribute [push_cast] jO gG pT kY rA uP pS
def Pt(sc:bJ)(n:Int)(sl g:Sl)(m:MH)(h:PH)(K:dc):Prop:=
  Bi (λv s=>Ch (λT M=>∃(C:Int),aA (cE (dX sc) (fT n (pR sl))=cE (dX v) (fT C (pR T))) (dM h s v) (aA (Leaves h T M) (jV M.length) (aA (1<=C) (C<=3) (branch (wJ C s M !=0) (K (CV.tup (cO (nS iT) (wJ C s M))) m h) (J8 sl 24 (Cc (λU P=>rK m P h U 95 1 (replicate (wC sl) iT)->∃(I:Nat×Sl×MH×PH->Prop)(V:Nat×Sl×MH×PH->Nat),(zB P h->∃(x:Nat×Sl×MH×PH),aA (I x) (bL n) (aA (aH g) iC (aA dC gW (aA (aH sl) (bI sl) (aA (bE x.1) (aU sc) (aA jO (gG U x.2.1) (vX P h (fG x.2) (eV x.2)/\True)))))))/\∀(x:Nat×Sl×MH×PH),I x->aY (↑x.1:Int) (aG sl) (dN sl.a (↑x.1:Int) sl (λb o y=>aJ (fG x.2) (eV x.2) b (bB o x.1 1) (aM y)/\
 ∃(I1:Nat×Sl×Nat×Sl×MH×PH->Prop)(D:Nat×Sl×Nat×Sl×MH×PH->Nat),(∃(d:Nat×Sl×Nat×Sl×MH×PH),aA (I1 d) (bL n) (aA (aH g) iC (aA dC gW (aA (bP x.1 (pT d)) (aH sl) (aA (bI sl) (bP x.1 (pT d)) (aA (aX y d.2.1) (cD y d.2.1) (aA (bE d.1) (aU sc) (aA jO (gG x.2.1 (kY d).1) (fM (fG x.2) (kY d).2 (eV x.2))))))))))/\∀(d:Nat×Sl×Nat×Sl×MH×PH),I1 d->aY (↑d.1:Int) (aG d.2.1) (dN d.2.1.a (↑d.1:Int) d.2.1 (λQ R E=>aJ (fG (kY d)) (eV (kY d)) Q (bB R d.1 1) (aM E)/\dN (kY d).1.a (↑(pT d):Int) (kY d).1 (λA B j=>aA (aJ (fG (kY d)) (eV (kY d)) A (bB B (pT d) 1) (aM j)) (aJ (fG (kY d)) (eV (kY d))
 A (bB B (pT d) 1) (aM j)) (Bw E (eV (kY d)) (λF t=>vE (aJ (fG (kY d)) t A (bB B (pT d) 1) (aM j)) (aJ (fG (kY d)) t A (bB B (pT d) 1) (aM j)) (λf=>aI (cT (fG (kY d)) (cH j) 75 1 f) (cW (iA f 1*24)) (fN f) (∀(G:Sl)(z:MH),dV (fG (kY d)) z (cH j) G 75 1 (eK f (aM F))->bD (λH J=>aI (bF (kY d).1.a H J) (0<=(↑(pT d):Int)) ((↑(pT d):Int)<aG (kY d).1) (pK z H (bB J (pT d) 1) (aM G) (λS=>∃(e:Nat×Sl×Nat×Sl×MH×PH),aA (I1 e) (D e<D d) (aA (bL n) (aH g) (aA iC dC (aA gW (bP (pT d) (pT e)) (aA (aH sl) (bI sl) (aA (bP (pT d) (pT e)) (aX d.2.1 e.2.1) (aA
 (cD d.2.1 e.2.1) (fJ (aW d.1 1)=bY e.1) (aA (aU sc) jO (aI (gG (kY d).1 (kY e).1) (j8 S (kY e)) (fI t (kY e).2) True)))))))))))))))))) (zB (fG (kY d)) (eV (kY d))->∃(f:Nat×Sl×MH×PH),aA (I f) (V f<V x) (aA (bL n) (aH g) (aA iC dC (aA gW (aH sl) (aA (bI sl) (fJ (aW (pT d) 1)=bY f.1) (aA (aU sc) jO (aA (gG (kY d).1 f.2.1) (vX (fG (kY d)) (eV (kY d)) (fG f.2) (eV f.2)) True))))))))) (HC (λw u=>∃(F:List cw),aI (eW (pR x.2.1) (pR w)) (bZZ (fG x.2) (eV x.2) w u F) (jV F.length) (∃(I1:Nat×Int×Sl×MH×PH->Prop)(D:Nat×Int×Sl×MH×PH->Nat),(∃(d:Nat×Int×Sl×MH×PH),aA (I1 d) (bL n) (aA (eP 4)
 dC (aA gW (bV (eD F) d.2.1) (aA (aH g) (bI g) (aA (bE d.1) (aU sc) (aA jO (gG x.2.1 (rA d)) (fM (fG x.2) d.2.2.2 (eV x.2))))))))/\∀(d:Nat×Int×Sl×MH×PH),I1 d->aY (↑d.1:Int) (aG g) (bD (λb o=>aI (bF g.a b o) (0<=(↑d.1:Int)) ((↑d.1:Int)<aG g) (∃(y:fO),aJ (uP d) (pS d) b (bB o d.1 3) (jQ y)/\∃(G:bJ)(W:fO)(X:j4)(c:tD)(z:Int),aA (cE (dX sc) (fT n (nS (jQ y)))=cE (dX G) (fT z (nS (jQ W)))) (dM (pS d) X G) (aA (Bh (pS d) c W) (1<=z) (z<=3/\branch (!(AY z X c)) (K (CV.tup (cO (nS iT) 71)) (uP d) (pS d)) (dN (rA d).a y.table (rA d) (λQ R E=>aJ (uP d) (pS d) Q (eM R y.table 1) (aM E)
 /\DG (λY Z=>∃(v2:fO)(O:j4)(l:cw)(L:tD),aA (cE (dX sc) (fP E (nS (jQ y)))=cE (dX Y) (fP Z (nS (jQ v2)))) (dM (pS d) O Y) (aA (Bh (pS d) L v2) (Rows (pS d) Z l) (aA (UpK (iI O L.tab) l) (l.length<=100000) (aA (jT L.new) (lO O l L=Option.none->∀(_:Sl),K (CV.tup (cO (nS iT) 81)) (uP d) (pS d)) (∀(l1:cw),lO O l L=Option.some l1->mV (pS d) l1 (λf t=>dN (rA d).a y.table (rA d) (λA B j=>aJ (uP d) t A (eM B y.table 1) (aM j)/\iG (eE (d.2.1+eE (aG f-aG j))) 512 K (CV.tup (cO (nS iT) 2)) (uP d) t (bD (λH J=>aI (bF (rA d).a H J) (0<=y.table) (y.table<aG (rA d)) (pK (uP d)
 H (eM J y.table 1) (aM f) (λS=>∃(e:Nat×Int×Sl×MH×PH),aA (I1 e) (D e<D d) (aA (bL n) iC (aA dC gW (aA (bV (eE (d.2.1+eE (aG f-aG j))) e.2.1) (aH g) (aA (bI g) (fJ (aW d.1 1)=bY e.1) (aA (aU sc) jO (aI (gG (rA d) (rA e)) (j8 S e.2.2) (fI t e.2.2.2) True)))))))))))))))))))))))) (K (CV.tup (cO (pR (rA d)) 0)) (uP d) (pS d)))))))))))))
theorem Xd{d:Int}{c:tD}(h:AY d s c=true)(e:0<c.new.length):iI s c.tab c.new=sJ s c:=by
 simp only[AY,cg,Bool.or_eq_true,beq_iff_eq]at h;obtain⟨_,h⟩:=h;unfold sJ;split
 .rename_i f;rcases h with(h|h)|h
  .omega
  .omega
  .exact(gT.1 h).symm
 .rfl
theorem IU{D:Int}{c:tD}{l z:cw}(n:AY D s c=true)(t:UpK (iI s c.tab) l)(e:lO s l c=some z):UpK (iI s c.tab) z/\z.length<=l.length+1:=by
 have B:=Lx (key:=sJ s c) t;have E:=aZX (iI s c.tab) l (sJ s c);have F:=LJ (key:=sJ s c) t;unfold lO at e;dsimp only at e;split at e
 .cases e
 cases e
 have o:∀y∈l.drop (if lC (iI s c.tab) l (sJ s c)=true then mG (iI s c.tab) l (sJ s c)+1 else mG (iI s c.tab) l (sJ s c)),cN (sJ s c) (iI s c.tab y)<0:=by
  intro y d;have C:=kL (sJ s c) (iI s c.tab y);split at d
  .rename_i g;have f:=g;simp only[lC,cg,cm,beq_iff_eq]at f;obtain⟨f,j⟩:=f;rw[getD_eq_getElem?_getD,bu f]at j;have j:=gT.1 j;have u:List.Pairwise (λx y=>cN (iI s c.tab x) (iI s c.tab y)<0) (l.drop (mG (iI s c.tab) l (sJ s c))):=List.Pairwise.sublist (drop_sublist _ l) t;rw[drop_eq_getElem_cons f,pairwise_cons]at u
   grind
  .rename_i g;have f:=B.2 y d;rcases Int.lt_or_eq_of_le f with j|j
   .omega
   .exact(g (F.2 ⟨y,mem_of_mem_drop d,gT.1 j.symm⟩)).elim
 have u:List.Pairwise (λx y=>cN (iI s c.tab x) (iI s c.tab y)<0) l:=t;have G:List.Pairwise (λx y=>cN (iI s c.tab x) (iI s c.tab y)<0) (l.drop (if lC (iI s c.tab) l (sJ s c)=true then mG (iI s c.tab) l (sJ s c)+1 else mG (iI s c.tab) l (sJ s c))):=List.Pairwise.sublist (drop_sublist _ l) u;have H:List.Pairwise (λx y=>cN (iI s c.tab x) (iI s c.tab y)<0) (l.take (mG (iI s c.tab) l (sJ s c))):=List.Pairwise.sublist (take_sublist _ l) u;constructor
 .show List.Pairwise (λx y=>cN (iI s c.tab x) (iI s c.tab y)<0) _;rw[append_assoc,pairwise_append];refine⟨H,?_,λx I y d=>?_⟩
  .split
   .rename_i A;rw[singleton_append,pairwise_cons];exact⟨λy d=>by rw[Xd n A];grind,G⟩
   grind
  .have g:=B.1 x I;rcases mem_append.1 d with d|d
   .split at d
    .rename_i A;rw[mem_singleton.1 d,Xd n A];exact g
    .simp at d
   .exact Gz g (o y d)
 grind
theorem count_cons(l:cw)(st:List cw):eD (l::st)=(l.length:Int)+eD st:=by simp[eD]
theorem count_set:∀{st:List cw}{t:Nat}{l c:cw},st[t]? =some l->eD (st.set t c)=eD st+((c.length:Int)-(l.length:Int))
 |[],t,l,c,h=>by simp at h
 |a::st,0,l,c,h=>by
  simp at h;subst h;rw[set_cons_zero,count_cons,count_cons];omega
 |a::st,t+1,l,c,h=>by
  rw[set_cons_succ,count_cons,count_cons,count_set (br h)];omega
theorem P7:∀{st:List cw}{t:Nat}{l:cw},st[t]? =some l->(l.length:Int)<=eD st
 |[],t,l,h=>by simp at h
 |a::st,0,l,h=>by
  simp at h;subst h
  have:0<=eD st:=by
   induction st with
   |nil=>simp[eD]
   |cons b st c=>rw[count_cons];omega
  rw[count_cons];omega
 |a::st,t+1,l,h=>by
  have:=P7 (st:=st) (t:=t) (br h);rw[count_cons];omega
structure boX(s:j4)(st:List cw):Prop where
 len:st.length=s.tables.length
 up:∀(j:Nat) l,st[j]? =some l->UpK (iI s j) l
 cnt:eD st<=512
theorem QZ{g:Int}{st:List cw}(h:wJ g s st=0):dK s=0/\boX s st:=by
 unfold wJ at h;split at h
 .omega
 rename_i u;split at h
 .cases h
 rename_i z;split at h
 .cases h
 rename_i A;split at h
 .rename_i n;refine⟨aC,aC,λj l e=>?_,by unfold eD;omega⟩;have f:st.length=s.tables.length:=by omega
  have o:=(bt e);obtain⟨d,c⟩:∃d,s.tables[j]? =some d:=⟨_,bu aC⟩
  have t:=Lf.of (n j d l c e).2;show List.Pairwise (λx y=>cN (iI s j x) (iI s j y)<0) l;simp only[rG c];exact t
 .cases h
theorem boX.set{t:Int}{st:List cw}{c:tD}{l f:cw}(x:boX s st)(g:AY t s c=true)(u:0<=c.tab)(n:st[c.tab.toNat]? =some l)(e:lO s l c=some f)(z:eD st+((f.length:Int)-(l.length:Int))<=512):boX s (st.set c.tab.toNat f):=by
 have A:((c.tab.toNat:Nat):Int)=c.tab:=Int.toNat_of_nonneg u;refine⟨by rw[length_set];exact x.len,λj y d=>?_,by rw[count_set n];exact z⟩;rw[getElem?_set]at d;split at d
 .rename_i B;subst B;split at d
  .cases d;have o:=x.up _ _ n;rw[A]at o⊢
   exact(IU g o e).1
  .cases d
 .exact x.up j y d
theorem UY{g:Int}{st:List cw}(h:wJ g s st=0){j:Nat}{l:cw}(e:st[j]? =some l){r:de}(n:r∈l):r.length<=8:=by
 have o:=(QZ h).1;unfold wJ at h;rw[if_neg aC]at h;split at h
 .cases h
 split at h
 .cases h
 rename_i z;split at h
 .rename_i t;have f:st.length=s.tables.length:=by omega
  have u:=(bt e);obtain⟨d,c⟩:∃d,s.tables[j]? =some d:=⟨_,bu aC⟩
  have y:=((t j d l c e).1 r n)
  rw[(jF.1 y).1];exact BX o d (bx c)
 .cases h
theorem bnQ{n:Int}{c:tD}(o:dK s=0)(h:AY n s c=true):i7 s c.tab=true/\c.new.length<=8:=by
 simp only[AY,cg,Bool.or_eq_true,beq_iff_eq]at h;obtain⟨⟨⟨⟨f,_⟩,_⟩,d⟩,_⟩:=h;refine⟨f,?_⟩;rcases d with d|d
 .omega
 have g:=f;simp only[i7,cg,cm]at g;obtain⟨j,e⟩:∃j,s.tables[c.tab.toNat]? =some j:=⟨_,bu aC⟩
 rw[zX e f]at d;rw[(jF.1 d).1];exact BX o j (bx e)
theorem IG(m:MH)(h:PH):vX m h m h:=⟨λ_ _ e=>e,.refl _,λ_ _ _ e=>.inl e⟩
theorem AC{p:Prop}(h:p:=by repeat' (first|with_reducible rfl|exact trivial|assumption|refine⟨?_,?_⟩|rfl|(rw[jG aC];done)|(rw[jG aC]))):p:=h
theorem TZ(us:dk):(us.map eS).flatten=us.map Sl.val:=by
 induction us with
 |nil=>rfl
 |cons u us c=>rw[map_cons,flatten_cons,c];rfl
theorem Vz{w:Sl}{us:dk}(r:cT m w 95 1 (us.map eS))(u:i<us.length):∃b cs,w.a=some ⟨b,0,none⟩/\m b=some (.cells cs 95 (0,0))/\0+i*1<cs.size/\
 ∀(m':MH)(v:Sl),gR m m' b (.cells ⟨splice cs.toList (0+i*1) [Sl.val v]⟩ 95)->cT m' w 95 1 ((us.set i v).map eS):=by
 rcases r.ex with⟨_,e⟩|⟨b,d,c,rfl,j,n,o,y,f⟩
 .simp at e;grind
 rw[length_map]at n f;rw[TZ]at f;refine⟨b,c,rfl,j,aC,λm' v t=>⟨vN _,.inr ⟨b,d,_,bk,t.at_,bk,o,?_,?_⟩⟩⟩
 all_goals
  have g:splice c.toList (0+i*1) [Sl.val v]=c.toList.set i (Sl.val v):=by
   rw[set_eq_take_append_cons_drop,if_pos (by rw[Array.length_toList];omega)];simp only[splice,Nat.zero_add,Nat.mul_one,length_singleton,append_assoc];rfl
  rw[g]
 .grind
 .rw[length_map,length_set,TZ,map_set, <-f,take_set]
theorem X8:cu 74 arX:=by
 refine iB func74 ?_;rintro F m h K ⟨w,G,d,rfl,e,S,H⟩;refine⟨ahX w m h,rfl,aF,KJ w m h K,be,?_⟩;dsimp only[KJ,push_cast];have t:w.len=d.length:=e.len.trans e.ulen
 have c:∀l∈d,l.length<=502633886983:=λl I=>by
  obtain⟨j,C⟩:=mem_iff_getElem?.1 I;have y:=(bt C);have:=e.ulen;exact(e.rows j _ l (bu aC) C).len
 refine⟨λz=>z.1<=d.length/\z.2=eD (d.take z.1),λz=>d.length-z.1,⟨(0,0),⟨bf,by simp[eD]⟩,MT⟩,?_⟩;rintro⟨i,n⟩ ⟨J,g⟩;dsimp only at J g⊢
 subst g;refine aE (λA=>?_) (λL=>?_)
 .obtain⟨l,f⟩:=eO t A;have y:=(bt f);have D:=e.ulen;obtain⟨u,E⟩:∃u,G[i]? =some u:=⟨_,bu aC⟩
  obtain⟨b,o,M,rd⟩:=e.rd i u E;have O:=e.rows i u l E f;have B:=bC.slen O;have P:=AX (l:=d.take (i+1)) λx f=>c x (mem_of_mem_take f);have Q:=(AX (l:=d.take i) λx f=>c x (mem_of_mem_take f)).1;have R:=P6 f;rw[length_take]at P;refine⟨b,o,M,aC,aC,u,rd,(i+1,eD (d.take (i+1))),⟨aC,rfl⟩,aC,?_⟩;rw[dO aC aC,B, <-R];exact MT
 .rw[ca aC];exact H
structure Nq(m m1:MH)(h:PH)(w:Sl)(st:List cw)(i k:Nat)(mz:MH)(hz:PH)(us:dk):Prop where
 len:us.length=st.length
 row:cT mz w 95 1 (us.map eS)
 key:∀b,m1 b≠none->mz b≠none
 sub:Sub m mz
 le:PH.le h hz
 done:∀(j:Nat) u l,j<i->us[j]? =some u->st[j]? =some l->Rows hz u l
 rest:∀(j:Nat) u,k<=j->us[j]? =some u->u=bT
theorem Rows.mono{s:Sl}{l:cw}(x:Rows h s l)(le:PH.le h h'):Rows h' s l:=bC.mono x le λ_ _ e=>e.mono le
theorem Nq.ice{f:MH}{w:Sl}{st:List cw}{g:MH}{t:PH}{us vs:dk}{c:Sl}{l:cw}(A:Nq m f h w st i (i+1) g t us)(H:Sub m f)(I:∀b j,w.a=some ⟨b,j,none⟩->f b≠none)(d:zB g t)
 (J:us[i]? =some c)(L:kS f g c 75 1 (vs.map eS))(M:st[i]? =some l)(z:vs.length=l.length)(O:l.length<=100000)(B:∀(k:Nat) r,l[k]? =some r->∃v,vs[k]? =some v/\bO t v r):Nq m f h w st (i+1) (i+1) (mK f g) (tC f g t) us:=by
 have C:∀b,f b≠none->mK f g b=g b:=λb D=>by
  unfold mK
  grind
 have n:=yU (m0:=f) d;refine⟨A.len,cT.keep A.row λb j e=>C b (I b j e),λb D=>by rw[C b D];exact A.key b D,λb o e=>by rw[C b (by rw[H b o e];simp)];exact A.sub b o e,A.le.trans n,λj u y S E F=>?_,A.rest⟩;by_cases G:j=i
 .subst G;rw[J]at E;cases E;rw[M]at F;cases F;exact⟨⟨vs,kS.ice L,z.symm,λk r P=>by obtain⟨v,Q,R⟩:=B k r P;exact⟨v,Q,R.mono n⟩⟩,aC⟩
 .exact(A.done j u y aC E F).mono n
theorem Nq.step{d:MH}{w:Sl}{st:List cw}{y m2 B:MH}{I:PH}{us:dk}{c t:Sl}{cs:Array Value}{J:List cv}(A:Nq m d h w st i (i+1) y I us)(M:Sub m d)(P:∀b j,w.a=some ⟨b,j,none⟩->d b≠none/\m b=none)(le:PH.le I h')
 (L:kS d y c 75 1 xs)(g:dV y m2 c t 75 1 J)(Q:i<us.length)(R:w.a=some ⟨b,0,none⟩)(C:gR m2 B b (.cells ⟨splice cs.toList (0+i*1) [Sl.val t]⟩ 95))(put:cT B w 95 1 ((us.set i t).map eS)):Nq m d h w st i (i+1) B h' (us.set i t)/\kS d B t 75 1 J:=by
 have D:∀x j,t.a=some ⟨x,j,none⟩->d x=none:=λx j e=>by
  rcases g.fresh x j e with E|⟨k,E⟩
  .cases f:d x with
   |none=>rfl
   |some o=>exact absurd E (A.key x (by rw[f];simp))
  .exact L.fresh x k E
 have n:∀x o,d x≠none->y x=some o->m2 x=some o:=λx o F e=>g.other x o e λj f=>F (L.fresh x j f);refine⟨⟨by rw[length_set];exact A.len,put,λx F=>?_,λx o e=>?_,A.le.trans le,λj u l G z O=>?_,λj u G z=>?_⟩,cT.keep g.row λx j e=>C.other x λf=>?_,D⟩
 .by_cases e:x=b
  .subst e;rw[C.at_];simp
  .rw[C.other x e];cases f:y x with
   |none=>exact absurd f (A.key x F)
   |some o=>grind
 .have H:x≠b:=λf=>bk
  rw[C.other x H];exact n x o (by rw[M x o e];simp) (A.sub x o e)
 .rw[getElem?_set_ne aC]at z;exact(A.done j u l G z O).mono le
 .rw[getElem?_set_ne aC]at z;exact A.rest j u G z
 grind
structure cnX(m:MH)(h:PH)(s:j4)(w:Sl)(n:Nat)(mz:MH)(hz:PH)(us:dk)(st:List cw):Prop where
 len:us.length=st.length
 wlen:w.len=us.length
 row:cT mz w 95 1 (us.map eS)
 sub:Sub m mz
 le:PH.le h hz
 rows:∀(j:Nat) u l,us[j]? =some u->st[j]? =some l->Rows hz u l
 up:boX s st
theorem dE.ice{r:CV}(sub:Sub m m')(le:PH.le h h')(f:zB m' h'->PH.le h (tC m m' h')->K r m (tC m m' h')):dE h K r m' h':=λg=>by
 have d:zB m' h':=⟨g⟩
 have c:=le.trans (yU (m0:=m) d);refine⟨m,tC m m' h',sub,c,λb i v e=>?_,f d c⟩;unfold tC at e
 grind
theorem aIJ:cu 40 bxQ:=by
 refine X7 func40 ?_;rintro f9 m h K ⟨sc,I,sl,ch,s,t,cs,rfl,hs,L,hc,h1,h3,hn,hK⟩;refine⟨bLQ I sc sl ch,rfl,aD X9 (aD Ru (aD X8 (aD aGZ (aD aGX aF)))),Pt sc I sl ch m h (dE h K),be,?_⟩;show Pt sc I sl ch m h (dE h K);dsimp only[Pt,push_cast];have c4:=bC.slen L;have c5:=bC.slen hc;have f4:∀W,Leaves W bT []:=λW=>bC.nil W 1 eS _
 have err:∀e mz hz,Sub m mz->PH.le h hz->yZ I s t cs=([],e)->dE h K (.tup [QO bT,cI e]) mz hz:=λe mz hz sub le he=>by
  have:=hK bT hz le bk;rw[he]at this;exact dE.sub sub le this
 refine⟨sc,s,sl,t,I,rfl,hs,L,hn,h1,h3,aB (λe0=>?_) (λe0=>?_)⟩
 .exact err _ m h (Sub.refl m) (.refl _) (by unfold yZ;grind)
 have e0:wJ I s t=0:=bk
 obtain⟨c6,a8⟩:=QZ e0;have hE:yZ I s t cs=qH I s t (eD t) cs:=by unfold yZ;grind
 refine⟨aC,aC,aC,aC,λw M F=>?_⟩;have hw:∀b j,w.a=some ⟨b,j,none⟩->M b≠none/\m b=none:=λb j e=>⟨by obtain⟨c7,X⟩:=cT.blk F.row e;rw[X];simp,(F.fresh b j e).m_⟩
 have s1:Sub m M:=λb o e=>by
  rw[F.other b λj X=>?_];exact e
  grind
 have g':w.len=t.length:=by rw[cT.slen F.row,length_replicate];omega
 have c8:cT M w 95 1 ((replicate t.length bT).map eS):=by
  have:=F.row;rw[show((sl.len:Nat):Int).toNat=t.length by omega]at this;rw[map_replicate];exact this
 refine⟨λz=>w=z.2.1/\z.1<=t.length/\∃G,Nq m M h w t z.1 z.1 z.2.2.1 z.2.2.2 G,λz=>t.length-z.1,λ_=>⟨(0,w,M,h),⟨rfl,Nat.zero_le _,replicate t.length bT,bf,c8,λb e=>e,s1,.refl _,λj u l hj=>by omega,λj u _ hu=>?_⟩,?_⟩,?_⟩
 .grind
 .have:=IG M h;exact AC
 rintro⟨i,_,mz,hz⟩ ⟨rfl,hi,G,A⟩;dsimp only at hi A⊢
 refine aE (λO=>?_) (λc9=>?_)
 .obtain⟨l,P⟩:=eO c4 O;have g0:=(bt P);obtain⟨b,o,y,ea,rd,hy⟩:=bC.at L P;have d':=bC.slen hy;have Q:=A.len;obtain⟨c0,a9⟩:∃c,G[i]? =some c:=⟨_,bu aC⟩
  obtain rfl:=A.rest i c0 (Nat.le_refl _) a9;have g1:l.length<=512:=by have h4:=P7 P;have h5:=a8.cnt;omega
  refine⟨b,o,ea,aC,O,y,.imm (rd.mono A.le),λz=>y=z.2.1/\i=z.2.2.1/\w=z.2.2.2.1/\z.1<=l.length/\∃G c vs,Nq m M h w t i (i+1) z.2.2.2.2.1 z.2.2.2.2.2 G/\G[i]? =some c/\kS M z.2.2.2.2.1 c 75 1 (vs.map eS)/\vs.length=z.1/\∀(k:Nat) r,(l.take z.1)[k]? =some r->∃v,vs[k]? =some v/\bO z.2.2.2.2.2 v r,λz=>l.length-z.1,⟨(0,y,i,w,mz,hz),⟨rfl,rfl,rfl,Nat.zero_le _,G,bT,[],⟨A.len,A.row,A.key,A.sub,A.le,A.done,λj u hj hu=>A.rest j u aC hu⟩,a9,kS.nil M mz 75 1,rfl,λk r e=>by simp at e⟩,MT⟩,?_⟩;rintro⟨j,_,_,_,S,W⟩ ⟨rfl,rfl,rfl,hj,a4,c,vs,B,b',fc,a5,Y⟩;dsimp only at hj B b' fc a5 Y⊢
  refine aE (λa0=>?_) (λf5 D=>?_)
  .obtain⟨r,hr⟩:=eO d' a0;have a6:=(bt hr);obtain⟨b2,o2,x,X,d0,d1⟩:=bC.at hy hr;have g2:=UY e0 P (bx hr);have d2:=B.len
   have T:∀U,∃H,w.a=some ⟨H,0,none⟩/\aJ S U H (0+((i:Int)).toNat*1) [Sl.val c]:=λU=>by
    obtain⟨H,Z,E⟩:=B.row.rd (h:=U) (i:=i) (e:=eS c) bk;exact⟨H,Z,by rw[Nat.zero_add];exact E⟩
   obtain⟨H,Z,E⟩:=T W
   have V:∀U,aJ S U H (0+((i:Int)).toNat*1) [Sl.val c]:=λU=>by
    obtain⟨b4,e4,V⟩:=T U
    grind
   refine⟨b2,o2,X,aC,a0,x,.imm (d0.mono B.le),H,0,Z,aC,aC,c,E,E,x,r,rfl,d1.mono B.le,aC,λs' h' le d3=>⟨V h',V h',vs.map eS,fc.row,bk,bk,λc' m2 g=>?_⟩⟩
   have a7:cT m2 w 95 1 (a4.map eS):=cT.keep B.row λb5 k e5=>by
    obtain⟨c7,e6⟩:=cT.blk B.row e5;rw[e6];exact g.other b5 _ e6 λk2 e7=>(hw b5 k e5).1 (fc.fresh b5 k2 e7)
   obtain⟨b4,d4,e4,d5,a',put⟩:=Vz a7 (i:=i) aC;refine⟨b4,0,e4,aC,aC,d4,95,⟨d5⟩,a',λm3 up=>?_⟩;obtain⟨B',d6⟩:=B.step s1 hw le fc g aC e4 up (put m3 c' up);refine⟨(j+1,y,i,w,m3,h'),⟨rfl,rfl,rfl,aC,a4.set i c',c',vs++[s'],B',bk,by rw[cd];exact d6,bk,?_⟩,aC,MT⟩;exact Lv (R:=λr v=>bO W v r) (R':=λr v=>bO h' v r) hj a5 hr Y (λ_ _ e=>e.mono le) d3
  .have a6:j=l.length:=by omega
   subst a6;rw[take_length]at Y;have C:=B.ice s1 (λb j e=>(hw b j e).1) D b' fc P a5 aC Y;have fz:=LH (m0:=M) D;exact⟨(i+1,w,mK M S,tC M S W),⟨rfl,aC,a4,C⟩,aC,AC⟩
 .have b0:i=t.length:=by omega
  subst b0;have Q:=A.len;refine⟨w,G,t,rfl,⟨aC,A.len,λj u hu=>?_,λj u l hu L=>A.done j u l (bt L) hu L⟩,hn,?_⟩
  .obtain⟨H,Z,E⟩:=A.row.rd (h:=hz) (i:=j) (e:=eS u) bk;exact⟨H,0,Z,by rw[Nat.zero_add];exact E⟩
  refine⟨λz=>w=z.2.2.1/\z.1<=cs.length/\∃G f,cnX m h s w t.length z.2.2.2.1 z.2.2.2.2 G f/\z.2.1=eD f/\qH I s f (eD f) (cs.drop z.1)=qH I s t (eD t) cs,λz=>cs.length-z.1,⟨(0,eD t,w,mz,hz),⟨rfl,Nat.zero_le _,G,t,⟨A.len,aC,A.row,A.sub,A.le,λj u l hu L=>A.done j u l (bt L) hu L,a8⟩,rfl,bk⟩,MT⟩,?_⟩;clear A Q G hi;rintro⟨k,n,_,S,hy⟩ ⟨rfl,hk,G,f,A,rfl,hF⟩;dsimp only at hk A hF⊢
  have Q:=A.len;have d7:=A.wlen;have d8:=A.up.len;have f6:=A.up.cnt;have f7:=hc.len;refine aE (λO=>?_) (λc9=>?_)
  .obtain⟨c,b1⟩:=eO c5 O;obtain⟨b,o,v,ea,rd,hv⟩:=bC.at hc b1;have b7:=hv.mono A.le;rw[drop_cons b1]at hF;refine⟨b,o,ea,aC,O,v,.imm (rd.mono A.le),sc,v,s,c,I,rfl,hs.mono A.le,b7,h1,h3,aB (λe1=>?_) (λe1=>?_)⟩
   .have e1:AY I s c=false:=bk
    refine err 71 S hy A.sub A.le ?_;rw[hE, <-hF,qH,if_pos e1]
   have e1:AY I s c=true:=bk
   obtain⟨ht,d9⟩:=bnQ c6 e1;simp only[i7,cg,cm]at ht;have a1:v.table=c.tab:=hv.tab_;obtain⟨l,J⟩:∃l,f[c.tab.toNat]? =some l:=⟨_,bu aC⟩
   obtain⟨u,e'⟩:∃u,G[c.tab.toNat]? =some u:=⟨_,bu aC⟩
   have b8:=A.rows _ u l e' J;have f8:=P7 J;have e9:f.getD c.tab.toNat []=l:=bk
   rw[qH,if_neg bk,e9]at hF
   have a2:UpK (iI s c.tab) l:=by
    have:=A.up.up _ _ J
    grind
   have T:∀U,∃H,w.a=some ⟨H,0,none⟩/\aJ S U H (0+v.table.toNat*1) [Sl.val u]:=λU=>by
    obtain⟨H,Z,E⟩:=A.row.rd (h:=U) (i:=c.tab.toNat) (e:=eS u) bk;exact⟨H,Z,by rw[Nat.zero_add,a1];exact E⟩
   obtain⟨H,Z,E⟩:=T hy;refine⟨H,0,Z,aC,aC,u,E,sc,u,v,s,l,c,rfl,hs.mono A.le,b7,b8,a2,aC,aC,λX _=>?_,λl' X x h' le W=>?_⟩
   .refine err 81 S hy A.sub A.le ?_
    grind
   rw[X]at hF;dsimp only at hF;obtain⟨b4,e4,V⟩:=T h';have g3:=bC.slen W;have g4:=bC.slen b8;have g5:=(IU e1 a2 X).2
   have b9:IntKind.i64.wrap (eD f+IntKind.i64.wrap ((x.len:Int)-(u.len:Int)))=eD f+((l'.length:Int)-(l.length:Int)):=by
    rw[dO (n:=(x.len:Int)-(u.len:Int)) aC aC,dO aC aC];omega
   refine⟨b4,0,e4,aC,aC,u,V,?_⟩;refine aE (λe5=>?_) (λe5=>?_)
   .rw[b9]at e5;refine err 2 S h' A.sub (A.le.trans le) ?_
    grind
   rw[b9]at e5⊢
   rw[if_neg aC]at hF;obtain⟨b5,f',e6,f0,a',put⟩:=Vz A.row (i:=c.tab.toNat) aC;rw[<-a1]at a' put;refine⟨b5,0,e6,aC,aC,f',95,⟨f0⟩,a',λm3 up=>?_⟩;have c1:=A.up.set e1 ht.1 J X aC;refine⟨(k+1,eD f+((l'.length:Int)-(l.length:Int)),w,m3,h'),⟨rfl,aC,G.set c.tab.toNat x,f.set c.tab.toNat l',⟨bk,bk,?_,λb6 o6 e7=>?_,A.le.trans le,λj u2 y2 c2 c3=>?_,c1⟩,(count_set J).symm,by rw[count_set J];exact hF⟩,aC,MT⟩
   .have:=put m3 x up
    grind
   .have:b6≠b5:=λe8=>bk
    show m3 b6=some o6;rw[up.other b6 this];exact A.sub b6 o6 e7
   .by_cases hj:c.tab.toNat=j
    .grind
    .rw[getElem?_set_ne hj]at c2 c3;exact(A.rows j u2 y2 c2 c3).mono le
  .have f1:k=cs.length:=by omega
   subst f1;rw[drop_length,qH]at hF;have a3:yZ I s t cs=(f,0):=bk
   refine dE.ice A.sub A.le λd f2=>?_;have f3:=yU (m0:=m) d;have fr:kS m S w 95 1 (G.map eS):=⟨A.row,λb j e=>(hw b j e).2⟩
   have:=hK w (tC m S hy) f2 (by rw[a3];exact⟨⟨G,kS.ice fr,A.len.symm,λj l L=>by
    have a6:j<f.length:=(bt L);exact⟨_,bu aC,(A.rows j _ l (bu aC) L).mono f3⟩⟩,bk⟩)
   rw[a3]at this;exact this
end Go.Ps
