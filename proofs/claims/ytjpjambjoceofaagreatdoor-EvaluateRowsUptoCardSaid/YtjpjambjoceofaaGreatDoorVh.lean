/- Own work. -/
import Derived.Test.YtjpjambjoceofaaGreatDoorVg
set_option linter.unusedVariables false
set_option linter.unusedSimpArgs false
namespace Go.Ps
open Go Go.Vc Go.Proofs List Tryz
variable{K:dk}{m:MH}{h:PH}{s:oL}{ps:dm}{ts:List Step}{cb:Nat}{sc:bW}{v:QV}{q:Query}{t:Step}{p:Pred}{l:dm}{i:Nat}{N:Nat}{m':MH}{h':PH}{co:dm}{gr:dm}{od:dr}{w:Pred}{ta:Int}{li:Int}{xs:List dj}{sz:Nat}{ks:List dm}{rs:dm}{r:Sl}{a:dm}{b:Nat}
structure An(m:MH)(tb:Nat)(ws:List cR):Prop where
 ex:∃cur:Array Value,m tb=some (.cells cur 87 (0,0))/\cur.toList.take (ws.length*5)=(ws.map cR.enc).flatten
def ZS:Vc.Spec:=λd m h K=>∃e g n f j w c,∃t:Nat,d=[aS ⟨e,⟨some ⟨g,0,none⟩,n,f⟩⟩,cI t]/\t<n/\An m g j/\j[t]? =some w/\EK h w.columns c/\c.length<=8/\
 ∀o h',PH.le h h'->Ints h' o (c.map pF.kind)->K (cS o) m h'
noncomputable def brZ(cb:Nat):Ctx:=
 vM [(12,C2),(13,G8),(92,Z0),(46,ZS),(44,Ep)] [] [(5,{A:=Int×Int×MH×PH,st:=λ⟨n,id,m,h⟩=>bK 86 87 [(0,pv cb),(2,.at (.ptr 2 0)),(3,iv n),(4,iv id)] [(2,.cells 43 [.val (.int .i64 0),.val (.slice none 0 0)])] m h}),
  (9,{A:=Int×bW×MH×PH,st:=λ⟨n,s,m,h⟩=>bK 86 87 [(0,pv cb),(2,.at (.ptr 2 0)),(3,iv n),(5,.at (.ptr 5 0))] [(2,.cells 43 [.val (.int .i64 0),.val (.slice none 0 0)]),(5,.cells 43 (s.enc.map .val))] m h}),
  (11,{A:=Int×bW×MH×PH,st:=λ⟨n,s,m,h⟩=>bK 86 87 [(0,pv cb),(2,.at (.ptr 2 0)),(3,iv n),(5,.at (.ptr 5 0))] [(2,.cells 43 [.val (.int .i64 0),.val (.slice none 0 0)]),(5,.cells 43 (s.enc.map .val))] m h}),
  (13,{A:=bW×MH×PH,st:=λ⟨s,m,h⟩=>bK 86 87 [(0,pv cb),(2,.at (.ptr 2 0)),(5,.at (.ptr 5 0))] [(2,.cells 43 [.val (.int .i64 0),.val (.slice none 0 0)]),(5,.cells 43 (s.enc.map .val))] m h}),
  (15,{A:=bW×MH×PH,st:=λ⟨s,m,h⟩=>bK 86 87 [(2,.at (.ptr 2 0)),(5,.at (.ptr 5 0))] [(2,.cells 43 [.val (.int .i64 0),.val (.slice none 0 0)]),(5,.cells 43 (s.enc.map .val))] m h})] [] [41] [] false
def sL(id:Int):List zN:=
 [⟨⟨⟨[112,114,111,106,101,99,116,115]⟩⟩,[⟨⟨⟨[105,100]⟩⟩,4⟩,⟨⟨⟨[111,119,110,101,114]⟩⟩,4⟩],1,[],[]⟩,
  ⟨⟨⟨[116,97,115,107,115]⟩⟩,[⟨⟨⟨[105,100]⟩⟩,id⟩,⟨⟨⟨[112,114,111,106,101,99,116]⟩⟩,4⟩,⟨⟨⟨[116,105,116,108,101]⟩⟩,5⟩,⟨⟨⟨[100,111,110,101]⟩⟩,3⟩],1,[],[]⟩,
  ⟨⟨⟨[109,101,109,98,101,114,115]⟩⟩,[⟨⟨⟨[112,114,111,106,101,99,116]⟩⟩,4⟩,⟨⟨⟨[112,101,114,115,111,110]⟩⟩,4⟩],2,[],[]⟩,
  ⟨⟨⟨[97,114,99,104,105,118,101,100]⟩⟩,[⟨⟨⟨[116,97,115,107]⟩⟩,id⟩],1,[],[]⟩]
structure M5(h:PH)(t:zN)(w:cR):Prop where
 name_:w.name=t.name
 key_:w.key=t.key
 cols_:EK h w.columns t.columns
def Yz(h:PH)(id:Int)(ws:List cR):Prop:=ws.length=4/\∀(i:Nat) t,(sL id)[i]? =some t->∃w,ws[i]? =some w/\M5 h t w
structure Cm(m0:MH)(h0:PH)(cb:Nat)(tb n:Nat)(id:Int)(ws:List cR)(s:bW)(m:MH)(h:PH):Prop where
 le_:PH.le h0 h
 ver0:0<=s.version
 ver1:s.version<=2
 case_:aI m h cb
 n2:2<=n
 n4:n<=4
 sl_:∃cap,s.tables=⟨some ⟨tb,0,none⟩,n,cap⟩/\n<=cap
 id_:id=4\/id=5
 new_:m0 tb=none
 ne_:tb≠cb
 row_:An m tb ws
 ws_:Yz h id ws
 other_:∀b,b≠cb->b≠tb->m b=m0 b
def ZF:Vc.Spec:=λc m h K=>∃cb,c=[cP cb]/\aI m h cb/\∀d n id e s m' h',Cm m h cb d n id e s m' h'->K (aS s) m' h'
noncomputable def bOZ:Ctx:=
 vM [(39,ZF)] [(3,{A:=Nat×bW×MH×PH,st:=λ⟨i,s,m,h⟩=>bK 25 26 [(2,.at (.ptr 2 0)),(3,.at (.ptr 3 0)),(9,iv s.tables.len),(10,iv i)] [(2,.cells 43 [.val (.int .i64 0),.val (.slice none 0 0)]),(3,.cells 43 (s.enc.map .val))] m h})] [] [] [41] [] false
def Ks(v:bW)(t:Int)(m:MH)(h:PH)(K:dk):Prop:=
  aR t 0 (K nK m h) (fY t (iV v) (K nK m h) (Ms v t m h (λo=>o) (λy I x=>aA (I x) (eL 32) (aA (bF y (mT x)) (dA y (mT x)) (aA (aY x.1) (uA x.2.2) (aA (m=m) (h=h) True)))) (λI d x=>Mr (I x) x 0 (λb o y=>aK m h b (bC o x.1 2) (kR (Cu y) (fB y.kind))) (λy c=>aA (I c) (d c<d x) (aA (eL 32) (bF (mT x) (mT c)) (aA (dA (mT x) (mT c)) (aU (aW x.1 1) c.1) (aA (v8 (fH x.2.2) y.kind c.2.2) (m=m) (bH h h))))) (oB h (fH x.2.2) K m))))
theorem bqX(v:bW)(t:Int)(m:MH)(h:PH)(K:dk):Ks v t m h K=(Bx (SO m h) Tryz.f46 (cL Tryz.f46) (entry Tryz.f46.ntmps [aS v,cI t] m h) K):=bu
abbrev wR:Prop:=eQ (oQ 43 (mO pX LV))
abbrev AL(a:dw)(b:Int)(c:ByteArray)(d:Int)(e:ByteArray->Int->Prop):Prop:=bA (zZ a) b=bA (qV c) d/\∃(x:ByteArray)(f:Int),e x f
noncomputable abbrev Mx:dw:=cQ 105 (cQ 100 [])
noncomputable abbrev z6(a:ByteArray)(b:Int):dj:=kR (Value.string a) (fB b)
noncomputable abbrev kL(a:bW×MH×PH):Nat->Nat->Option Value:=a.2.2
abbrev F6(a:Int×bW×MH×PH->Prop)(b:Nat)(c:Int)(d:(Int×bW×MH×PH)->Prop)(e:Nat->Option Obj)(g:Nat->Nat->Option Value):Prop:=∃(x:Int×bW×MH×PH),aA (a x) (dN b) (aA dX (dQ c x.1) (aA dC wR (aA (d x) (cW e x.2.2) (bH g (kL x.2)))))
noncomputable abbrev qS(a:Int×bW×MH×PH):bW:=a.2.1
abbrev lS(a b:bW):Prop:=oQ 43 (mO (Io a) (Im a))=oQ 43 (mO (Io b) (Im b))
attribute [push_cast] wR AL Mx z6 kL F6 qS lS
def U1(cb:Nat)(m:MH)(h:PH)(K:dk):Prop:=
  fS cb 3 m h (λk R=>∃(I:Int×Int×MH×PH->Prop),lT cb 5 R h (λc r=>∀(G:MH),aT (aL R G c) (aI G h c) (branch r (∃(x:Int×Int×MH×PH),aA (I x) (dN cb) (aA dX (dQ (iJ (2+k)) x.1) (aA (dQ 5 x.2.1) wR (aA (cW G x.2.2) (h=x.2.2.2) True)))) (∃(x:Int×Int×MH×PH),aA (I x) (dN cb) (aA dX (dQ (iJ (2+k)) x.1) (aA (dQ 4 x.2.1) wR (aA (cW G x.2.2) (h=x.2.2.2) True))))))/\∀(x:Int×Int×MH×PH),I x->fS cb 3 x.2.2.1 x.2.2.2 (λS G=>∃(n:ByteArray)(T:Int),AL Mx 4 n T (λU V=>AL (cQ 111 (cQ 119 (cQ 110 (cQ 101 (rV 114))))) 4 U V (λW X=>AL Mx x.2.1 W X (λY Z=>AL (cQ 112 (cQ 114 (cQ 111 (cQ 106 (cQ 101 (cQ 99 (rV 116))))))) 4 Y Z (fun
 n4 k6=>AL (cQ 116 (cQ 105 (cQ 116 (cQ 108 (rV 101))))) 5 n4 k6 (λn5 k7=>AL (cQ 100 (cQ 111 (cQ 110 (cQ 101 [])))) 3 n5 k7 (λn6 k8=>AL (cQ 112 (cQ 114 (cQ 111 (cQ 106 (cQ 101 (cQ 99 (rV 116))))))) 4 n6 k8 (λn7 k9=>AL (cQ 112 (cQ 101 (cQ 114 (cQ 115 (cQ 111 (cQ 110 [])))))) 4 n7 k9 (λn8 a=>bA (zZ (cQ 116 (cQ 97 (cQ 115 (cQ 107 []))))) x.2.1=bA (qV n8) a/\bU x.2.2.2 2 (z6 n T::iF (z6 U V)) (λs h1=>bU h1 2 (z6 W X::z6 Y Z::z6 n4 k6::iF (z6 n5 k7)) (λs1 h2=>bU h2 2 (z6 n6 k8::iF (z6 n7 k9)) (λs2 h3=>bU h3 2 (iF (z6 n8 a)) (λs3 H=>fX (λF L=>qJ G L H F 87 5 (a8 (Value.string (ByteArray.mk (Array.mk (cQ 112
 (cQ 114 (cQ 111 (cQ 106 (cQ 101 (cQ 99 (cQ 116 (cQ 115 []))))))))))) (fF s) (a8 (fB 1) sJ iA)::a8 (Value.string (ByteArray.mk (Array.mk (cQ 116 (cQ 97 (cQ 115 (cQ 107 (rV 115)))))))) (fF s1) (a8 (fB 1) sJ iA)::a8 (Value.string (ByteArray.mk (Array.mk (cQ 109 (cQ 101 (cQ 109 (cQ 98 (cQ 101 (cQ 114 (rV 115)))))))))) (fF s2) (a8 (fB 2) sJ iA)::iF (a8 (Value.string (ByteArray.mk (Array.mk (cQ 97 (cQ 114 (cQ 99 (cQ 104 (cQ 105 (cQ 118 (cQ 101 (cQ 100 []))))))))))) (fF s3) (a8 (fB 1) sJ iA)))->aA (cC x.1) (AR x.1 F) (∃(I1:Int×bW×MH×PH->Prop),lT cb 2 L H (λc r=>∀(f:MH),aT (aL L f c) (aI f H c) (branch r (bU H 1 (iF (cO 1)) (λC A=>bT (λb o=>aA (bX
 F.a b o) ((0:Int)<=1) (1<(↑x.1.toNat:Int)/\bU A 2 (iF (kR (fF C) eH)) (λD B=>gE (λy E=>aA (sK f b (fC y E 0)) (fE (o+5+3) y) (∀(z:MH),bL f z b (nR y (o+5+3) (aM D)) E->F6 I1 cb x.1 (λg=>oQ 43 (mO (iG S) (At.val (Value.slice F.a x.1.toNat F.cap)))=oQ 43 (mO (Io (qS g)) (Im (qS g)))) z B))))))) (F6 I1 cb x.1 (λg=>oQ 43 (mO (iG S) (At.val (Value.slice F.a x.1.toNat F.cap)))=oQ 43 (mO (Io (qS g)) (Im (qS g)))) f H)))/\∀(g:Int×bW×MH×PH),I1 g->∃(I2:Int×bW×MH×PH->Prop),eR g.1 2 (lT cb 3 g.2.2.1 (kL g.2) (λc r=>∀(f:MH),aT (aL g.2.2.1 f c) (aI f (kL g.2) c) (branch r (bU (kL g.2) 1 (iF (nT eH)) (λC A=>bT (λb o=>aA (bX
 (lN (qS g)) b o) ((0:Int)<=2) (2<aH (qS g).tables/\bU A 2 (iF (kR (fF C) eH)) (λD B=>gE (λy E=>aA (sK f b (fC y E 0)) (fE (o+10+3) y) (∀(z:MH),bL f z b (nR y (o+10+3) (aM D)) E->F6 I2 cb g.1 (λj=>lS (qS g) (qS j)) z B))))))) (F6 I2 cb g.1 (λj=>lS (qS g) (qS j)) f (kL g.2))))) (F6 I2 cb g.1 (λj=>lS (qS g) (qS j)) g.2.2.1 (kL g.2))/\∀(j:Int×bW×MH×PH),I2 j->∃(I3:bW×MH×PH->Prop),eR j.1 3 (lT cb 3 j.2.2.1 (kL j.2) (λc r=>∀(f:MH),aT (aL j.2.2.1 f c) (aI f (kL j.2) c) (branch r (bU (kL j.2) 1 (iF (nT eH)) (λC A=>bT (λb o=>aA (bX (lN (qS j)) b o) ((0:Int)<=3) (3<aH (qS
 j).tables/\bU A 2 (iF (kR (fF C) (fB 1))) (λD B=>gE (λy E=>aA (sK f b (fC y E 0)) (fE (o+15+3) y) (∀(z:MH),bL f z b (nR y (o+15+3) (aM D)) E->∃(e:bW×MH×PH),aA (I3 e) (dN cb) (aA dX dC (aA wR (lS (qS j) e.1) (aA (cW z e.2) (B=kL e) True)))))))))) (∃(e:bW×MH×PH),aA (I3 e) (dN cb) (aA dX dC (aA wR (lS (qS j) e.1) (aA (cW f e.2) (kL j.2=kL e) True))))))) (∃(e:bW×MH×PH),aA (I3 e) (dN cb) (aA dX dC (aA wR (lS (qS j) e.1) (aA (cW j.2.2.1 e.2) (kL j.2=kL e) True))))/\∀(e:bW×MH×PH),I3 e->∃(I4:bW×MH×PH->Prop),lT cb 3 e.2.1 (kL e) (λc r=>∀(f:MH),aT (aL e.2.1 f c) (aI f (kL
 e) c) (branch r (∃(v:Int),bT (λt n9=>∃(y:Nat)(w:List cR)(w1:cR)(M:List pF)(O:Nat),aA (bA (cV e.1) 1=mF (pN (kR (fB v) (Value.slice (wI t) n9 y))) O) (O<n9) (aA (An f t w) (w[O]? =Option.some w1) (aA (EK (kL e) w1.columns M) (M.length<=8) (jT (λC A=>dD (kL e) A (Ints A C (List.map pF.kind M)) (∃(J:Nat),AV (λD t2 P p d=>aA (bY cb::fD C::bA nK 1=bY J::fD D::bA (fD t2) (↑d:Int)) (aI f A J) (aA (Ints A D P) (Ints A t2 p) (aA (iC P) (iC p) (nV d/\Dq (λv1 p1=>gU (λz B=>dD A B (eA B p1 v1) (aT (Ap P p d p1) (aL f z J) (j5 z B J (bT (λb o=>aA (bX (lN e.1) b o) ((0:Int)<=1) (1<aH e.1.tables/\bU B 13 (iF v1.enc) (λs7
 h7=>gE (λQ E=>aA (sK z b (fC Q E 0)) (fE (o+5+4) Q) (∀(m6:MH),bL z m6 b (nR Q (o+5+4) (aM s7)) E->∃(u:bW×MH×PH),aA (I4 u) dX (aA dC wR (bG (lS e.1 u.1) (cW m6 u.2) (h7=kL u)))))))))))))))))))))))) (∃(u:bW×MH×PH),aA (I4 u) dX (aA dC wR (bG (lS e.1 u.1) (cW f u.2) (kL e=kL u))))))/\∀(u:bW×MH×PH),I4 u->K (cV u.1) u.2.1 (kL u)))))))))))))))))
noncomputable abbrev DT(a:Nat×bW×MH×PH):Sl:=a.2.1.tables
attribute [push_cast] DT
def SN(cb:Nat)(m:MH)(h:PH)(K:dk):Prop:=
  ∃(c:Nat),aA (iY (bY cb) (bY c)) (aI m h c) (∀(t n:Nat)(i:Int)(w:List cR)(s:bW),gU (λy z=>Cm m h c t n i w s y z->∃(I:Nat×bW×MH×PH->Prop)(A:Nat×bW×MH×PH->Nat),(∃(x:Nat×bW×MH×PH),aA (I x) dX (aA cA (dA s.tables (DT x)) (aA (aY x.1) wR (aA (lS s x.2.1) (cW y x.2.2) (bH z (kL x.2))))))/\∀(x:Nat×bW×MH×PH),I x->aR (↑x.1:Int) (aH (DT x)) (bT (λb o=>aA (bX (lN x.2.1) b o) (0<=(↑x.1:Int)) ((↑x.1:Int)<aH (DT x)/\gE (λe E=>aA (sK x.2.2.1 b (fC e E 0)) (fE (bC o x.1 5+3) e) (∀(f:MH),bL x.2.2.1 f b (nR e (bC o x.1 5+3) iA) E->bT (λg j=>aA (bX (lN x.2.1) g j) (0<=(↑x.1:Int)) ((↑x.1:Int)<aH (DT x)/\gE
 (λu E1=>aA (sK f g (fC u E1 0)) (fE (bC j x.1 5+4) u) (∀(B:MH),bL f B g (nR u (bC j x.1 5+4) iA) E1->∃(d:Nat×bW×MH×PH),aA (I d) (A d<A x) (aA dX cA (aA (dA (DT x) (DT d)) (aU (aW x.1 1) d.1) (aA wR (lS x.2.1 d.2.1) (bE (cW B d.2.2) (kL x.2) (kL d.2)))))))))))))) (K (cV x.2.1) x.2.2.1 (kL x.2))))
theorem Wb{α:Type}(l:List α)(o:Nat)(x:α)(h:o<l.length):splice l o [x]=l.set o x:=by
 rw[set_eq_take_append_cons_drop,if_pos h];simp[splice]
theorem flatten_set:∀(ws:List cR){i k:Nat}{w w':cR}{x:Value},ws[i]? =some w->k<5->w'.enc=w.enc.set k x->((ws.map cR.enc).flatten).set (i*5+k) x=((ws.set i w').map cR.enc).flatten
 |[],i,k,w,w',x,h,_,_=>by simp at h
 |u::ws,0,k,w,w',x,h,c,e=>by
  simp at h;subst h;simp only[map_cons,flatten_cons,set_cons_zero,Nat.zero_mul,Nat.zero_add,e];rw[set_append_left _ _ (by simpa[cR.enc]using c)]
 |u::ws,i+1,k,w,w',x,h,c,e=>by
  simp only[map_cons,flatten_cons,set_cons_succ];have d:u.enc.length=5:=rfl;rw[set_append_right _ _ aC,d,show(i+1)*5+k-5=i*5+k by omega,flatten_set ws cg c e]
theorem aFJ(ws:List cR):((ws.map cR.enc).flatten).length=ws.length*5:=by
 induction ws with
 |nil=>rfl
 |cons w ws c=>simp only[map_cons,flatten_cons,ct,c,de];show 5+_=_;omega
theorem An.big{d:Nat}{ws:List cR}{cs:Array Value}{E:TypeId}{e:Nat×Nat}(h:An m d ws)(c:m d=some (.cells cs E e)):ws.length*5<=cs.size:=by
 obtain⟨f,g,j⟩:=h.ex;rw[g]at c;simp only[cw,Obj.cells.injEq]at c;obtain⟨rfl,_,_⟩:=c;have:=congrArg List.length j;rw[aFJ]at this
 grind
theorem An.store{c:Nat}{ws:List cR}{k:Nat}{w w':cR}{x:Value}(h:An m c ws)(f:ws[i]? =some w)(g:k<5)(e:w'.enc=w.enc.set k x){cs:Array Value}{E:TypeId}{j:Nat×Nat}(d:m c=some (.cells cs E j))
 (n:m' c=some (.cells (splice cs.toList (i*5+k) [x]).toArray E (0,0))):An m' c (ws.set i w'):=by
 have A:=h.big d;have o:=(cn f);obtain⟨u,y,z⟩:=h.ex;rw[y]at d;simp only[cw,Obj.cells.injEq]at d;obtain⟨rfl,rfl,_⟩:=d;refine⟨_,n,?_⟩;rw[Wb _ _ _ cg,length_set,toList_toArray,take_set,z];exact flatten_set ws f g e
theorem An.rd{d:Nat}{ws:List cR}(r:An m d ws){j:Nat}{w:cR}{x:Value}(f:ws[i]? =some w)(g:w.enc[j]? =some x):aK m h d (i*5+j) [x]:=by
 obtain⟨n,o,u⟩:=r.ex;refine .of_m o ?_;have c:=nI (xs:=ws.map cR.enc) (sz:=5) (λe y=>by obtain⟨x,_,rfl⟩:=mem_map.1 y;rfl) (by rw[getElem?_map,f];rfl) j x g;rw[<-u,getElem?_take]at c;split at c
 .rw[drop_cons c];rfl
 grind
theorem bqZ{g:Int}{j n u:Nat}{ws:List cR}{w:cR}{cols:List pF}{t:Nat}(I:t<n)(C:An m j ws)(D:ws[t]? =some w)(A:EK h w.columns cols)(J:cols.length<=8)
 (E:∀sl h',PH.le h h'->Ints h' sl (cols.map pF.kind)->K (cS sl) m h'):Ks ⟨g,⟨some ⟨j,0,none⟩,n,u⟩⟩ t m h K:=by
 dsimp only[Ks,push_cast];have y:=aZ.slen A;refine aE (λF=>by omega) (λF=>aE (λG=>cg) (λG=>?_));refine⟨j,0,rfl,aC,aC,w.columns,?_,λ⟨i,sl,l⟩=>sl=w.columns/\i<=cols.length/\l=(cols.take i).map pF.kind,λ⟨i,_,_⟩=>cols.length-i,⟨(0,w.columns,[]),⟨rfl,bx,bx⟩,MT⟩,?_⟩
 .rw[Nat.zero_add,Int.toNat_natCast];exact C.rd D rfl
 rintro⟨i,_,_⟩ ⟨rfl,L,rfl⟩;dsimp only;refine aE (λf=>?_) (λH sl h' z d=>?_)
 .obtain⟨c,B⟩:=eN y f;obtain⟨b,o,e,r⟩:=EK.at A B;refine⟨b,o,e,aC,f,c,.imm r,?_,?_,(i+1,w.columns,(cols.take (i+1)).map pF.kind),⟨rfl,aC,rfl⟩,aC,?_⟩
  .simp;omega
  .simp;omega
  .rw[iI B,cv];exact MT
 .rw[cu aC]at d;exact E sl h' z ⟨d,ce⟩
theorem WI:di 46 ZS:=by
 refine eC (fn:=Tryz.f46) (c:=cL Tryz.f46) func46 rfl bz ?_;rintro e m h K ⟨f,B,n,g,C,w,d,t,rfl,j,o,u,y,z,A⟩;refine⟨SO m h,rfl,aF,?_⟩;rw[<-bqX];exact bqZ j o u y z A
theorem M5.mono{t:zN}{w:cR}(x:M5 h t w)(le:PH.le h h'):M5 h' t w:=⟨x.name_,x.key_,aZ.mono x.cols_ le λ_ _ e=>e⟩
theorem Yz.mono{id:Int}{ws:List cR}(x:Yz h id ws)(le:PH.le h h'):Yz h' id ws:=⟨x.1,λi t e=>let⟨w,e1,e2⟩:=x.2 i t e;⟨w,e1,e2.mono le⟩⟩
theorem Yz.set{id:Int}{ws:List cR}{w w':cR}(x:Yz h id ws)(f:ws[i]? =some w)(g:w'.name=w.name)(n:w'.key=w.key)(o:w'.columns=w.columns):Yz h id (ws.set i w'):=by
 refine⟨by rw[length_set];exact x.1,λj t e=>?_⟩;obtain⟨u,d,c⟩:=x.2 j t e;by_cases y:i=j
 .subst y;rw[f]at d;cases d;exact⟨w',cg,⟨by rw[g];exact c.name_,by rw[n];exact c.key_,by rw[o];exact c.cols_⟩⟩
 grind
theorem Cm.on{m0 c:MH}{g d:PH}{e n:Nat}{id:Int}{ws:List cR}{s:bW}(x:Cm m0 g cb e n id ws s m h)(le:PH.le h d)(j:aL m c cb)(u:aI c d cb):Cm m0 g cb e n id ws s c d:=by
 refine⟨x.le_.trans le,x.ver0,x.ver1,u,x.n2,x.n4,x.sl_,x.id_,x.new_,x.ne_,?_,x.ws_.mono le,λb o y=>by rw[j.other b o];exact x.other_ b o y⟩;obtain⟨f,z,A⟩:=x.row_.ex;exact⟨f,by rw[j.other e x.ne_];exact z,A⟩
theorem Cm.store{m0:MH}{u:PH}{c n:Nat}{id:Int}{ws:List cR}{s:bW}(x:Cm m0 u cb c n id ws s m h){k o:Nat}{w w':cR}{y:Value}(d:ws[i]? =some w)(A:k<5)(B:o=i*5+k)(e:w'.enc=w.enc.set k y)(C:w'.name=w.name)(D:w'.key=w.key)(F:w'.columns=w.columns){Q:MH->Prop}
 (G:∀m2,Cm m0 u cb c n id (ws.set i w') s m2 h->Q m2):∃(cs:Array Value)(E:TypeId),sK m c (.cells cs E (0,0))/\o<cs.size/\∀m2:MH,gI m m2 c (.cells (splice cs.toList o [y]).toArray E (0,0))->Q m2:=by
 obtain⟨f,g,M⟩:=x.row_.ex;have H:=(cn d);refine⟨f,87,⟨g⟩,by have:=x.row_.big g;omega,λm2 j=>G m2 ?_⟩;subst B;refine⟨x.le_,x.ver0,x.ver1,?_,x.n2,x.n4,x.sl_,x.id_,x.new_,x.ne_,x.row_.store d A e g j.at_,x.ws_.set d C D F,λb I z=>by rw[j.other b z];exact x.other_ b I z⟩;obtain⟨r,q,cs,k,J,L⟩:=x.case_;exact⟨r,q,cs,k,by rw[j.other cb x.ne_.symm];exact J,L⟩
theorem JA{h:PH}{s:Sl}{l:List pF}(r:bN h s 2 (l.map pF.enc))(c:l.length<=8):EK h s l:=⟨⟨l,r,rfl,λi x e=>⟨x,e,rfl⟩⟩,aC⟩
theorem qJ.tabs{m m':MH}{h:PH}{s:Sl}{w:cR}{ws:List cR}(x:qJ m m' h s 87 5 ((w::ws).map cR.enc)):∃f d,s=⟨some ⟨f,0,none⟩,ws.length+1,d⟩/\ws.length+1<=d/\An m' f (w::ws)/\dZ m h f/\∀b,b≠f->m' b=m b:=by
 rcases x.row.ex with⟨_,e⟩|⟨b,d,g,e,j,n,_,o,u⟩
 .cases e
 .subst e;refine⟨b,d,bx,cg,⟨g,j,cg⟩,x.fresh b 0 rfl,λc y=>x.other c (λi e=>cg)⟩
theorem akJ:di 39 ZF:=by
 refine gO func39 ?_;rintro a9 m h K ⟨cb,rfl,hc,hK⟩;refine⟨brZ cb,rfl,aD D9 (aD sV (aD ahZ (aD WI (aD Kt aF)))),U1 cb m h K,bu,?_⟩;dsimp only[U1,push_cast];refine⟨cb,3,rfl,hc,λk m1 k0 k1 S c1=>?_⟩;have a0:IntKind.i64.wrap (2+k)=2+k:=dR aC aC;rw[a0];refine⟨λ⟨n,id,E,J⟩=>2<=n/\n<=4/\(id=4\/id=5)/\J=h/\aL m E cb/\aI E h cb,⟨cb,5,rfl,aC,aC,c1,λr m2 o2 c2=>aB (λ_=>⟨(2+k,5,m2,h),⟨aC,aC,.inr rfl,rfl,S.trans o2,c2⟩,MT⟩) (λ_=>⟨(2+k,4,m2,h),⟨aC,aC,.inl rfl,rfl,S.trans o2,c2⟩,MT⟩)⟩,?_⟩;clear S c1 m1 a0 k0 k1 k;rintro⟨n,id,m1,J⟩ ⟨n2,n4,a4,rfl,S,c1⟩;dsimp only;refine⟨cb,3,rfl,c1,λk m2 k0 k1 o2 c2=>?_⟩;refine⟨_,_,rfl,_,_,rfl,_,_,rfl,_,_,rfl,_,_,rfl,_,_,rfl,_,_,rfl,_,_,rfl,_,_,rfl,λs1 h1 a1 r1 s2 h2 T r2 s3 h3 F r3 s4 h4 z r4 tl m3 L=>?_⟩;obtain⟨d,f,rfl,M,O,U,P⟩:=qJ.tabs (w:=⟨_,s1,1,cJ,cJ⟩) (ws:=[⟨_,s2,1,cJ,cJ⟩,⟨_,s3,2,cJ,cJ⟩,⟨_,s4,1,cJ,cJ⟩]) L;simp only[de,length_nil]at M;have V:PH.le J h4:=((a1.trans T).trans F).trans z
 have A:d≠cb:=λe=>by
  obtain⟨r,q,cs,j,q1,_⟩:=c2;have:=U.m_
  grind
 have a2:m d=none:=by rw[<-S.other d A, <-o2.other d A];exact U.m_
 have c3:aI m3 h4 cb:=by
  obtain⟨r,q,cs,j,q1,q2,q3⟩:=c2;exact⟨r,q,cs,j,cg,q2.mono V,q3⟩
 have S0:Cm m J cb d n.toNat id _ ⟨k,⟨some ⟨d,0,none⟩,n.toNat,f⟩⟩ m3 h4:=⟨V,k0,cg,c3,aC,aC,⟨f,rfl,aC⟩,a4,a2,A,O,⟨rfl,λi t e=>?_⟩,λb n1 n2=>by rw[P b n2,o2.other b n1,S.other b n1]⟩
 rotate_left
 .match i,e with
  |0,e=>cases e;exact⟨_,rfl,⟨rfl,rfl,JA (l:=[⟨_,_⟩,⟨_,_⟩]) (r1.mono ((T.trans F).trans z)) bz⟩⟩
  |1,e=>cases e;exact⟨_,rfl,⟨rfl,rfl,JA (l:=[⟨_,_⟩,⟨_,_⟩,⟨_,_⟩,⟨_,_⟩]) (r2.mono (F.trans z)) bx⟩⟩
  |2,e=>cases e;exact⟨_,rfl,⟨rfl,rfl,JA (l:=[⟨_,_⟩,⟨_,_⟩]) (r3.mono z) bz⟩⟩
  |3,e=>cases e;exact⟨_,rfl,⟨rfl,rfl,JA (l:=[⟨_,_⟩]) r4 bx⟩⟩
  |i+4,e=>simp[sL]at e
 generalize a5:(cR.mk _ s1 1 cJ cJ::_)=b' at S0;clear a5 O L r1 r2 r3 r4;have B:∀{ws:List cR}{i:Nat},ws.length=4->i<4->∃w,ws[i]? =some w:=λhl hi=>⟨_,cq aC⟩
 refine⟨aC,cg,λ⟨W,s,E,X⟩=>W=n/\∃ws,Cm m J cb d n.toNat id ws s E X,⟨cb,2,rfl,aC,aC,c3,λr Y o4 c4=>aB (λ_ s5 G a3 r5=>⟨d,0,rfl,aC,aC,λs6 h6 C r6=>?_⟩) (λ_=>⟨(n,⟨k,⟨some ⟨d,0,none⟩,n.toNat,f⟩⟩,Y,h4),⟨rfl,_,S0.on (.refl _) o4 c4⟩,MT⟩)⟩,?_⟩
 .obtain⟨w,Q⟩:=B (i:=1) S0.ws_.1 aC;exact(S0.on (a3.trans C) o4 (c4.mono (a3.trans C))).store (k:=3) (w':={w with references:=s6}) Q aC rfl rfl rfl rfl rfl λy Z=>⟨(n,⟨k,⟨some ⟨d,0,none⟩,n.toNat,f⟩⟩,y,h6),⟨rfl,_,Z⟩,MT⟩
 clear S0 c3 P U a2 M V a1 T F z S o2 c1 c2;rintro⟨W,s,Y,G⟩ ⟨rfl,ws,S0⟩;dsimp only;obtain⟨f,c,_⟩:=S0.sl_;have o:s.tables.a=some ⟨d,0,none⟩:=by rw[c]
 have H:s.tables.len=W.toNat:=by rw[c]
 refine⟨λ⟨n,s,E,X⟩=>n=W/\∃ws,Cm m J cb d n.toNat id ws s E X,aE (λhn=>⟨cb,3,rfl,aC,aC,S0.case_,λr y R I=>aB (λ_ s7 h7 u r7=>⟨d,0,o,aC,aC,λs8 h8 g r8=>?_⟩) (λ_=>⟨(W,s,y,G),⟨rfl,_,S0.on (.refl _) R I⟩,MT⟩)⟩) (λ_=>⟨(W,s,Y,G),⟨rfl,_,S0⟩,MT⟩),?_⟩
 .obtain⟨w,Q⟩:=B (i:=2) S0.ws_.1 aC;exact(S0.on (u.trans g) R (I.mono (u.trans g))).store (k:=3) (w':={w with references:=s8}) Q aC rfl rfl rfl rfl rfl λy Z=>⟨(W,s,y,h8),⟨rfl,_,Z⟩,MT⟩
 clear S0 o H c;rintro⟨D,s,Y,G⟩ ⟨rfl,ws,S0⟩;dsimp only;obtain⟨f,c,_⟩:=S0.sl_;have o:s.tables.a=some ⟨d,0,none⟩:=by rw[c]
 have H:s.tables.len=D.toNat:=by rw[c]
 refine⟨λ⟨s,E,X⟩=>∃ws,Cm m J cb d D.toNat id ws s E X,aE (λhn=>⟨cb,3,rfl,aC,aC,S0.case_,λr y R I=>aB (λ_ s7 h7 u r7=>⟨d,0,o,aC,aC,λs8 h8 g r8=>?_⟩) (λ_=>⟨(s,y,G),⟨_,S0.on (.refl _) R I⟩,MT⟩)⟩) (λ_=>⟨(s,Y,G),⟨_,S0⟩,MT⟩),?_⟩
 .obtain⟨w,Q⟩:=B (i:=3) S0.ws_.1 aC;exact(S0.on (u.trans g) R (I.mono (u.trans g))).store (k:=3) (w':={w with references:=s8}) Q aC rfl rfl rfl rfl rfl λy Z=>⟨(s,y,h8),⟨_,Z⟩,MT⟩
 clear S0 o H c;rintro⟨s,Y,G⟩ ⟨ws,S0⟩;dsimp only;obtain⟨f,c,_⟩:=S0.sl_;have o:s.tables.a=some ⟨d,0,none⟩:=by rw[c]
 have H:s.tables.len=D.toNat:=by rw[c]
 refine⟨λ⟨s,E,X⟩=>∃ws,Cm m J cb d D.toNat id ws s E X,⟨cb,3,rfl,aC,aC,S0.case_,λr y R I=>aB (λ_=>?_) (λ_=>⟨(s,y,G),⟨_,S0.on (.refl _) R I⟩,MT⟩)⟩,λ⟨s,Y,G⟩⟨ws,S0⟩=>hK _ _ _ _ _ _ _ S0⟩;have S1:=S0.on (.refl _) R I;obtain⟨w,Q,a'⟩:=S1.ws_.2 1 _ rfl;refine⟨s.version,d,D.toNat,f,ws,w,_,1,by rw[c];rfl,aC,S1.row_,Q,a'.cols_,bx,λsl h6 C a6=>?_⟩;refine⟨cb,sl,cJ,_,[],1,rfl,I.mono C,a6,⟨bN.nil _ _,bx⟩,bx,bx,aC,λb0 p m6 h7 u hp b1 o6 c6=>⟨d,0,o,aC,aC,λs8 h8 g r8=>?_⟩⟩;exact(S1.on ((C.trans u).trans g) o6 (c6.mono g)).store (k:=4) (w':={w with checks:=s8}) Q aC rfl rfl rfl rfl rfl λy Z=>⟨(s,y,h8),⟨_,Z⟩,MT⟩
structure zS(s:oL):Prop where
 ex:∃ver n id,0<=ver/\ver<=2/\2<=n/\n<=4/\(id=4\/id=5)/\s=⟨ver,(sL id).take n⟩
def a7Q:Vc.Spec:=λc m h K=>∃cb,c=[cP cb]/\aI m h cb/\∀s v m' h',zS s->iP h' s v->PH.le h h'->aL m m' cb->aI m' h' cb->K (aS v) m' h'
theorem aGX:di 9 a7Q:=by
 refine bkZ func9 ?_;rintro W m h K ⟨cb,rfl,X,Y⟩;refine⟨bOZ,rfl,aD akJ aF,SN cb m h (eX h K),bu,?_⟩;show SN cb m h (eX h K);dsimp only[SN,push_cast];refine⟨cb,rfl,X,λd n id y s I J S1=>?_⟩;refine⟨λ⟨i,A,Z,B⟩=>A=s/\B=J/\i<=n/\∃y,Cm m h cb d n id y s Z J/\∀j w,j<i->y[j]? =some w->w.references=cJ/\w.checks=cJ,λ⟨i,_,_,_⟩=>n-i,⟨(0,s,I,J),⟨rfl,rfl,aC,y,S1,λj w M=>by omega⟩,MT⟩,?_⟩;clear S1 y I;rintro⟨i,A,I,B⟩ ⟨rfl,rfl,L,y,S1,F⟩;dsimp only;obtain⟨a',G,O⟩:=S1.sl_;have C:A.tables.a=some ⟨d,0,none⟩:=by rw[G]
 have a0:A.tables.len=n:=by rw[G]
 have P:=S1.n4;refine aE (λH=>⟨d,0,C,aC,H,?_⟩) (λa1 f=>?_)
 .obtain⟨w,U⟩:∃w,y[i]? =some w:=⟨_,cq (by have:=S1.ws_.1;omega)⟩
  refine S1.store (i:=i) (k:=3) (w':={w with references:=cJ}) U aC aC rfl rfl rfl rfl λm2 S2=>⟨d,0,C,aC,H,?_⟩
  have Q:=(cn U);have R:(y.set i {w with references:=cJ})[i]? =some {w with references:=cJ}:=getElem?_set_self Q;refine S2.store (i:=i) (k:=4) (w':={w with references:=cJ,checks:=cJ}) R aC aC rfl rfl rfl rfl λm3 S3=>⟨(i+1,A,m3,B),⟨rfl,rfl,aC,_,S3,λj u M hu=>?_⟩,aC,MT⟩
  grind
 .have f:=f;obtain⟨D,z,S⟩:=S1.row_.ex;have a2:∀i,B d i=none:=f d _ z
  have c:PH.le B (λx i=>if x=d then D[i]? else B x i):=⟨λx i v e=>by
   grind⟩
  refine⟨λb=>if b=d then none else I b,λx i=>if x=d then D[i]? else B x i,λb o e=>?_,S1.le_.trans c,λx i v e=>?_,Y ⟨A.version,(sL id).take n⟩ A _ _ ⟨⟨_,_,_,S1.ver0,S1.ver1,S1.n2,S1.n4,S1.id_,rfl⟩⟩ ⟨rfl,?_⟩ (S1.le_.trans c) ⟨λb hb=>?_⟩ ?_⟩
  .grind
  .by_cases E:x=d
   .subst E;simp at e;exact .inr ⟨D,87,(0,0),z,e,bx⟩
   .simp[E]at e;exact .inl e
  .have V:=S1.ws_.1;have P:=S1.n4;refine⟨⟨y.take n,⟨cg,.inr ⟨d,0,C,λi e L=>⟨λj v M=>?_⟩⟩,cg⟩,by simp[sL];omega,λi t e=>?_⟩,cg⟩
   .rw[map_take,getElem?_take]at L;split at L
    .have J:=nI (xs:=y.map cR.enc) (sz:=5) (λe he=>by obtain⟨x,_,rfl⟩:=mem_map.1 he;rfl) L j v M
     grind
    grind
   .rw[getElem?_take]at e;split at e
    .rename_i a3;obtain⟨w,e1,e2⟩:=S1.ws_.2 i t e;obtain⟨z1,z2⟩:=F i w aC e1;have T:=e2.mono c
     have g:t.refs=[]/\t.checks=[]:=by
      match i,e with
      |0,e=>cases e;grind
      |1,e=>cases e;grind
      |2,e=>cases e;grind
      |3,e=>cases e;grind
      |i+4,e=>omega
     refine⟨w,cg,⟨T.name_,T.cols_,T.key_,by rw[z1,g.1];exact aZ.nil _ _ _ _,by rw[z2,g.2];exact aZ.nil _ _ _ _⟩⟩
    .cases e
  .by_cases E:b=d
   .subst E;simp[S1.new_]
   .simp[E];exact S1.other_ b hb E
  .obtain⟨r,q,cs,k,q1,q2,q3⟩:=S1.case_;exact⟨r,q,cs,k,cg,q2.mono c,q3⟩
def QW(q:Query):Prop:=
 match q with
 |.mk _ _ w _ _ _ _ _ args=>EG w/\∀a∈args,QW a
 termination_by SizeOf.sizeOf q
theorem Sn{op:Int}{on:dp}{args:dt}:
 QW (.mk op ta w co on gr od li args)↔EG w/\∀a∈args,QW a:=by rw[QW.eq_def]
def bXJ(s:oL):Prop:=∀t,Ma (jS s t)
structure a5Q(s:oL)(ps ks:dm)(q0 q:Query):Prop where
 qw:QW q
 siz:∀d,BF d q0->Ts d q
 kin:bXJ s->Ma ps->Ma ks->ks≠[]->ks.length<=12->bZ s ps q0=(ks,0)->bZ s ps q=(ks,0)
def KQ(K:dk)(m:MH)(h:PH)(cb:Nat)(R:Query->Prop):Prop:=∀w q m' h',PH.le h h'->bR h' q w->R q->aL m m' cb->aI m' h' cb->K (aQ w) m' h'
def ZC:Vc.Spec:=λc m h K=>∃cb sc p k v s ps ks q,c=[cP cb,aS sc,cS p,cS k,aQ v]/\aI m h cb/\iP h s sc/\rK s/\s.tables.length<=1000/\Ints h p ps/\ps.length<=1000/\Ints h k ks/\ks.length<=1000/\bR h q v/\QW q/\KQ K m h cb (a5Q s ps ks q)
noncomputable def brQ(cb:Nat)(sc:bW)(p k:Sl)(v:QV):Ctx:=
 dG [(12,C2),(46,zT),(40,a6Q),(13,G8),(44,Ep)] [(3,{A:=Int×Nat×MH×PH,st:=λ⟨f,n,m,h⟩=>bK 112 117 [(0,pv cb),(2,sv p),(3,sv k),(6,.at (.ptr 6 0)),(9,.at (.ptr 9 0)),(10,.at (.ptr 10 0)),(11,iv f),(12,iv n)] [(6,.cells 43 (sc.enc.map .val)),(9,.cells 38 (v.enc.map .val)),(10,.cells 38 (oM.enc.map .val))] m h}),
  (9,{A:=Int×Nat×Int×Sl×dm×Nat×MH×PH,st:=λ⟨f,n,t,c,d,i,m,h⟩=>bK 112 117 [(0,pv cb),(2,sv p),(3,sv k),(6,.at (.ptr 6 0)),(9,.at (.ptr 9 0)),(10,.at (.ptr 10 0)),(11,iv f),(12,iv n),(13,iv t),(14,sv c),(15,.at (.lst 75)),(45,sv k),(46,iv k.len),(47,iv i)] [(6,.cells 43 (sc.enc.map .val)),(9,.cells 38 (v.enc.map .val)),(10,.cells 38 (oM.enc.map .val)),(75,.lst 3 1 (d.map eI))] m h}),
  (13,{A:=Int×Nat×Int×Sl×dm×Nat×Int×Int×Nat×MH×PH,st:=λ⟨f,n,t,c,d,i,e,g,j,m,h⟩=>bK 112 117 [(0,pv cb),(2,sv p),(3,sv k),(6,.at (.ptr 6 0)),(9,.at (.ptr 9 0)),(10,.at (.ptr 10 0)),(11,iv f),(12,iv n),(13,iv t),(14,sv c),(15,.at (.lst 75)),(17,iv e),(18,iv g),(45,sv k),(46,iv k.len),(47,iv i),(56,iv c.len),(57,iv j)] [(6,.cells 43 (sc.enc.map .val)),(9,.cells 38 (v.enc.map .val)),(10,.cells 38 (oM.enc.map .val)),(75,.lst 3 1 (d.map eI))] m h})] [] [] false
abbrev gQ:Prop:=eP 10
noncomputable abbrev AM(a:Int×Nat×Int×Sl×dm×Nat×MH×PH):Sl:=a.2.2.2.1
noncomputable abbrev qT(a:Int×Nat×Int×Sl×dm×Nat×MH×PH):Nat×MH×PH:=a.2.2.2.2.2
noncomputable abbrev AN(a:Int×Nat×Int×Sl×dm×Nat×MH×PH):dm:=a.2.2.2.2.1
noncomputable abbrev oX(a:Int×Nat×Int×Sl×dm×Nat×MH×PH):Nat->Nat->Option Value:=dO (qT a)
noncomputable abbrev rH(a:Int×Nat×Int×Sl×dm×Nat×Int×Int×Nat×MH×PH):Sl:=a.2.2.2.1
noncomputable abbrev IQ(a:Int×Nat×Int×Sl×dm×Nat×Int×Int×Nat×MH×PH):Int:=a.2.2.2.2.2.2.1
noncomputable abbrev Gc(a:Int×Nat×Int×Sl×dm×Nat×Int×Int×Nat×MH×PH):Nat:=a.2.2.2.2.2.1
noncomputable abbrev qR(a:Int×Nat×Int×Sl×dm×Nat×Int×Int×Nat×MH×PH):Nat×MH×PH:=a.2.2.2.2.2.2.2.2
noncomputable abbrev MI(a:Int×Nat×Int×Sl×dm×Nat×Int×Int×Nat×MH×PH):Int:=Int.tmod (iJ (a.2.2.2.2.2.2.2.1+(↑(qR a).1:Int))) (aH (rH a))
noncomputable abbrev Gd(a:Int×Nat×Int×Sl×dm×Nat×Int×Int×Nat×MH×PH):List dj:=fH a.2.2.2.2.1
abbrev Ge(a:Prop)(b c d:Nat)(e g:Sl)(i:Prop):Prop:=aA a (b<c) (aA (dN d) (aG e) (aA (aG g) (eP 6) (aA (eP 9) gQ i)))
noncomputable abbrev IS(a:PV)(b:Sl):dj:=a8 (uP a) (z7 a) (a8 (Bm a) (Bn a) (a8 (Bo a) (Bp a) (a8 (fF a.args) sJ (a8 sJ sJ (a8 sJ eH (aM b))))))
attribute [push_cast] gQ AM qT AN oX rH IQ Gc qR MI Gd Ge IS
def UZ(cb:Nat)(sc:bW)(p k:Sl)(v:QV)(m:MH)(h:PH)(K:dk):Prop:=
  fS cb (iJ (iV sc+1)) m h (λT U=>∃(I:Int×Nat×MH×PH->Prop)(M:Int×Nat×MH×PH->Nat),(∃(x:Int×Nat×MH×PH),aA (I x) (dN cb) (aA (aG p) (aG k) (aA (eP 6) (eP 9) (aA gQ (dQ T x.1) (aA (aY x.2.1) (bM sc) (aA (cG v) fM (bE (cW U x.2.2) h (dO x.2))))))))/\∀(x:Int×Nat×MH×PH),I x->aR (↑x.2.1:Int) (aH sc.tables) (kF (iV sc=0)/\DD (bA (cV sc) (Int.tmod (iJ (x.1+(↑x.2.1:Int))) (iV sc))) (dO x.2) (λs B=>∃(I1:Int×Nat×Int×Sl×dm×Nat×MH×PH->Prop)(A:Int×Nat×Int×Sl×dm×Nat×MH×PH->Nat),(∃(f:Int×Nat×Int×Sl×dm×Nat×MH×PH),aA (I1 f) (dN cb) (aA (aG p) (aG k) (aA (eP 6) (eP 9) (aA gQ (dQ x.1 f.1) (aA (bO x.2.1 f.2.1) (dQ (Int.tmod
 (iJ (x.1+(↑x.2.1:Int))) (iV sc)) f.2.2.1) (aA (bF s (AM f)) (eL 75) (aA (aG k) (a7 k) (aA (aY (qT f).1) (bM sc) (aA (cG v) fM (aA (uA (AN f)) (cW (fV x.2) (qT f).2) (bH B (oX f))))))))))))/\∀(f:Int×Nat×Int×Sl×dm×Nat×MH×PH),I1 f->aR (↑(qT f).1:Int) (aH k) (eU k.a 0 (↑(qT f).1:Int) k (λb o y=>aK (fV (qT f)) (oX f) b (bC o (qT f).1 1) (cO y)/\fS cb (aH (AM f)) (fV (qT f)) (oX f) (λV F=>∃(I2:Int×Nat×Int×Sl×dm×Nat×Int×Int×Nat×MH×PH->Prop)(E:Int×Nat×Int×Sl×dm×Nat×Int×Int×Nat×MH×PH->Nat),(∃(e:Int×Nat×Int×Sl×dm×Nat×Int×Int×Nat×MH×PH),aA (I2 e) (dN cb) (aA (aG p) (aG k) (aA (eP
 6) (eP 9) (aA gQ (dQ f.1 e.1) (aA (bO f.2.1 e.2.1) (dQ f.2.2.1 e.2.2.1) (aA (bF (AM f) (rH e)) (eL 75) (aA (dQ y (IQ e)) (dQ V e.2.2.2.2.2.2.2.1) (aA (aG k) (a7 k) (aA (bO (qT f).1 (Gc e)) (dA (AM f) (rH e)) (aA (aY (qR e).1) (bM sc) (aA (cG v) fM (aA (uB (fH (AN f)) e.2.2.2.2.1) (cW F (qR e).2) (bH (oX f) (dO (qR e)))))))))))))))/\∀(e:Int×Nat×Int×Sl×dm×Nat×Int×Int×Nat×MH×PH),I2 e->aR (↑(qR e).1:Int) (aH (rH e)) (kF (aH (rH e)=0)/\eU (rH e).a 0 (MI e) (rH e) (λW X S=>aK (fV (qR e)) (dO (qR e)) W (cF X (MI e) 1) (cO S)/\dJ S (IQ e) (aA (gS (jX (Gd e) 1*
 8)) (dH (Gd e)) (∃(g:Int×Nat×Int×Sl×dm×Nat×MH×PH),Ge (I1 g) (A g) (A f) cb p k (aA (dQ e.1 g.1) (bO e.2.1 g.2.1) (aA (dQ e.2.2.1 g.2.2.1) (bF (rH e) (AM g)) (aA (eL 75) (aG k) (aA (a7 k) (aU (aW (Gc e) 1) (qT g).1) (aA (bM sc) (cG v) (aA fM (v8 (Gd e) (MI e) (AN g)) (bE (cW (fV (qR e)) (qT g).2) (dO (qR e)) (oX g)))))))))) (∃(g:Int×Nat×Int×Sl×dm×Nat×Int×Int×Nat×MH×PH),Ge (I2 g) (E g) (E e) cb p k (aA (dQ e.1 g.1) (bO e.2.1 g.2.1) (aA (dQ e.2.2.1 g.2.2.1) (bF (rH e) (rH g)) (aA (eL 75) (dQ (IQ e) (IQ g)) (aA (dQ e.2.2.2.2.2.2.2.1 g.2.2.2.2.2.2.2.1) (aG k) (aA (a7 k) (bO (Gc e) (Gc
 g)) (aA (dA (rH e) (rH g)) (aU (aW (qR e).1 1) (qR g).1) (aA (bM sc) (cG v) (aA fM (uB (Gd e) g.2.2.2.2.1) (bE (cW (fV (qR e)) (qR g).2) (dO (qR e)) (dO (qR g)))))))))))))) (∃(g:Int×Nat×Int×Sl×dm×Nat×MH×PH),Ge (I1 g) (A g) (A f) cb p k (aA (dQ e.1 g.1) (bO e.2.1 g.2.1) (aA (dQ e.2.2.1 g.2.2.1) (bF (rH e) (AM g)) (aA (eL 75) (aG k) (aA (a7 k) (aU (aW (Gc e) 1) (qT g).1) (aA (bM sc) (cG v) (aA fM (uB (Gd e) (AN g)) (bE (cW (fV (qR e)) (qT g).2) (dO (qR e)) (oX g)))))))))))) (dJ f.1 (iV sc) (∃(e:Int×Nat×MH×PH),Ge (I e) (M e) (M x) cb p k (aA (dQ f.1 e.1) (aU (aW f.2.1 1) e.2.1)
 (aA (bM sc) (cG v) (bG fM (cW (fV (qT f)) e.2.2) (oX f=dO e.2))))) (aR (↑(fH (AN f)).length:Int) (aH k) (∃(e:Int×Nat×MH×PH),Ge (I e) (M e) (M x) cb p k (aA (dQ f.1 e.1) (aU (aW f.2.1 1) e.2.1) (aA (bM sc) (cG v) (bG fM (cW (fV (qT f)) e.2.2) (oX f=dO e.2))))) (yF f.2.2.1 (λt=>lT cb 2 (fV (qT f)) (oX f) (λc r=>∀(F:MH),aT (aL (fV (qT f)) F c) (aI F (oX f) c) (branch r ((∃(n:Nat),AV (λC H G u d=>aA (bY cb::fD (AM f)::bA (fD p) 1=bY n::fD C::bA (fD H) (↑d:Int)) (aI F (oX f) n) (aA (Ints (oX f) C G) (Ints (oX f) H u) (aA (iC G) (iC u) (nV d/\Dq (λj D=>gU (λE z=>
 dD (oX f) z (eA z D j) (aT (Ap G u d D) (aL F E n) (j5 E z n (bU z 21 (iF (uG (fB 1) (fB t))) (λJ L=>bU L 1 (fH (AN f)) (λO P=>bU P 21 (iF (a8 (fB 2) eH (a8 (fB j.op) (fB j.cmp) (a8 (rF j) (rG j) (a8 (fB (lG j.left)) (qA j) (IS j J)))))) (λQ R=>K (pN (Dj (fB 3) eH (fF O) sJ sJ sJ eH (aM Q))) E R)))))))))))))/\∃(n:Nat),AV (λC H G u d=>aA (bY cb::fD (AM f)::bA (fD p) 1=bY n::fD C::bA (fD H) (↑d:Int)) (aI F (oX f) n) (aA (Ints (oX f) C G) (Ints (oX f) H u) (aA (iC G) (iC u) (nV d/\Dq (λj D=>gU (λE z=>dD (oX f) z (eA z D j) (aT (Ap G u d D) (aL F E n) (j5 E z n
 (bU z 21 (iF (uG (fB 1) (fB t))) (λJ L=>bU L 1 (fH (AN f)) (λO P=>bU P 21 (iF (a8 (fB 2) eH (a8 (fB j.op) (fB j.cmp) (a8 (rF j) (rG j) (a8 (fB (lG j.left)) (qA j) (IS j J)))))) (λQ R=>K (pN (Dj (fB 3) eH (fF O) sJ sJ sJ eH (aM Q))) E R))))))))))))) (bU (oX f) 1 (fH (AN f)) (λC z=>bU z 21 (iF (uG (fB 1) (fB t))) (λJ L=>K (pN (Dj (fB 3) eH (fF C) sJ sJ sJ eH (aM J))) F L))))))))))) ((∃(c:Nat),AV (λs t n u d=>aA (bY cb::fD k::bA (fD p) 1=bY c::fD s::bA (fD t) (↑d:Int)) (aI (fV x.2) (dO x.2) c) (aA (Ints (dO x.2) s n) (Ints (dO x.2) t u) (aA (iC n) (iC u) (nV d/\Dq (λj D=>gU (λA B=>dD
 (dO x.2) B (eA B D j) (aT (Ap n u d D) (aL (fV x.2) A c) (j5 A B c (bU B 21 (iF v.enc) (λC z=>K (pN (a8 (fB 2) eH (a8 (fB j.op) (fB j.cmp) (a8 (rF j) (rG j) (a8 (fB (lG j.left)) (qA j) (IS j C)))))) A z)))))))))))/\∃(c:Nat),AV (λs t n u d=>aA (bY cb::fD k::bA (fD p) 1=bY c::fD s::bA (fD t) (↑d:Int)) (aI (fV x.2) (dO x.2) c) (aA (Ints (dO x.2) s n) (Ints (dO x.2) t u) (aA (iC n) (iC u) (nV d/\Dq (λj D=>gU (λA B=>dD (dO x.2) B (eA B D j) (aT (Ap n u d D) (aL (fV x.2) A c) (j5 A B c (bU B 21 (iF v.enc) (λC z=>K (pN (a8 (fB 2) eH (a8 (fB j.op) (fB j.cmp) (a8 (rF j) (rG j) (a8 (fB (lG j.left))
 (qA j) (IS j C)))))) A z))))))))))))
theorem sB(h:PH):Ints h cJ []:=⟨bN.nil _ _,bx⟩
theorem vE(h:PH):lE h cJ []:=⟨bN.nil _ _,bx⟩
theorem A4(h:PH):jU h cJ []:=⟨bN.nil _ _,bx⟩
theorem FJ(h:PH):eA h gT hZ:=NW (v:=hZ) rfl
theorem CJ{h:PH}{s:Sl}{v:QV}{q:Query}(r:bN h s 21 [QV.enc v])(c:bR h q v):Cn h s [q]:=⟨⟨[v],r,rfl,λi x e=>by
 grind⟩,bx⟩
theorem Bd(h:PH)(t:Int):bR h (.mk 1 t gT [] [] [] [] 0 []) ⟨1,t,hZ,cJ,cJ,cJ,cJ,0,cJ⟩:=
 qD.rep ⟨rfl,rfl,FJ h,sB h,vE h,sB h,A4 h,rfl,aZ.nil _ _ _ _⟩
theorem Oa{v:PV}{s:Sl}(c:eA h p v)(d:Cn h s [q]):bR h (.mk 2 0 p [] [] [] [] 0 [q]) ⟨2,0,v,cJ,cJ,cJ,cJ,0,s⟩:=
 qD.rep ⟨rfl,rfl,c,sB h,vE h,sB h,A4 h,rfl,d⟩
theorem Lu{h:PH}{c s:Sl}{cols:dm}{q:Query}(d:Ints h c cols)(e:Cn h s [q]):bR h (.mk 3 0 gT cols [] [] [] 0 [q]) ⟨3,0,hZ,c,cJ,cJ,cJ,0,s⟩:=
 qD.rep ⟨rfl,rfl,FJ h,d,vE h,sB h,A4 h,rfl,e⟩
theorem Dd:EG gT:=⟨qL,qL,trivial⟩
theorem Sm{op:Int}{on:dp}(c:EG w)(d:QW q):QW (.mk op ta w co on gr od li [q]):=Sn.2 ⟨c,λa e=>cg⟩
theorem Mc(t:Int):QW (.mk 1 t gT [] [] [] [] 0 []):=Sn.2 ⟨Dd,λa c=>by simp at c⟩
theorem YQ{a:Int}{n:Nat}(c:0<=a)(d:0<n):0<=a.tmod (n:Int)/\a.tmod (n:Int)<(n:Int):=by
 rw[Int.tmod_eq_emod_of_nonneg c];exact⟨Int.emod_nonneg _ aC,Int.emod_lt_of_pos _ aC⟩
theorem Kf{k:dm}{op:Int}{on:dp}(c:arity op=1)(h:bZ s ps q=(k,0)):bZ s ps (.mk op ta w co on gr od li [q])=iE s ps (.mk op ta w co on gr od li [q]) k []:=by
 have e:fG s ps [q]=([k],0):=Bt (by simp[h]);simp[bZ,e,c]
theorem MV(h:l.length<=12):xB l=(l,0):=if_pos h
theorem NX{s:oL}{ps:dm}{t:Int}(c:0<=t)(d:t<s.tables.length)(e:(jS s t).length<=12):bZ s ps (.mk 1 t gT [] [] [] [] 0 [])=(jS s t,0):=by
 have f:bZ s ps (.mk 1 t gT [] [] [] [] 0 [])=iE s ps (.mk 1 t gT [] [] [] [] 0 []) [] []:=by simp[bZ,fG,arity]
 rw[f];unfold iE;rw[if_neg (by simp[arity,eT])];dsimp only;rw[if_pos rfl,if_pos ⟨c,d⟩,MV e]
theorem kinds_filter{k:dm}(h:bZ s ps q=(k,0))(c:iL k ps w=0)(d:k.length<=12):bZ s ps (.mk 2 0 w [] [] [] [] 0 [q])=(k,0):=by
 rw[Kf bz h];unfold iE;rw[if_neg (by simp[arity,eT])];dsimp only;rw[if_neg bz,if_pos rfl,if_pos c,MV d]
theorem Pk{k:dm}(h:bZ s ps q=(k,0))(d:co≠[])(e:∀c∈co,HQ k c=true)(g:co.length<=12):bZ s ps (.mk 3 0 gT co [] [] [] 0 [q])=(co.map λc=>k.getD c.toNat 0,0):=by
 rw[Kf bz h];unfold iE;rw[if_neg (by simp[arity,eT])];dsimp only;rw[if_neg bz,if_neg bz,if_pos rfl,if_pos ⟨d,λj x f=>e x (cr f)⟩,MV cg]
structure HL(kt ks co:dm):Prop where
 in_:∀c∈co,HQ kt c=true
 eq_:(co.map λc=>kt.getD c.toNat 0)=ks
theorem HL.kin{c ks:dm}(x:HL c ks co)(h:bZ s ps q=(c,0))(d:ks≠[])(f:ks.length<=12):bZ s ps (.mk 3 0 gT co [] [] [] 0 [q])=(ks,0):=by
 have g:co.length=ks.length:=by rw[<-x.eq_,length_map]
 rw[Pk h (λe=>d (eq_nil_of_length_eq_zero cg)) x.in_ aC,x.eq_]
theorem HL.snoc{d ks:dm}{c x:Int}(p:HL d (ks.take i) co)(hx:ks[i]? =some x)(g:HQ d c=true)(e:d.getD c.toNat 0=x):HL d (ks.take (i+1)) (co++[c]):=
 ⟨λy f=>by
  rcases mem_append.1 f with f|f
  .exact p.in_ y f
  grind,by rw[cv,p.eq_,db,hx,map_cons,map_nil,e];rfl⟩
theorem akX:di 42 ZC:=by
 refine gO func42 ?_;rintro d1 m h K ⟨cb,sc,p,k,v,s,ps,ks,q,rfl,hc,hs,h8,d2,hp,b3,hk,a2,hq,b4,hK⟩;refine⟨brQ cb sc p k v,rfl,aD D9 (aD GC (aD Qh (aD sV (aD Kt aF)))),UZ cb sc p k v m h K,by kernel_rfl,?_⟩;have d3:=hs.tables.slen;have b5:=hk.slen;have hw:IntKind.i64.wrap ((sc.tables.len:Int)+1)=(sc.tables.len:Int)+1:=dR aC aC;dsimp only[UZ,push_cast];rw[hw];refine⟨cb,_,rfl,hc,λf W f0 f1 o1 c1=>?_⟩;refine⟨λ⟨f,n,E,o⟩=>0<=f/\f<=sc.tables.len/\n<=sc.tables.len/\PH.le h o/\aL m E cb/\aI E o cb,λ⟨_,n,_,_⟩=>sc.tables.len-n,⟨(f,0,W,h),⟨f0,aC,aC,.refl _,o1,c1⟩,MT⟩,?_⟩;clear f0 f1 o1 c1 W hw;rintro⟨f,n,W,o⟩ ⟨f0,f1,hn,z,o1,c1⟩;dsimp only
 have C:∀(kk:Sl)(kl:dm)(E:MH)(o:PH)(Q:PV->Pred->MH->PH->Prop),Ints o kk kl->kl.length<=1000->PH.le h o->aI E o cb->(∀v p m' h',PH.le o h'->eA h' p v->Ap kl ps 1 p->aL E m' cb->aI m' h' cb->Q v p m' h')->
  ∃(D:Nat)(s t:Sl)(cols u:dm)(I:Nat),[CV.val (.pointer (some ⟨cb,0,none⟩)),CV.val (.slice kk.a kk.len kk.cap),CV.val (.slice p.a p.len p.cap),CV.val (.int .i64 1)]=[CV.val (.pointer (some ⟨D,0,none⟩)),CV.val (.slice s.a s.len s.cap),CV.val (.slice t.a t.len t.cap),CV.val (.int .i64 I)]/\aI E o D/\Ints o s cols/\Ints o t u/\cols.length<=1000/\u.length<=1000/\I<=1000/\
   ∀(v:PV)(p:Pred)(m':MH)(h':PH),PH.le o h'->eA h' p v->Ap cols u I p->aL E m' D->aI m' h' D->Q v p m' h':=λkk kl E o Q h1 h2 H h4 h5=>
  ⟨cb,kk,p,kl,ps,1,rfl,h4,h1,hp.mono H,h2,b3,aC,λv p m' h' q1 q2 X q3 q4=>h5 v p m' h' q1 q2 X q3 q4⟩
 refine aE (λd4=>?_) (λd5=>?_)
 rotate_left
 .have fin:∀(w:PV)(p:Pred)(m':MH)(h':PH),PH.le o h'->eA h' p w->Ap ks ps 1 p->aL W m' cb->aI m' h' cb->∀(s:Sl)(c:PH),PH.le h' c->bN c s 21 [QV.enc v]->K (aQ ⟨2,0,w,cJ,cJ,cJ,cJ,0,s⟩) m' c:=λw p m' h' q1 q2 X q3 q4 s h2 U q6=>
   hK _ _ m' h2 ((z.trans q1).trans U) (Oa (q2.mono U) (CJ q6 (hq.mono ((z.trans q1).trans U)))) ⟨Sm X.vals b4,λd hf=>hf.filter,λ_ Y b6 _ J b7=>kinds_filter b7 (X.valid (by decide) b6 Y) J⟩ (o1.trans q3) (q4.mono U)
  exact⟨C k ks W o _ (hk.mono z) a2 z c1 fin,C k ks W o _ (hk.mono z) a2 z c1 fin⟩
 have b8:IntKind.i64.wrap (f+(n:Int))=f+(n:Int):=dR aC aC;rw[b8];refine⟨aC,sc,s,_,rfl,hs.mono z,h8,λA h2 a3 F=>?_⟩;have a4:=F.slen;obtain⟨T,hT⟩:∃T,(f+(n:Int)).tmod (sc.tables.len:Int)=T:=⟨_,rfl⟩
 have a5:=YQ (a:=f+(n:Int)) (n:=sc.tables.len) aC aC;rw[hT]at F a4 a5⊢
 have b9:(jS s T).length<=8:=by
  unfold jS;split
  .simp
  .split
   .simp
   .rename_i t ht;simpa using h8 t (mem_of_getElem? ht)
 obtain⟨S,Z⟩:∃S,jS s T=S:=⟨_,rfl⟩
 have L:bZ s ps (.mk 1 T gT [] [] [] [] 0 [])=(S,0):=by rw[NX a5.1 aC aC,Z]
 have a':bXJ s->Ma S:=λx=>by rw[<-Z];exact x T
 rw[Z]at F a4 b9;refine⟨λ⟨f',n',t,B,cols,i,E,o⟩=>f'=f/\n'=n/\B=A/\t=T/\i<=ks.length/\cols.length<=i/\(cols.length=i->HL S (ks.take i) cols)/\PH.le h2 o/\aL m E cb/\aI E o cb,λ⟨_,_,_,_,_,i,_,_⟩=>ks.length-i,⟨(f,n,T,A,[],0,W,h2),⟨rfl,rfl,rfl,rfl,aC,by simp,λ_=>⟨by simp,by simp⟩,.refl _,o1,c1.mono a3⟩,MT⟩,?_⟩;rintro⟨f',n',t,A,cols,i,m2,H⟩ ⟨rfl,rfl,rfl,rfl,hi,d6,c',G,o2,c2⟩;dsimp only;have g:PH.le h H:=(z.trans a3).trans G;refine aE (λV=>?_) (λc9=>?_)
 .obtain⟨x,o⟩:=eN b5 V;obtain⟨b1,c0,e1,r1⟩:=(hk.mono g).at o;refine⟨b1,c0,e1,aC,V,x,.imm (by grind),cb,_,rfl,c2,λfr m3 d7 d8 o3 c3=>?_⟩;refine⟨λ⟨f2,n2,t2,B,a0,i2,M,y,j,E,hy⟩=>f2=f'/\n2=n'/\B=A/\t2=t/\a0=cols/\i2=i/\M=x/\E=m3/\hy=H/\j<=A.len/\y=fr,λ⟨_,_,_,_,_,_,_,_,j,_,_⟩=>A.len-j,⟨(f',n',t,A,cols,i,x,fr,0,m3,H),⟨rfl,rfl,rfl,rfl,rfl,rfl,rfl,rfl,rfl,aC,rfl⟩,MT⟩,?_⟩;rintro⟨f2,n2,t2,A,cols,i,M,y,j,m3,H⟩ ⟨rfl,rfl,rfl,rfl,rfl,rfl,rfl,rfl,rfl,hj,rfl⟩;dsimp only;refine aE (λd'=>?_) (λd0=>⟨(f2,n2,t2,_,_,_,_,_),⟨rfl,rfl,rfl,rfl,by show i+1<=ks.length;omega,by show cols.length<=i+1;omega,λe=>by grind,G,o2.trans o3,c3⟩,by grind,MT⟩);have c5:IntKind.i64.wrap (y+(j:Int))=y+(j:Int):=dR aC aC;rw[c5];have hm:=YQ (a:=y+(j:Int)) (n:=Sl.len _) aC (show 0<A.len by omega);obtain⟨b2,c6,e2,r2⟩:=(F.mono G).inb (n:=(y+(j:Int)).tmod (A.len:Int)) hm.1 aC;refine⟨aC,b2,c6,e2,hm.1,hm.2,_,.imm (by simpa using r2),aB (λek=>⟨by simp;omega,by simp;omega,(f2,n2,t2,_,cols++[(y+(j:Int)).tmod (A.len:Int)],i+1,_,_),⟨rfl,rfl,rfl,rfl,by grind,by simp;omega,λe=>?_,G,o2.trans o3,c3⟩,by grind,?_⟩) (λ_=>⟨(f2,n2,t2,A,cols,i,M,y,j+1,m3,H),⟨rfl,rfl,rfl,rfl,rfl,rfl,rfl,rfl,rfl,by grind,rfl⟩,by grind,MT⟩)⟩
  .have e:(cols++[(y+(j:Int)).tmod (A.len:Int)]).length=i+1:=e;rw[length_append]at e;exact(c' (by simpa using e)).snoc o (by simp only[HQ,Bool.and_eq_true,decide_eq_true_eq];omega) (by grind)
  .rw[map_append];exact MT
 .have a6:n'+1<=sc.tables.len:=by omega
  have d9:i=ks.length:=by omega
  refine aB (λ_=>⟨(f',n'+1,m2,H),⟨f0,f1,a6,g,o2,c2⟩,by grind,MT⟩) (λ_=>aE (λ_=>⟨(f',n'+1,m2,H),⟨f0,f1,a6,g,o2,c2⟩,by grind,MT⟩) (λe'=>⟨t,rfl,cb,2,rfl,aC,aC,c2,λr m4 o4 c4=>?_⟩))
  have O:HL S ks cols:=by
   grind
  refine aB (λ_=>?_) (λ_ s1 h5 a9 r5 s2 h6 a1 r6=>?_)
  .have fin:∀(w:PV)(p:Pred)(m':MH)(h':PH),PH.le H h'->eA h' p w->Ap S ps 1 p->aL m4 m' cb->aI m' h' cb->∀(s:Sl)(c:PH),PH.le h' c->bN c s 21 [QV.enc ⟨1,t,hZ,cJ,cJ,cJ,cJ,0,cJ⟩]->∀(b':Sl)(P:PH),PH.le c P->bN P b' 1 (cols.map eI)->∀(b0:Sl)(R:PH),PH.le P R->bN R b0 21 [QV.enc ⟨2,0,w,cJ,cJ,cJ,cJ,0,s⟩]->K (aQ ⟨3,0,hZ,b',cJ,cJ,cJ,0,b0⟩) m' R:=λw p m' h' q1 q2 X q3 q4 s h5 U q6 s1 h6 q7 q8 s2 h7 q9 c7=>
    hK _ _ m' h7 ((((g.trans q1).trans U).trans q7).trans q9) (Lu (cols:=cols) ⟨q8.mono q9,aC⟩ (CJ c7 (Oa (q2.mono ((U.trans q7).trans q9)) (CJ (q6.mono (q7.trans q9)) (Bd _ t))))) ⟨Sm Dd (Sm X.vals (Mc t)),λd _=>Ts.three d (rJ.one (rJ.one rJ.scan (by decide)) (by decide)),λc8 Y _ hn J _=>O.kin (kinds_filter L (X.valid (by decide) (a' c8) Y) aC) hn J⟩ ((o2.trans o4).trans q3) (q4.mono ((U.trans q7).trans q9))
   exact⟨C A S m4 H _ (F.mono G) aC g c4 fin,C A S m4 H _ (F.mono G) aC g c4 fin⟩
  .exact hK _ _ m4 h6 ((g.trans a9).trans a1) (Lu (cols:=cols) ⟨r5.mono a1,aC⟩ (CJ (v:=⟨1,t,hZ,cJ,cJ,cJ,cJ,0,cJ⟩) r6 (Bd _ t))) ⟨Sm Dd (Mc t),λd _=>Ts.three d (rJ.mono (rJ.one rJ.scan (by decide)) (by decide) (by decide) (by decide)),λ_ _ _ hn J _=>O.kin L hn J⟩ (o2.trans o4) (c4.mono (a9.trans a1))
def KQ2(K:dk)(m:MH)(h:PH)(cb:Nat)(s:oL)(ps:dm)(d:Nat):Prop:=∀w q m' h',PH.le h h'->bR h' q w->QW q->BF d q->(fR s ps q).2=0->aL m m' cb->aI m' h' cb->K (aQ w) m' h'
def YG(N:Nat):Vc.Spec:=λd m h K=>∃cb sc p s ps c,d=[cP cb,aS sc,cS p,cI c]/\aI m h cb/\iP h s sc/\fA s=0/\s.tables≠[]/\Ints h p ps/\ps.length<=1000/\ps.all eM=true/\ -1<=c/\c<=1000/\(c+1).toNat<N/\KQ2 K m h cb s ps c.toNat
noncomputable def byQ(N:Nat)(cb:Nat)(sc:bW)(p:Sl):Ctx:=
 vM [(12,C2),(40,a6Q),(37,zR),(41,a7Z),(42,ZC),(43,bEZ),(44,Ep),(10,YG N)] [(11,{A:=QV×QV×Sl×Int×MH×PH,st:=λ⟨a,q,k,n,m,h⟩=>bK 171 175 [(0,pv cb),(2,sv p),(5,.at (.ptr 5 0)),(8,.at (.ptr 8 0)),(10,.at (.ptr 10 0)),(11,sv k),(13,.at (.ptr 13 0)),(14,iv n)] [(5,.cells 43 (sc.enc.map .val)),(8,.cells 38 (oM.enc.map .val)),(10,.cells 38 (a.enc.map .val)),(13,.cells 38 (q.enc.map .val))] m h})] [(7,{A:=Int×Int×QV×QV×Sl×MH×PH,st:=λ⟨d,op,a,q,k,m,h⟩=>bK 171 175 [(0,pv cb),(2,sv p),(3,iv d),(5,.at (.ptr 5 0)),(8,.at (.ptr 8 0)),(9,iv op),(10,.at (.ptr 10 0)),(11,sv k),(13,.at (.ptr 13 0))] [(5,.cells 43 (sc.enc.map .val)),(8,.cells 38 (oM.enc.map .val)),(10,.cells 38 (a.enc.map .val)),(13,.cells 38 (q.enc.map .val))] m h}),
  (16,{A:=Int×Int×QV×QV×Sl×Bool×MH×PH,st:=λ⟨d,op,a,q,k,t,m,h⟩=>bK 171 175 [(0,pv cb),(2,sv p),(3,iv d),(5,.at (.ptr 5 0)),(8,.at (.ptr 8 0)),(9,iv op),(10,.at (.ptr 10 0)),(11,sv k),(13,.at (.ptr 13 0)),(59,iv op),(84,bv t)] [(5,.cells 43 (sc.enc.map .val)),(8,.cells 38 (oM.enc.map .val)),(10,.cells 38 (a.enc.map .val)),(13,.cells 38 (q.enc.map .val))] m h}),
  (24,{A:=Int×QV×QV×Sl×Bool×MH×PH,st:=λ⟨op,a,q,k,t,m,h⟩=>bK 171 175 [(0,pv cb),(2,sv p),(5,.at (.ptr 5 0)),(8,.at (.ptr 8 0)),(10,.at (.ptr 10 0)),(11,sv k),(13,.at (.ptr 13 0)),(59,iv op),(122,bv t)] [(5,.cells 43 (sc.enc.map .val)),(8,.cells 38 (oM.enc.map .val)),(10,.cells 38 (a.enc.map .val)),(13,.cells 38 (q.enc.map .val))] m h}),
  (20,{A:=QV×QV×QV×Sl×Sl×MH×PH,st:=λ⟨a,b,q,k,l,m,h⟩=>bK 171 175 [(0,pv cb),(2,sv p),(5,.at (.ptr 5 0)),(8,.at (.ptr 8 0)),(10,.at (.ptr 10 0)),(11,sv k),(13,.at (.ptr 13 0)),(15,.at (.ptr 15 0)),(16,sv l)] [(5,.cells 43 (sc.enc.map .val)),(8,.cells 38 (oM.enc.map .val)),(10,.cells 38 (a.enc.map .val)),(13,.cells 38 (q.enc.map .val)),(15,.cells 38 (b.enc.map .val))] m h}),
  (30,{A:=QV×QV×MH×PH,frz:=true,st:=λ⟨a,q,m,h⟩=>bK 171 175 [(2,sv p),(5,.at (.ptr 5 0)),(8,.at (.ptr 8 0)),(10,.at (.ptr 10 0)),(13,.at (.ptr 13 0))] [(5,.cells 43 (sc.enc.map .val)),(8,.cells 38 (oM.enc.map .val)),(10,.cells 38 (a.enc.map .val)),(13,.cells 38 (q.enc.map .val))] m h})] [] [36,1036,1033] [] false
abbrev Gv(a:QV->Query->Prop):Prop:=∀(x:QV)(c:Query),a x c
abbrev F8(a:ei)(b:PH)(c:oL->dm->Query->Sl->PH->Prop):Prop:=Hs (λx g=>∃(j:QV),Cz (λd e=>∃(f:Query),aA (a=cV x::dW g (dE j)) (iP b d x) (aA (Ints b g e) (bR b f j) (E5 b (fR d e f) (λn o=>c d e f n o)))))
noncomputable abbrev IT(a:Int×Int×QV×QV×Sl×MH×PH):Sl:=a.2.2.2.2.1
abbrev eB(a b:QV):Prop:=sY a=sY b
abbrev Mv(a:Int)(b:Sl)(c:QV):Prop:=oQ 38 (Gu (iG a) (Gu pX (Gu aQz (eO pX aQz (eO LV LV (eO LV LV (eO LV pX (lY b))))))))=sY c
noncomputable abbrev Gm(a:Int×Int×QV×QV×Sl×MH×PH):Nat->Nat->Option Value:=gJ a.2.2.2.2
noncomputable abbrev MK(a:Int×Int×QV×QV×Sl×MH×PH):Nat->Option Obj:=iO a.2.2.2.2
noncomputable abbrev DY(a:QV×QV×Sl×Int×MH×PH):Nat->Nat->Option Value:=a.2.2.2.2.2
noncomputable abbrev MJ(a:QV×QV×Sl×Int×MH×PH):Nat->Option Obj:=a.2.2.2.2.1
noncomputable abbrev Su(a:QV×QV×Sl×Int×MH×PH):Sl:=a.2.1.columns
noncomputable abbrev wL(a:QV×QV×MH×PH):Nat->Option Obj:=a.2.2.1
noncomputable abbrev eK(a:QV×MH×PH):Nat->Nat->Option Value:=a.2.2
noncomputable abbrev vW(a:Int×QV×QV×Sl×Bool×MH×PH):Sl:=a.2.2.2.1
noncomputable abbrev u7(a:Int×QV×QV×Sl×Bool×MH×PH):Bool×MH×PH:=a.2.2.2.2
noncomputable abbrev nO(a:Int×QV×QV×Sl×Bool×MH×PH):QV:=a.2.1
noncomputable abbrev Ct(a:Int×QV×QV×Sl×Bool×MH×PH):QV:=a.2.2.1
noncomputable abbrev oE(a:Int×Int×QV×QV×Sl×Bool×MH×PH):QV:=Ct a.2
noncomputable abbrev iM(a:Int×QV×QV×Sl×Bool×MH×PH):Nat->Nat->Option Value:=(u7 a).2.2
noncomputable abbrev pZ(a:Int×QV×QV×Sl×Bool×MH×PH):Nat->Option Obj:=(u7 a).2.1
abbrev DU(a:Prop)(b:Nat)(c:Sl)(d:Int×Int×QV×QV×Sl×Bool×MH×PH)(e:Sl)(g:Prop):Prop:=aA a (dN b) (aA (aG c) dC (aA eZ gQ (aA (bF (vW d.2) e) (eP 13) g)))
noncomputable abbrev Gf(a:QV×QV×QV×Sl×Sl×MH×PH):Sl:=a.2.2.2.1
noncomputable abbrev lU(a:QV×QV×QV×Sl×Sl×MH×PH):Sl×MH×PH:=a.2.2.2.2
noncomputable abbrev pU(a:QV×QV×QV×Sl×Sl×MH×PH):QV:=a.2.2.1
noncomputable abbrev Jd(a:QV×QV×QV×Sl×Sl×MH×PH):Sl:=(pU a).args
abbrev Gr(a:MH->Prop)(b:MH->MH)(c:PH)(d:MH->(QV×QV×MH×PH)->Prop):Prop:=∀(x:MH),aT (a x) (vO (b x) c) (∃(e:QV×QV×MH×PH),d x e)
attribute [push_cast] Gv F8 IT eB Mv Gm MK DY MJ Su wL eK vW u7 nO Ct oE iM pZ DU Gf lU pU Jd Gr
def Vw(N:Nat)(cb:Nat)(sc:bW)(p:Sl)(S:Int)(m:MH)(h:PH)(K:dk):Prop:=
  fS cb 12 m h (λk Z=>aR S 1 (fS cb (ite (iV sc>1) (iV sc) 1) Z h (λF X=>yF F (λt=>K (pN (uG (fB 1) (fB t))) X h))) (cH (oA k==1) (fS cb (ite (iV sc>1) (iV sc) 1) Z h (λF X=>yF F (λt=>K (pN (uG (fB 1) (fB t))) X h))) (iV sc==0) (fS cb (ite (iV sc>1) (iV sc) 1) Z h (λF X=>yF F (λt=>K (pN (uG (fB 1) (fB t))) X h))) (∃(c:Nat),Hs (λs p1=>Cz (λs1 p2=>∃(d:Int),aA (bY cb::cV sc::bA (fD p) (iJ (S-1))=bY c::cV s::bA (fD p1) d) (aI Z h c) (aA (iP h s1 s) (fA s1=0) (aA (kF (s1.tables=[])) (Ints h p1 p2) (aA (iC p2) (gG (Hp p2)) (aA (Int.negSucc 0<=d) (d<=1000) ((d+1).toNat<N/\Gv (λw q=>gU (λX h1=>dD h h1
 (bR h1 q w) (aT (QW q) (BF d.toNat q) (aT ((fR s1 p2 q).2=0) (aL Z X c) (j5 X h1 c (F8 (cV sc::dW p (dE w)) h1 (λ_ _ _ s2 h2=>∃(I:Int×Int×QV×QV×Sl×MH×PH->Prop),fX (λB u=>qJ X u h2 B 38 21 (iF w.enc)->∃(x:Int×Int×QV×QV×Sl×MH×PH),aA (I x) (dN cb) (aA (aG p) (dQ S x.1) (aA dC eZ (aA (dQ (oA k) x.2.1) gQ (aA (bF s2 (IT x)) (eP 13) (aA (bM sc) fM (aA (eB w x.2.2.1) (Mv (oA k) B x.2.2.2.1) (aA (gH u x.2.2.2.2) (h2=Gm x) True))))))))/\∀(x:Int×Int×QV×QV×Sl×MH×PH),I x->∃(I1:QV×QV×MH×PH->Prop),dJ x.2.1 3 (fS cb 3 (MK x) (Gm x) (λF u=>∃(I2:QV×QV×Sl×Int×MH×PH->Prop)(z:QV×QV×Sl×Int×MH×PH->Nat),(∃(f:QV×QV×Sl×Int×
 MH×PH),aA (I2 f) (dN cb) (aA (aG p) dC (aA eZ gQ (aA (bF (IT x) f.2.2.1) (eP 13) (aA (dQ F f.2.2.2.1) (bM sc) (aA fM (eB x.2.2.1 f.1) (bG (eB x.2.2.2.1 f.2.1) (cW u f.2.2.2.2) (Gm x=DY f))))))))/\∀(f:QV×QV×Sl×Int×MH×PH),I2 f->fY f.2.2.2.1 0 (fS cb (aH f.2.2.1) (MJ f) (DY f) (λP C=>∃(e:List dj),aA (cM C (bD (Su f)) 3 1 e) (yE e) (dH e/\fX (λB G=>bV C G (bD (Su f)) B 3 1 (dY e (cO P))->∃(j:QV×QV×Sl×Int×MH×PH),aA (I2 j) (z j<z f) (aA (dN cb) (aG p) (aA dC eZ (aA gQ (bF f.2.2.1 j.2.2.1) (aA (eP 13) (dQ (iJ (f.2.2.2.1-1)) j.2.2.2.1) (aA (bM sc) fM (aA (eB f.1 j.1) (oQ 38 (eO (iG
 f.2.1.op) (tF f.2.1) (qU f.2.1 (uV (xG B) f.2.1.on f.2.1 (uY f.2.1) (mO (xN f.2.1) (xG f.2.1.args)))))=sY j.2.1) (aA (cW G j.2.2.2.2) (DY f=DY j) True))))))))))) (vO (MJ f) (DY f)->∃(e:QV×QV×MH×PH),aA (I1 e) (aG p) (aA dC eZ (aA gQ (eP 13) (aA (bM sc) fM (bG (eB f.1 e.1) (eB f.2.1 e.2.1) (Av (MJ f) (DY f) (wL e) (eK e.2))))))))) (∃(I2:Int×Int×QV×QV×Sl×Bool×MH×PH->Prop),dJ x.2.1 4 (∃(f:Int×Int×QV×QV×Sl×Bool×MH×PH),aA (I2 f) (dN cb) (aA (aG p) (dQ x.1 f.1) (aA dC eZ (aA (dQ x.2.1 f.2.1) gQ (aA (bF (IT x) (vW f.2)) (eP 13) (aA (dQ x.2.1 f.2.1) (Ab (u7 f.2).1) (aA (bM sc) fM (aA (eB x.2.2.1 (nO f.2))
 (eB x.2.2.2.1 (oE f)) (bE (cW (MK x) (u7 f.2).2) (Gm x) (iM f.2)))))))))) (∃(f:Int×Int×QV×QV×Sl×Bool×MH×PH),aA (I2 f) (dN cb) (aA (aG p) (dQ x.1 f.1) (aA dC eZ (aA (dQ x.2.1 f.2.1) gQ (aA (bF (IT x) (vW f.2)) (eP 13) (aA (dQ x.2.1 f.2.1) (iW (x.2.1==5) (u7 f.2).1) (aA (bM sc) fM (aA (eB x.2.2.1 (nO f.2)) (eB x.2.2.2.1 (oE f)) (bE (cW (MK x) (u7 f.2).2) (Gm x) (iM f.2))))))))))/\∀(f:Int×Int×QV×QV×Sl×Bool×MH×PH),hU (I2 f) (u7 f.2).1 (∃(A:Nat),Hs (λB H=>Cz (λJ L=>∃(Q:Int),aA (bY cb::cV sc::bA (fD p) (iJ (f.1-2))=bY A::cV B::bA (fD H) Q) (aI (pZ f.2) (iM f.2) A) (aA (iP (iM
 f.2) J B) (fA J=0) (aA (kF (J.tables=[])) (Ints (iM f.2) H L) (aA (iC L) (gG (Hp L)) (aA (Int.negSucc 0<=Q) (Q<=1000) ((Q+1).toNat<N/\Gv (λT M=>gU (λu n=>dD (iM f.2) n (bR n M T) (aT (QW M) (BF Q.toNat M) (aT ((fR J L M).2=0) (aL (pZ f.2) u A) (j5 u n A (F8 (cV sc::dW p (dE T)) n (λ_ _ _ R U=>∃(I3:QV×QV×QV×Sl×Sl×MH×PH->Prop),dJ f.2.1 4 (eR (iJ (aH (vW f.2)+aH R)) 8 (∃(e:QV×QV×QV×Sl×Sl×MH×PH),DU (I3 e) cb p f (Gf e) (aA (eP 15) (bF R (lU e).1) (aA (bM sc) fM (aA (eB (nO f.2) e.1) (oQ 38 (eO (iG 5) (tF (oE f)) (qU (oE f) (uV (rZ (oE f)) (oE f).on (oE f) (uY (oE f)) (mO
 (xN (oE f)) (xG (oE f).args)))))=sY (pU e)) (aA (eB T e.2.1) (gH u (lU e)) (bH U (gJ (lU e)))))))) (∃(e:QV×QV×QV×Sl×Sl×MH×PH),DU (I3 e) cb p f (Gf e) (aA (eP 15) (bF R (lU e).1) (aA (bM sc) fM (aA (eB (nO f.2) e.1) (eB (oE f) (pU e)) (aA (eB T e.2.1) (gH u (lU e)) (bH U (gJ (lU e))))))))) (∃(e:QV×QV×QV×Sl×Sl×MH×PH),DU (I3 e) cb p f (Gf e) (aA (eP 15) (bF R (lU e).1) (aA (bM sc) fM (aA (eB (nO f.2) e.1) (eB (oE f) (pU e)) (aA (eB T e.2.1) (gH u (lU e)) (bH U (gJ (lU e))))))))/\∀(e:QV×QV×QV×Sl×Sl×MH×PH),I3 e->(∃(E:Nat),kQ (λV t=>tI (λa b=>aA (bY cb::dW (Gf
 e) (fD (lU e).1)=bY E::dW V (fD t)) (aI (iO (lU e)) (gJ (lU e)) E) (aA (Ints (gJ (lU e)) V a) (Ints (gJ (lU e)) t b) (aA (iC a) (iC b) (∀(o:Sl)(W:dp),gU (λz O=>dD (gJ (lU e)) O (lE O o W) (aT (W.length<=10) (aL (iO (lU e)) z E) (j5 z O E (fX (λY C=>qJ z C O Y 38 21 (iF e.2.1.enc)->∃(j:List dj),tH (cM C (bD (Jd e)) 38 21 j) (λy=>aA (cT 21 y) (kS C O (bD Y) 21 y) (aA (kH j y 280) (kC j y) (∀(s8:Sl),Gr (λG=>bV C G (bD (Jd e)) s8 38 21 (j++y)) (λG=>G) O (λG D=>aA (I1 D) (aG p) (aA dC eZ (aA gQ (eP 13) (aA (bM sc) fM (bG (eB e.1 D.1) (oQ 38 (eO (iG (pU e).op)
 (tF (pU e)) (qU (pU e) (uV (rZ (pU e)) o (pU e) (uY (pU e)) (mO (xN (pU e)) (xG s8)))))=sY D.2.1) (Av G O (wL D) (eK D.2)))))))))))))))))))))/\fX (λV z=>qJ (iO (lU e)) z (gJ (lU e)) V 38 21 (iF e.2.1.enc)->∃(E:Nat),kQ (λY t=>tI (λa b=>aA (bY cb::dW (Gf e) (fD (lU e).1)=bY E::dW Y (fD t)) (aI z (gJ (lU e)) E) (aA (Ints (gJ (lU e)) Y a) (Ints (gJ (lU e)) t b) (aA (iC a) (iC b) (∀(o:Sl)(W:dp),gU (λC O=>dD (gJ (lU e)) O (lE O o W) (aT (W.length<=10) (aL z C E) (j5 C O E (∃(j:List dj),tH (cM C (bD (Jd e)) 38 21 j) (λy=>aA (cT 21 y) (kS C O (bD V) 21 y)
 (aA (kH j y 280) (kC j y) (∀(s8:Sl),Gr (λG=>bV C G (bD (Jd e)) s8 38 21 (j++y)) (λG=>G) O (λG D=>aA (I1 D) (aG p) (aA dC eZ (aA gQ (eP 13) (aA (bM sc) fM (bG (eB e.1 D.1) (oQ 38 (eO (iG (pU e).op) (tF (pU e)) (qU (pU e) (uV (rZ (pU e)) o (pU e) (uY (pU e)) (mO (xN (pU e)) (xG s8)))))=sY D.2.1) (Av G O (wL D) (eK D.2))))))))))))))))))))))))))))))))))) (∃(I3:Int×QV×QV×Sl×Bool×MH×PH->Prop),cH (f.2.1==6) (∃(e:Int×QV×QV×Sl×Bool×MH×PH),DU (I3 e) cb p f (vW e) (aA (dQ f.2.1 e.1) (Ab (u7 e).1) (aA (bM sc) fM (aA (eB (nO f.2) (nO e)) (eB (oE f) (Ct e)) (aA (cW (pZ f.2) (u7 e).2)
 (iM f.2=iM e) True))))) (f.2.1==7) (∃(e:Int×QV×QV×Sl×Bool×MH×PH),DU (I3 e) cb p f (vW e) (aA (dQ f.2.1 e.1) (Ab (u7 e).1) (aA (bM sc) fM (aA (eB (nO f.2) (nO e)) (eB (oE f) (Ct e)) (aA (cW (pZ f.2) (u7 e).2) (iM f.2=iM e) True))))) (∃(e:Int×QV×QV×Sl×Bool×MH×PH),DU (I3 e) cb p f (vW e) (aA (dQ f.2.1 e.1) (iW (f.2.1==8) (u7 e).1) (aA (bM sc) fM (aA (eB (nO f.2) (nO e)) (eB (oE f) (Ct e)) (aA (cW (pZ f.2) (u7 e).2) (iM f.2=iM e) True)))))/\∀(e:Int×QV×QV×Sl×Bool×MH×PH),I3 e->cH (u7 e).1 (∃(A:Nat)(B:bW),kQ (λH F=>∃(v:QV),Cz (λJ L=>∃(P:dm)(M:Query),aA (bY cb::
 cV sc::fD p::dW (vW e) (dE (nO e))=bY A::cV B::fD H::dW F (dE v)) (aI (pZ e) (iM e) A) (aA (iP (iM e) J B) (rK J) (aA (nV J.tables.length) (Ints (iM e) H L) (aA (iC L) (Ints (iM e) F P) (aA (iC P) (bR (iM e) M v) (QW M/\Gv (λT q2=>gU (λu n=>dD (iM e) n (bR n q2 T) (aT (a5Q J L P M q2) (aL (pZ e) u A) (j5 u n A (fX (λR z=>qJ u z n R 38 21 (iF T.enc)->∃(j:List dj),tH (cM z (bD (Ct e).args) 38 21 j) (λy=>aA (cT 21 y) (kS z n (bD R) 21 y) (aA (kH j y 280) (kC j y) (∀(V:Sl),Gr (λC=>bV z C (bD (Ct e).args) V 38 21 (j++y)) (λC=>C) n (λC D=>aA (I1 D) (aG p) (aA
 dC eZ (aA gQ (eP 13) (aA (bM sc) fM (bG (eB (nO e) D.1) (oQ 38 (qQ (Ct e) (xG V))=sY D.2.1) (Av C n (wL D) (eK D.2)))))))))))))))))))))))) (e.1==9) (∃(A:Nat)(v:QV),Cx (λB F=>aA (bY cb::bJ (dE (Ct e)) (fD (vW e))=bY A::bJ (IA v v (a8 (kZ (mZ v)) (qZ (gV v)) (a8 (rA (gV v)) (kM (gV v)) (a8 (lZ (gV v)) (kZ (gV v)) (a8 (Fb v) (Fc v) (a8 (fF v.on) sJ (a8 sJ (fB v.limit) (aM v.args)))))))) (fD B)) (aI (pZ e) (iM e) A) (aA (Ints (iM e) B F) (iC F) (∀(g o:Sl)(P:Int)(g1:dm)(W:dr),gU (λu n=>dD (iM e) n (Ints n g g1) (aT (jU n o W) (g1.length<=F.length) (aT (W.length<=F.length) (cC P) (aT (P
 <=3) (aL (pZ e) u A) (aT (aI u n A) (vO u n) (∃(j:QV×QV×MH×PH),aA (I1 j) (aG p) (aA dC eZ (aA gQ (eP 13) (aA (bM sc) fM (bG (eB (nO e) j.1) (oQ 38 (eO (iG v.op) (tF v) (qU v (eO (rZ v) (xG v.on) (eO (xG g) (xG o) (mO (iG P) (xG v.args))))))=sY j.2.1) (Av u n (wL j) (eK j.2)))))))))))))))) (dJ e.1 10 (∃(A:Nat)(v:QV),Cx (λB F=>aA (bY cb::bJ (dE (Ct e)) (fD (vW e))=bY A::bJ (IA v v (a8 (kZ (mZ v)) (qZ (gV v)) (a8 (rA (gV v)) (kM (gV v)) (a8 (lZ (gV v)) (kZ (gV v)) (a8 (Fb v) (Fc v) (a8 (fF v.on) sJ (a8 sJ (fB v.limit) (aM v.args)))))))) (fD B)) (aI (pZ e) (iM e) A) (aA (Ints (iM e) B F) (iC F) (∀
 (g o:Sl)(P:Int)(g1:dm)(W:dr),gU (λu n=>dD (iM e) n (Ints n g g1) (aT (jU n o W) (g1.length<=F.length) (aT (W.length<=F.length) (cC P) (aT (P<=3) (aL (pZ e) u A) (j5 u n A (∃(E:Nat)(J:bW),kQ (λH k3=>∃(v1:QV),Cz (λR L=>∃(k4:dm)(M:Query),aA (bY cb::cV sc::fD p::dW (vW e) (dE (nO e))=bY E::cV J::fD H::dW k3 (dE v1)) (aI u n E) (aA (iP n R J) (rK R) (aA (nV R.tables.length) (Ints n H L) (aA (iC L) (Ints n k3 k4) (aA (iC k4) (bR n M v1) (QW M/\Gv (λT q2=>gU (λz U=>dD n U (bR U q2 T) (aT (a5Q R L k4 M q2) (aL u z E) (j5 z U E (fX (λV C=>qJ z C U V 38 21 (iF T.enc)->
 ∃(j:List dj),tH (cM C (bD v.args) 38 21 j) (λy=>aA (cT 21 y) (kS C U (bD V) 21 y) (aA (kH j y 280) (kC j y) (∀(Y:Sl),Gr (λG=>bV C G (bD v.args) Y 38 21 (j++y)) (λG=>G) U (λG D=>aA (I1 D) (aG p) (aA dC eZ (aA gQ (eP 13) (aA (bM sc) fM (bG (eB (nO e) D.1) (oQ 38 (eO (iG v.op) (tF v) (qU v (eO (rZ v) (xG v.on) (eO (xG g) (xG o) (mO (iG P) (xG Y))))))=sY D.2.1) (Av G U (wL D) (eK D.2))))))))))))))))))))))))))))))))) ((∃(A:Nat),AV (λB t E H Q=>aA (bY cb::fD (vW e)::bA (fD p) 2=bY A::fD B::bA (fD t) (↑Q:Int)) (aI (pZ e) (iM e) A) (aA (Ints (iM e) B E) (Ints (iM e) t H) (aA (iC E) (iC H) (nV
 Q/\Dq (λv L=>gU (λu n=>dD (iM e) n (eA n L v) (aT (Ap E H Q L) (aL (pZ e) u A) (j5 u n A (∀(J:Sl),Gr (λz=>qJ u z n J 38 21 (iF (nO e).enc)) (λz=>z) n (λz j=>aA (I1 j) (aG p) (aA dC eZ (aA gQ (eP 13) (aA (bM sc) fM (bG (eB (nO e) j.1) (oQ 38 (eO (iG 2) pX (pQ v (eO LV LV (eO LV LV (mO pX (xG J))))))=sY j.2.1) (Av z n (wL j) (eK j.2)))))))))))))))))/\fX (λB u=>qJ (pZ e) u (iM e) B 38 21 (iF (nO e).enc)->∃(A:Nat),AV (λJ t E H Q=>aA (bY cb::fD (vW e)::bA (fD p) 2=bY A::fD J::bA (fD t) (↑Q:Int)) (aI u (iM e) A) (aA (Ints (iM e) J E) (Ints (iM e) t H) (aA (iC E)
 (iC H) (nV Q/\Dq (λv L=>gU (λz n=>dD (iM e) n (eA n L v) (aT (Ap E H Q L) (aL u z A) (aT (aI z n A) (vO z n) (∃(j:QV×QV×MH×PH),aA (I1 j) (aG p) (aA dC eZ (aA gQ (eP 13) (aA (bM sc) fM (bG (eB (nO e) j.1) (oQ 38 (eO (iG 2) pX (pQ v (eO LV LV (eO LV LV (mO pX (xG B))))))=sY j.2.1) (Av z n (wL j) (eK j.2))))))))))))))))))))/\∀(f:QV×QV×MH×PH),I1 f->F8 (cV sc::dW p (dE f.2.1)) (eK f.2) (λB H M _ n=>fW (fR B H M).2 0 (K (dE f.1) (wL f) n) (K (dE f.2.1) (wL f) n)))))))))))))))))))
structure dK(m0 m:MH)(s:Sl)(E:TypeId)(sz:Nat)(xs:List dj):Prop where
 row:cM m s E sz xs
 fresh:∀b i,s.a=some ⟨b,i,none⟩->m0 b=none
def Kept(m0 m:MH)(cb:Nat):Prop:=∀b o,m0 b=some o->b≠cb->m b=some o
theorem Kept.of{m0:MH}(h:aL m0 m cb):Kept m0 m cb:=λb o e n=>by rw[h.other b n];exact e
theorem Kept.on{m0:MH}(k:Kept m0 m cb)(h:aL m m' cb):Kept m0 m' cb:=λb o e n=>by rw[h.other b n];exact k b o e n
theorem aI.blk(c:aI m h cb):∃cs,m cb=some (.cells cs 83 (0,0)):=by
 obtain⟨r,q,cs,k,d,_⟩:=c
 grind
theorem aI.keep(c:aI m h cb)(e:m' cb=m cb)(le:PH.le h h'):aI m' h' cb:=by
 obtain⟨r,q,d,k,j,f,g⟩:=c;exact⟨r,q,d,k,cg,f.mono le,g⟩
theorem Kept.free{m0:MH}(k:Kept m0 m cb)(c:aI m h cb)(d:m b=none):m0 b=none:=by
 cases e:m0 b with
 |none=>rfl
 |some o=>
  by_cases f:b=cb
  .obtain⟨g,j⟩:=c.blk
   grind
  .rw[k b o e f]at d;cases d
theorem cM.nil(m:MH)(E:TypeId)(sz:Nat):cM m cJ E sz []:=⟨⟨λ_ h=>by simp at h,λ_ h=>by simp at h⟩,.inl ⟨rfl,rfl⟩⟩
theorem dK.nil(m0 m:MH)(E:TypeId)(sz:Nat):dK m0 m cJ E sz []:=⟨cM.nil m E sz,λb i e=>by cases e⟩
theorem dK.on{m0:MH}{s:Sl}{E:TypeId}(r:dK m0 m s E sz xs)(o:aL m m' cb)(c:aI m h cb)(f:E≠83):dK m0 m' s E sz xs:=by
 refine⟨cM.keep r.row (λb i e=>o.other b (λg=>?_)),r.fresh⟩;obtain⟨d,j⟩:=cM.blk r.row e;obtain⟨n,u⟩:=c.blk
 grind
theorem dK.new{m0:MH}{s t:Sl}{E E':TypeId}{c:Nat}{f:List dj}(r:dK m0 m s E sz xs)(x:qJ m m' h t E' c f):dK m0 m' s E sz xs:=by
 refine⟨cM.keep r.row (λb i e=>x.other b (λj g=>?_)),r.fresh⟩;obtain⟨n,d⟩:=cM.blk r.row e;rw[(x.fresh b j g).m_]at d;cases d
theorem qJ.frow{m0:MH}{s:Sl}{E:TypeId}(x:qJ m m' h s E sz xs)(k:Kept m0 m cb)(c:aI m h cb):dK m0 m' s E sz xs:=⟨x.row,λb i e=>k.free c (x.fresh b i e).m_⟩
theorem qJ.at_cb{s:Sl}{E:TypeId}(x:qJ m m' h s E sz xs)(c:aI m h cb):m' cb=m cb:=x.other cb (λi e=>by
 obtain⟨f,d⟩:=c.blk;rw[(x.fresh cb i e).m_]at d;cases d)
theorem Kept.new{m0:MH}{s:Sl}{E:TypeId}(k:Kept m0 m cb)(x:qJ m m' h s E sz xs):Kept m0 m' cb:=λb o e n=>by
 rw[x.other b (λi c=>by have:=(x.fresh b i c).m_;rw[k b o e n]at this;cases this)];exact k b o e n
theorem dK.grown{m0:MH}{s f:Sl}{E:TypeId}{g:List dj}(r:dK m0 m s E sz xs)(x:bV m m' s f E sz g)(k:Kept m0 m cb)(c:aI m h cb):dK m0 m' f E sz g:=
 ⟨x.row,λb i e=>by
  rcases x.fresh b i e with d|⟨j,d⟩
  .exact k.free c d
  .exact r.fresh b j d⟩
theorem dK.apart{m0:MH}{s t g:Sl}{E E':TypeId}{c:Nat}{n o:List dj}(r:dK m0 m s E sz xs)(q:dK m0 m t E' c n)(x:bV m m' t g E' c o)(z:E≠E'):dK m0 m' s E sz xs:=by
 refine⟨cM.keep r.row (λb i e=>?_),r.fresh⟩;obtain⟨u,d⟩:=cM.blk r.row e;rw[d];refine x.other b _ d (λj y=>?_);obtain⟨f,A⟩:=cM.blk q.row y
 grind
theorem Kept.grown{m0:MH}{s c:Sl}{E:TypeId}{d:List dj}(k:Kept m0 m cb)(r:dK m0 m s E sz xs)(x:bV m m' s c E sz d):Kept m0 m' cb:=λb o e n=>x.other b o (k b o e n) (λi f=>by rw[r.fresh b i f]at e;cases e)
theorem bV.at_cb{m0:MH}{s d:Sl}{E:TypeId}{f:List dj}(x:bV m m' s d E sz f)(r:dK m0 m s E sz xs)(c:aI m h cb)(n:E≠83):m' cb=m cb:=by
 obtain⟨o,e⟩:=c.blk;rw[e];refine x.other cb _ e (λi g=>?_);obtain⟨j,u⟩:=cM.blk r.row g
 grind
theorem axJ{sz:Nat}:∀{xs:List dj},(∀e∈xs,e.length=sz)->xs.flatten.length=xs.length*sz
 |[],_=>by simp
 |x::xs,h=>by
  simp only[flatten_cons,length_append,length_cons];rw[axJ (λe c=>h e (by simp[c])),h x (by simp),Nat.add_mul];omega
theorem cM.src{s:Sl}{E:TypeId}{x:dj}(r:cM m s E sz (x::xs)):kS m h s sz (x::xs):=by
 rcases r.ex with⟨_,e⟩|⟨b,d,c,rfl,f,_,_,_,g⟩
 .cases e
 .exact .lent b 0 c E (0,0) rfl rfl f cg
def iQ(m0 m:MH):MH:=λb=>match m0 b with|some _=>m b|none=>none
def lB(m0 m:MH)(h:PH):PH:=λb i=>match m0 b,m b with|none,some (.cells c _ _)=>c[i]? |_,_=>h b i
theorem CC{m0 m:MH}{h:PH}(d:vO m h):PH.le h (lB m0 m h):=⟨λb i v e=>by
 unfold lB;split
 .rename_i f E g j c;rw[d.disj b _ c i]at e;cases e
 .exact e⟩
theorem afQ{m0:MH}(d:vO m h):Av m h (iQ m0 m) (lB m0 m h):=by
 refine⟨λb o e=>?_,CC d,λb i v e=>?_⟩
 .unfold iQ at e
  grind
 .unfold lB at e;split at e
  .rename_i c E f g j;exact .inr ⟨c,E,f,j,e,by unfold iQ;rw[g]⟩
  grind
theorem FT{p:Prop}(h:p:=by repeat' (first|with_reducible rfl|exact trivial|exact afQ (by assumption)|refine⟨?_,?_⟩|rfl)):p:=h
theorem dK.ice{m0 m:MH}{h:PH}{s:Sl}{E:TypeId}{sz:Nat}{xs:List dj}(r:dK m0 m s E sz xs):bN (lB m0 m h) s sz xs:=by
 rcases r.row.ex with⟨rfl,rfl⟩|⟨b,f,g,rfl,y,c,_,_,n⟩
 .exact bN.nil _ _
 .have z:=r.fresh b 0 rfl;refine⟨rfl,.inr ⟨b,0,rfl,λi e o=>⟨λj v u=>?_⟩⟩,c⟩;have d:=nI r.row.rows.len o j v u;rw[<-n,getElem?_take]at d;split at d
  .unfold lB
   grind
  .cases d
theorem keep_other{m0:MH}(k:Kept m0 m cb):aL m0 (iQ m0 m) cb:=⟨λb c=>by
 unfold iQ;cases e:m0 b with
 |none=>rfl
 |some o=>exact k b o e c⟩
theorem Kk{m0:MH}(c:aI m h cb)(e:m0 cb≠none)(d:vO m h):aI (iQ m0 m) (lB m0 m h) cb:=c.keep (by
 unfold iQ
 grind) (CC d)
def QA(d:Nat)(q:Query):Prop:=QW q/\Ts d q
structure QM(d:Nat)(m0 m:MH)(h:PH)(v:QV)(vs:eu):Prop where
 wher:∃w,eA h w v.where_/\EG w
 cols:∃co:dm,dK m0 m v.columns 3 1 (co.map eI)/\co.length<=1000
 on_:∃l,lE h v.on l
 group_:∃l,Ints h v.group l
 order_:∃l,jU h v.order l
 args_:dK m0 m v.args 38 21 (vs.map QV.enc)
 len_:vs.length<=2
 reps:∀v∈vs,∃q,bR h q v/\QA d q
theorem TY{d:Nat}{h:PH}:∀{vs:eu},(∀v∈vs,∃q,bR h q v/\QA d q)->∃qs:dt,qs.length=vs.length/\(∀q∈qs,QA d q)/\∀(i:Nat) q,qs[i]? =some q->∃v,vs[i]? =some v/\bR h q v
 |[],_=>⟨[],rfl,λq c=>by simp at c,λi q e=>by simp at e⟩
 |v::vs,f=>by
  obtain⟨q,c,g⟩:=f v bx;obtain⟨qs,j,o,y⟩:=TY (vs:=vs) (λu n=>f u (by simp[n]));refine⟨q::qs,by simp[j],λx z=>cg,λi x e=>?_⟩
  grind
theorem QM.ice{n:Nat}{m0:MH}{vs:eu}(x:QM n m0 m h v vs)(d:vO m h):∃q,bR (lB m0 m h) q v/\QW q/\BF (n+1) q:=by
 obtain⟨w,o,c⟩:=x.wher;obtain⟨co,u,y⟩:=x.cols;obtain⟨on,z⟩:=x.on_;obtain⟨gr,A⟩:=x.group_;obtain⟨od,f⟩:=x.order_;obtain⟨qs,B,j,C⟩:=TY x.reps;have le:=CC (m0:=m0) d;have D:=x.len_;exact⟨_,qD.rep ⟨rfl,rfl,o.mono le,⟨u.ice,aC⟩,z.mono le,A.mono le,f.mono le,rfl,⟨⟨vs,x.args_.ice,B,λi q e=>let⟨v,k1,k2⟩:=C i q e;⟨v,k1,k2.mono le⟩⟩,aC⟩⟩,Sn.2 ⟨c,λa g=>(j a g).1⟩,BF.node (λa g=>(j a g).2) aC⟩
theorem QM.on{n:Nat}{m0:MH}{vs:eu}(x:QM n m0 m h v vs)(o:aL m m' cb)(c:aI m h cb)(le:PH.le h h'):QM n m0 m' h' v vs:=by
 obtain⟨w,j,d⟩:=x.wher;obtain⟨co,u,f⟩:=x.cols;obtain⟨on,y⟩:=x.on_;obtain⟨gr,z⟩:=x.group_;obtain⟨od,g⟩:=x.order_;exact⟨⟨w,j.mono le,d⟩,⟨co,u.on o c bz,f⟩,⟨on,y.mono le⟩,⟨gr,z.mono le⟩,⟨od,g.mono le⟩,x.args_.on o c bz,x.len_,λv A=>let⟨q,e,ew⟩:=x.reps v A;⟨q,e.mono le,ew⟩⟩
theorem QM.new{d:Nat}{m0:MH}{vs:eu}{t:Sl}{E:TypeId}{j:List dj}(x:QM d m0 m h v vs)(n:qJ m m' h' t E sz j)(le:PH.le h h'):QM d m0 m' h' v vs:=by
 obtain⟨w,o,c⟩:=x.wher;obtain⟨co,u,f⟩:=x.cols;obtain⟨on,y⟩:=x.on_;obtain⟨gr,z⟩:=x.group_;obtain⟨od,g⟩:=x.order_;exact⟨⟨w,o.mono le,c⟩,⟨co,u.new n,f⟩,⟨on,y.mono le⟩,⟨gr,z.mono le⟩,⟨od,g.mono le⟩,x.args_.new n,x.len_,λv A=>let⟨q,e,ew⟩:=x.reps v A;⟨q,e.mono le,ew⟩⟩
theorem QM.grow{d:Nat}{m0:MH}{e:QV}{vs:eu}{j:Sl}{u:QV}(x:QM d m0 m h v vs)(g:bV m m' v.args j 38 21 (vs.map QV.enc++[u.enc]))(k:Kept m0 m cb)(c:aI m h cb)(F:∃q,bR h q u/\QA d q)(G:vs.length<=1)
 (o:e.where_=v.where_)(y:e.columns=v.columns)(z:∃l,lE h e.on l)(A:∃l,Ints h e.group l)(B:∃l,jU h e.order l)(C:e.args=j):QM d m0 m' h e (vs++[u]):=by
 obtain⟨co,D,f⟩:=x.cols;refine⟨by rw[o];exact x.wher,⟨co,by rw[y];exact D.apart x.args_ g bz,f⟩,z,A,B,by rw[C,cv];exact x.args_.grown g k c,ce,λv E=>?_⟩;rcases mem_append.1 E with n|n
 .exact x.reps v n
 grind
theorem YU(h:fA s=0):Eo s:=Classical.byContradiction λc=>by rw[xJ c]at h;cases h
theorem xI(h:fA s=0):rK s:=λt c=>by
 obtain⟨i,d⟩:=mem_iff_getElem?.1 c;have:=(YU h).2 i t d;exact this.1
theorem Hh(h:fA s=0):s.tables.length<=8:=(YU h).1
theorem Nr(s:oL)(ps:dm)(q:Query):(fR s ps q).1.length<=12:=by
 unfold fR;split
 .split
  .split
   .exact D6 s ps q
   .simp[hX]
  .simp[hX]
 .simp[hX]
theorem YV{t:Int}(c:fA s=0)(d:ps.all eM=true)(e:0<=t)(f:t<s.tables.length):(fR s ps (.mk 1 t gT [] [] [] [] 0 [])).2=0:=by
 have g:=xI c
 have u:(jS s t).length<=12:=by
  unfold jS;split
  .simp
  .split
   .simp
   .rename_i x j;have:=g x (cr j)
    grind
 have n:bZ s ps (.mk 1 t gT [] [] [] [] 0 [])=iE s ps (.mk 1 t gT [] [] [] [] 0 []) [] []:=by simp[bZ,fG,arity]
 have o:uQ (.mk 1 t gT [] [] [] [] 0 [])=true:=by rfl
 unfold fR;rw[if_pos c,if_pos d,if_pos o,n];unfold iE;rw[if_neg (by simp[arity,eT])];simp only[if_true];rw[if_pos ⟨e,f⟩];unfold xB
 grind
structure Mid(m0:MH)(h3:PH)(cb:Nat)(a q:QV)(mx:MH):Prop where
 case_:aI mx h3 cb
 kept:Kept m0 mx cb
 ex:∃o args,q=⟨o,0,hZ,cJ,cJ,cJ,cJ,0,args⟩/\dK m0 mx args 38 21 ([a].map QV.enc)
theorem Mid.qm{d:Nat}{m0 e:MH}{c:PH}{a q:QV}(x:Mid m0 c cb a q e)(j:∃f,bR c f a/\QA d f):QM d m0 e c q [a]:=by
 obtain⟨o,args,rfl,g⟩:=x.ex;exact⟨⟨_,FJ c,Dd⟩,⟨[],dK.nil _ _ _ _,bx⟩,⟨_,vE _⟩,⟨_,sB _⟩,⟨_,A4 _⟩,g,bx,λv n=>cg⟩
theorem Zq:∀N,di 10 (YG N)
 |0=>by
  refine eC (fn:=Tryz.f10) (c:=cL Tryz.f10) func10 rfl bz ?_;rintro d2 m h K ⟨cb,sc,p,s,ps,A,rfl,_,_,_,_,_,_,_,_,_,hN,_⟩;omega
 |N+1=>by
  refine gO func10 ?_;rintro d2 m h K ⟨cb,sc,p,s,ps,A,rfl,hc,hs,he,b1,hp,a0,a9,d0,d1,hN,hK⟩;refine⟨byQ N cb sc p,rfl,aD D9 (aD Qh (aD Qi (aD akZ (aD akX (aD akQ (aD Kt (aD (Zq N) aF))))))),Vw N cb sc p A m h K,bu,?_⟩;have f5:=hs.tables.slen;have h8:=xI he;have f6:=Hh he;have f7:0<s.tables.length:=length_pos_iff.2 b1;have d3:(if(sc.tables.len:Int)>1 then(sc.tables.len:Int)else 1)=(sc.tables.len:Int):=by omega
  have d4:m cb≠none:=by obtain⟨cs,e⟩:=hc.blk;grind
  dsimp only[Vw,push_cast];rw[d3];refine⟨cb,12,rfl,hc,λk m1 k0 k1 o1 c1=>?_⟩;refine aE (λhd=>?_) (λhd=>aB (λ_=>?_) (λ_=>aB (λ_=>?_) (λ_=>?_)))
  .exact⟨cb,_,rfl,c1,λH m2 b3 d5 o2 c2=>⟨H,rfl,hK _ _ m2 h (.refl _) (Bd h H) (Mc H) (BF.mono (d:=0) rJ.scan (Nat.zero_le _)) (YV he a9 b3 aC) (o1.trans o2) c2⟩⟩
  .exact⟨cb,_,rfl,c1,λH m2 b3 d5 o2 c2=>⟨H,rfl,hK _ _ m2 h (.refl _) (Bd h H) (Mc H) (BF.mono (d:=0) rJ.scan (Nat.zero_le _)) (YV he a9 b3 aC) (o1.trans o2) c2⟩⟩
  .grind
  have d6:IntKind.i64.wrap (A-1)=A-1:=dR aC aC;have d7:IntKind.i64.wrap (A-2)=A-2:=dR aC aC;rw[d6];refine⟨cb,sc,p,s,ps,A-1,rfl,c1,hs,he,b1,hp,a0,a9,aC,aC,aC,λa qa m2 h2 b4 ra b8 a3 d8 o2 c2=>⟨sc,p,a,s,ps,qa,rfl,hs.mono b4,hp.mono b4,ra,λkk h3 b5 ik=>?_⟩⟩;have d9:=Nr s ps qa;obtain⟨U,e'⟩:∃U,(A-1).toNat=U:=⟨_,rfl⟩
  have e0:A.toNat=U+1:=by omega
  rw[e']at a3;have V:QA U qa:=⟨b8,a3.arg⟩
  generalize e7:(fR s ps qa).fst=ks at ik d9;clear e7;have B:PH.le h h3:=b4.trans b5;have W:bR h3 qa a:=ra.mono b5;refine⟨λ⟨d,op,E,q,I,mx,J⟩=>d=A/\E=a/\I=kk/\J=h3/\Mid m h3 cb a q mx,λO m3 j=>⟨(A,IntKind.i64.wrap (1+k),a,⟨IntKind.i64.wrap (1+k),0,hZ,cJ,cJ,cJ,cJ,0,O⟩,kk,m3,h3),⟨rfl,rfl,rfl,rfl,?_⟩,MT⟩,?_⟩
  .have H:=(Kept.of o1).on o2;have c3:=c2.mono b5;exact⟨c3.keep (qJ.at_cb j c3) (.refl _),H.new j,_,_,rfl,qJ.frow j H c3⟩
  rintro⟨A,op,E,q,I,mx,J⟩ ⟨rfl,rfl,rfl,rfl,y⟩;dsimp only;have F:∀(q:QV)(vs:eu)(C:MH)(D:PH),PH.le J D->Kept m C cb->aI C D cb->QM U m C D q vs->vO C D->PH.le J (lB m C D)/\aL m (iQ m C) cb/\aI (iQ m C) (lB m C D) cb/\∃qq,bR (lB m C D) qq q/\QW qq/\BF (U+1) qq:=λq vs C D l k c x d=>⟨l.trans (CC d),keep_other k,Kk c d4 d,x.ice d⟩
  have join:∀(q:QV)(u:QV)(O:Sl)(C:MH)(D:PH)(Q:Sl->MH->Prop),PH.le J D->Kept m C cb->aI C D cb->QM U m C D q [E]->dK m C O 38 21 [u.enc]->(∃qu,bR D qu u/\QA U qu)->
   (∀L m',(∀q':QV,q'.where_=q.where_->q'.columns=q.columns->(∃l,lE D q'.on l)->(∃l,Ints D q'.group l)->(∃l,jU D q'.order l)->q'.args=L->QM U m m' D q' [E,u])->Kept m m' cb->aI m' D cb->Q L m')->
   ∃xs,cM C ⟨q.args.a,q.args.len,q.args.cap⟩ 38 21 xs/\∃ys,cT 21 ys/\kS C D ⟨O.a,O.len,O.cap⟩ 21 ys/\(xs.length+ys.length)*280<=140737488355328/\xs.length+ys.length<=140737488355328/\∀(L:Sl)(m':MH),bV C m' ⟨q.args.a,q.args.len,q.args.cap⟩ L 38 21 (xs++ys)->Q L m':=
   λq u O C D Q l k c x f hu hQ=>⟨_,x.args_.row,[u.enc],No [u],cM.src f.row,bx,bx,λL m' g=>hQ L m' (λq' e1 e2 e3 e4 e5 e6=>x.grow g k c hu bx e1 e2 e3 e4 e5 e6) (k.grown x.args_ g) (c.keep (bV.at_cb g x.args_ c bz) (.refl _))⟩
  refine⟨λ⟨X,q,C,D⟩=>X=E/\PH.le J D/\aL m C cb/\aI C D cb/\∃qq,bR D qq q/\QW qq/\BF (U+1) qq,aB (λ_=>?_) (λ_=>?_),?_⟩
  ·
   refine⟨cb,3,rfl,y.case_,λn m3 n0 n1 o3 c3=>?_⟩;refine⟨λ⟨X,q,H,n,C,D⟩=>X=E/\H=I/\D=J/\ -1<=n/\n<=2/\aI C J cb/\Kept m C cb/\QM U m C J q [E]/\∃co:dm,dK m C q.columns 3 1 (co.map eI)/\(co.length:Int)<=2-n,λ⟨_,_,_,n,_,_⟩=>(n+1).toNat,⟨(E,q,I,n,m3,J),⟨rfl,rfl,rfl,aC,aC,c3,y.kept.on o3,(y.qm ⟨qa,W,V⟩).on o3 y.case_ (.refl _),[],?_,cg⟩,MT⟩,?_⟩
   .obtain⟨o,args,rfl,hf⟩:=y.ex;exact dK.nil _ _ _ _
   clear y q c3 o3 m3 n0 n1 n;rintro⟨X,q,H,n,C,D⟩ ⟨rfl,rfl,rfl,n0,n1,cy,ky,qm,co,b9,f4⟩;dsimp only;refine aE (λhn=>⟨cb,_,rfl,cy,λc m4 _ _ o4 c4=>⟨_,(b9.on o4 cy bz).row,cg,cg,λL Y g=>?_⟩⟩) (λhn d=>⟨(X,q,iQ m C,lB m C D),⟨rfl,F q _ C D (.refl _) ky cy qm d⟩,FT⟩);have P:=b9.on o4 cy bz;have q4:=qm.on o4 cy (.refl _);have k4:=ky.on o4;have a4:dK m Y L 3 1 ((co++[c]).map eI):=by rw[cv];exact P.grown g k4 c4
   have e8:IntKind.i64.wrap (n-1)=n-1:=dR aC aC;rw[e8];refine⟨(X,{q with columns:=L},H,n-1,Y,D),⟨rfl,rfl,rfl,cg,cg,c4.keep (bV.at_cb g P c4 bz) (.refl _),k4.grown P g,⟨q4.wher,⟨_,a4,cg⟩,q4.on_,q4.group_,q4.order_,q4.args_.apart P g bz,q4.len_,q4.reps⟩,_,a4,cg⟩,cg,MT⟩
  .refine⟨λ⟨d,op,X,q,H,t,C,D⟩=>d=A/\X=E/\H=I/\D=J/\Mid m J cb E q C,aB (λ_=>⟨(A,op,E,q,I,true,mx,J),⟨rfl,rfl,rfl,rfl,y⟩,MT⟩) (λ_=>⟨(A,op,E,q,I,op==5,mx,J),⟨rfl,rfl,rfl,rfl,y⟩,MT⟩),?_⟩;clear y q mx;rintro⟨A,op,E,q,I,t,mx,J⟩ ⟨rfl,rfl,rfl,rfl,y⟩;dsimp only;refine aB (λ_=>?_) (λ_=>?_)
   ·
    rw[d7];refine⟨cb,sc,p,s,ps,A-2,rfl,y.case_,hs.mono B,he,b1,hp.mono B,a0,a9,aC,aC,aC,λb qb Y R z rb c' e9 _ o5 Z=>⟨sc,p,b,s,ps,qb,rfl,hs.mono (B.trans z),hp.mono (B.trans z),rb,λl h6 M il=>?_⟩⟩;have c0:QA U qb:=⟨c',(e9.mono aC).arg⟩
    have f':=Nr s ps qb;generalize f8:(fR s ps qb).fst=ls at il f';have S:QM U m Y h6 q [E]:=(y.qm ⟨qa,W,V⟩).on o5 y.case_ (z.trans M);have k6:=y.kept.on o5;have T:=Z.mono M;refine⟨λ⟨X,b2,q,H,l2,C,D⟩=>X=E/\b2=b/\H=I/\l2=l/\D=h6/\aI C h6 cb/\Kept m C cb/\QM U m C h6 q [E],aB (λ_=>aE (λ_=>⟨(E,b,{q with op:=5},I,l,Y,h6),⟨rfl,rfl,rfl,rfl,rfl,T,k6,⟨S.wher,S.cols,S.on_,S.group_,S.order_,S.args_,S.len_,S.reps⟩⟩,MT⟩) (λ_=>⟨(E,b,q,I,l,Y,h6),⟨rfl,rfl,rfl,rfl,rfl,T,k6,S⟩,MT⟩)) (λ_=>⟨(E,b,q,I,l,Y,h6),⟨rfl,rfl,rfl,rfl,rfl,T,k6,S⟩,MT⟩),?_⟩;have d':=rb.mono M;have a1:PH.le J h6:=z.trans M;clear S k6 T o5 Z rb z y q;rintro⟨X,b,q,H,l,C,h6⟩ ⟨rfl,rfl,rfl,rfl,rfl,T,k6,S⟩;dsimp only;refine⟨⟨cb,H,l,ks,ls,rfl,T,ik.mono a1,il,aC,aC,λo on m7 h7 G b6 _ o7 c7 O m8 j=>?_⟩,λO m7 j=>⟨cb,H,l,ks,ls,rfl,T.keep (qJ.at_cb j T) (.refl _),ik.mono a1,il,aC,aC,λo on m8 h7 G b6 _ o8 c8=>?_⟩⟩
    .have k7:=k6.on o7;refine join q b O m8 h7 _ (a1.trans G) (k7.new j) (c7.keep (qJ.at_cb j c7) (.refl _)) ((S.on o7 T G).new j (.refl _)) (qJ.frow j k7 c7) ⟨qb,d'.mono G,c0⟩ (λL m9 hq k9 c9 d=>?_);exact⟨(X,{q with on:=o,args:=L},iQ m m9,lB m m9 h7),⟨rfl,F _ _ m9 h7 (a1.trans G) k9 c9 (hq {q with on:=o,args:=L} rfl rfl ⟨on,b6⟩ (let⟨l,e⟩:=S.group_;⟨l,e.mono G⟩) (let⟨l,e⟩:=S.order_;⟨l,e.mono G⟩) rfl) d⟩,FT⟩
    .have k7:=k6.new j;have c7:aI m7 h6 cb:=T.keep (qJ.at_cb j T) (.refl _);have k8:=k7.on o8;refine join q b O m8 h7 _ (a1.trans G) k8 c8 ((S.new j (.refl _)).on o8 c7 G) ((qJ.frow j k6 T).on o8 c7 bz) ⟨qb,d'.mono G,c0⟩ (λL m9 hq k9 c9 d=>?_);exact⟨(X,{q with on:=o,args:=L},iQ m m9,lB m m9 h7),⟨rfl,F _ _ m9 h7 (a1.trans G) k9 c9 (hq {q with on:=o,args:=L} rfl rfl ⟨on,b6⟩ (let⟨l,e⟩:=S.group_;⟨l,e.mono G⟩) (let⟨l,e⟩:=S.order_;⟨l,e.mono G⟩) rfl) d⟩,FT⟩
   .refine⟨λ⟨op,X,q,H,t,C,D⟩=>X=E/\H=I/\D=J/\Mid m J cb E q C,aB (λ_=>⟨(op,E,q,I,true,mx,J),⟨rfl,rfl,rfl,y⟩,MT⟩) (λ_=>aB (λ_=>⟨(op,E,q,I,true,mx,J),⟨rfl,rfl,rfl,y⟩,MT⟩) (λ_=>⟨(op,E,q,I,op==8,mx,J),⟨rfl,rfl,rfl,y⟩,MT⟩)),?_⟩;clear y q mx;rintro⟨op,E,q,I,t,mx,J⟩ ⟨rfl,rfl,rfl,y⟩;dsimp only;have q3:=y.qm ⟨qa,W,V⟩;refine aB (λ_=>?_) (λ_=>aB (λ_=>?_) (λ_=>aB (λ_=>?_) (λ_=>?_)))
    ·
     refine⟨cb,sc,p,I,E,s,ps,ks,qa,rfl,y.case_,hs.mono B,h8,aC,hp.mono B,a0,ik,aC,W,V.1,λw qw Y R z f0 a5 o5 Z O m6 j=>?_⟩;have k5:=y.kept.on o5;refine join q w O m6 R _ z (k5.new j) (Z.keep (qJ.at_cb j Z) (.refl _)) ((q3.on o5 y.case_ z).new j (.refl _)) (qJ.frow j k5 Z) ⟨qw,f0,a5.qw,a5.siz U a3⟩ (λL m9 hq k9 c9 d=>?_);have q5:=q3.on o5 y.case_ z;exact⟨(E,{q with args:=L},iQ m m9,lB m m9 R),⟨rfl,F _ _ m9 R z k9 c9 (hq {q with args:=L} rfl rfl q5.on_ q5.group_ q5.order_ rfl) d⟩,FT⟩
    ·
     obtain⟨o,args,rfl,hf⟩:=y.ex;refine⟨cb,⟨o,0,hZ,cJ,cJ,cJ,cJ,0,args⟩,I,ks,rfl,y.case_,ik,aC,λg od kk gr b' Y R z hg b0 _ _ _ _ o5 Z d=>?_⟩;have q5:=q3.on o5 y.case_ z;exact⟨(E,⟨o,0,hZ,cJ,cJ,g,od,kk,args⟩,iQ m Y,lB m Y R),⟨rfl,F _ [E] Y R z (y.kept.on o5) Z ⟨q5.wher,q5.cols,q5.on_,⟨gr,hg⟩,⟨b',b0⟩,q5.args_,q5.len_,q5.reps⟩ d⟩,FT⟩
    ·
     obtain⟨o,args,rfl,hf⟩:=y.ex;refine⟨cb,⟨o,0,hZ,cJ,cJ,cJ,cJ,0,args⟩,I,ks,rfl,y.case_,ik,aC,λg od kk gr b' Y R z hg b0 _ _ _ _ o5 Z=>?_⟩;have q5:=q3.on o5 y.case_ z;have f1:QM U m Y R ⟨o,0,hZ,cJ,cJ,g,od,kk,args⟩ [E]:=⟨q5.wher,q5.cols,q5.on_,⟨gr,hg⟩,⟨b',b0⟩,q5.args_,q5.len_,q5.reps⟩
     refine⟨cb,sc,p,I,E,s,ps,ks,qa,rfl,Z,hs.mono (B.trans z),h8,aC,hp.mono (B.trans z),a0,ik.mono z,aC,W.mono z,V.1,λw qw m6 h6 M f2 a5 o6 T O m7 j=>?_⟩;have k6:=(y.kept.on o5).on o6;refine join ⟨o,0,hZ,cJ,cJ,g,od,kk,args⟩ w O m7 h6 _ (z.trans M) (k6.new j) (T.keep (qJ.at_cb j T) (.refl _)) ((f1.on o6 Z M).new j (.refl _)) (qJ.frow j k6 T) ⟨qw,f2,a5.qw,a5.siz U a3⟩ (λL m9 hq k9 c9 d=>?_);exact⟨(E,⟨o,0,hZ,cJ,cJ,g,od,kk,L⟩,iQ m m9,lB m m9 h6),⟨rfl,F _ _ m9 h6 (z.trans M) k9 c9 (hq ⟨o,0,hZ,cJ,cJ,g,od,kk,L⟩ rfl rfl ⟨_,vE _⟩ ⟨gr,hg.mono M⟩ ⟨b',b0.mono M⟩ rfl) d⟩,FT⟩
    ·
     refine⟨⟨cb,I,p,ks,ps,2,rfl,y.case_,ik,hp.mono B,aC,a0,aC,λpv pp Y R z rp b7 o5 Z O m6 j d=>?_⟩,λO Y j=>⟨cb,I,p,ks,ps,2,rfl,y.case_.keep (qJ.at_cb j y.case_) (.refl _),ik,hp.mono B,aC,a0,aC,λpv pp m6 R z rp b7 o6 T d=>?_⟩⟩
     .have k5:=y.kept.on o5;exact⟨(E,⟨2,0,pv,cJ,cJ,cJ,cJ,0,O⟩,iQ m m6,lB m m6 R),⟨rfl,F _ [E] m6 R z (k5.new j) (Z.keep (qJ.at_cb j Z) (.refl _)) ⟨⟨pp,rp,b7.vals⟩,⟨[],dK.nil _ _ _ _,bx⟩,⟨_,vE _⟩,⟨_,sB _⟩,⟨_,A4 _⟩,qJ.frow j k5 Z,bx,λv hv=>by simp at hv;subst hv;exact⟨qa,W.mono z,V⟩⟩ d⟩,FT⟩
     .have k5:=y.kept.new j;have Z:aI Y J cb:=y.case_.keep (qJ.at_cb j y.case_) (.refl _);exact⟨(E,⟨2,0,pv,cJ,cJ,cJ,cJ,0,O⟩,iQ m m6,lB m m6 R),⟨rfl,F _ [E] m6 R z (k5.on o6) T ⟨⟨pp,rp,b7.vals⟩,⟨[],dK.nil _ _ _ _,bx⟩,⟨_,vE _⟩,⟨_,sB _⟩,⟨_,A4 _⟩,(qJ.frow j y.kept y.case_).on o6 Z bz,bx,λv hv=>by simp at hv;subst hv;exact⟨qa,W.mono z,V⟩⟩ d⟩,FT⟩
  .rintro⟨X,q,C,D⟩ ⟨rfl,a6,oy,cy,qq,rq,f3,f9⟩;dsimp only;refine⟨sc,p,q,s,ps,qq,rfl,hs.mono (B.trans a6),hp.mono (B.trans a6),rq,λsl R z _=>aB (λe=>?_) (λe=>?_)⟩
   .exact hK X qa C R ((B.trans a6).trans z) ((W.mono a6).mono z) V.1 (by rw[e0];exact a3.mono aC) d8 oy (cy.mono z)
   .exact hK q qq C R ((B.trans a6).trans z) (rq.mono z) f3 cg (cm e) oy (cy.mono z)
mutual
def L0(st:List dl):Query->dl
 |.mk op ta w co on gr od li args=>if op=1 then st.getD ta.toNat []else Uf op (.mk op ta w co on gr od li args) (TS st args)
def TS(st:List dl):dt->List dl
 |[]=>[]
 |q::qs=>L0 st q::TS st qs
end
structure FI(st ls:List dl)(k:Nat)(ts:dm):Prop where
 at_:∀(j:Nat)(t:Int),ts[j]? =some t->ls.getD (k+j) []=st.getD t.toNat []
theorem FI.left{st ls:List dl}{k:Nat}{b:dm}(x:FI st ls k (a++b)):FI st ls k a:=
 ⟨λj t h=>x.at_ j t cg⟩
theorem FI.right{st ls:List dl}{k:Nat}{b:dm}(x:FI st ls k (a++b)):FI st ls (k+a.length) b:=
 ⟨λj t h=>by
  have:=x.at_ (a.length+j) t cg
  grind⟩
theorem PL{args:dt}{c:List dm}(d:fG s ps args=(c,0))(e:(c.length:Int)=arity 1):args=[]:=by
 cases args with
 |nil=>rfl
 |cons q qs=>obtain⟨_,_,_,_,rfl⟩:=nF d;simp[arity]at e;omega
mutual
theorem RG{s:oL}{ps:dm}{st ls:List dl}:∀{q:Query}{ks:dm}{k:Nat},bZ s ps q=(ks,0)->FI st ls k (eE q)->eD ls q k=(L0 st q,k+(eE q).length)
 |.mk op ta w co on gr od li args,ks,k,h,c=>by
  obtain⟨g,f,j,o⟩:=Bu h;by_cases e:op=1
  .subst e;have n:=PL f j;subst n;have d:eE (.mk 1 ta w co on gr od li [])=[ta]:=by simp[eE,dV]
   rw[d]at c⊢
   have:=c.at_ 0 ta rfl;rw[Nat.add_zero]at this;rw[eD,L0,if_pos rfl,if_pos rfl,this];rfl
  .have d:eE (.mk op ta w co on gr od li args)=dV args:=by simp[eE,e]
   rw[d]at c⊢
   rw[eD,L0,if_neg e,if_neg e,OF f c]
theorem OF{s:oL}{ps:dm}{st ls:List dl}:∀{qs:dt}{c:List dm}{k:Nat},fG s ps qs=(c,0)->FI st ls k (dV qs)->eG ls qs k=(TS st qs,k+(dV qs).length)
 |[],c,k,h,_=>by simp[eG,TS,dV]
 |q::qs,c,k,h,d=>by
  obtain⟨j,e,f,g,rfl⟩:=nF h;rw[dV]at d;rw[eG,TS,dV,RG f d.left,OF g d.right,ct,Nat.add_assoc]
end
mutual
theorem H4{s:oL}{ps:dm}:∀{q:Query}{ks:dm},bZ s ps q=(ks,0)->∀t∈eE q,0<=t/\t<s.tables.length
 |.mk op ta w co on gr od li args,ks,h,t,f=>by
  obtain⟨g,j,n,c⟩:=Bu h;rw[eE]at f;rcases mem_append.1 f with d|d
  .split at d
   .rename_i e;subst e;simp only[mem_singleton]at d;subst d;unfold iE at c;dsimp only at c;split at c
    .simp[hX]at c
    try rw[if_pos rfl]at c
    split at c
    .omega
    .simp[hX]at c
   .simp at d
  .exact PI j t d
theorem PI{s:oL}{ps:dm}:∀{qs:dt}{d:List dm},fG s ps qs=(d,0)->∀t∈dV qs,0<=t/\t<s.tables.length
 |[],d,h,t,c=>by rw[dV]at c;simp at c
 |q::qs,d,h,t,c=>by
  obtain⟨j,e,f,g,rfl⟩:=nF h;rw[dV]at c;rcases mem_append.1 c with c|c
  .exact H4 f t c
  .exact PI g t c
end
def tK(key:Int)(k:Int)(i:Nat)(v:VV):Bool:=jP v&&(v.kind==k||((v.kind==2||v.kind==1)&&decide (key<=(i:Int))))
def Ai(t:zN)(r:dn):Bool:=decide (r.length=t.columns.length)&&(List.range r.length).all λi=>tK t.key (t.columns.getD i ⟨⟨#[]⟩,0⟩).kind i (r.getD i zeroV)
def mA(t:zN)(r:dn):dn:=r.take (max 0 (min t.key r.length)).toNat
def PA(t:zN)(l:dl):Prop:=(∀r∈l,Ai t r=true)/\∀(i:Nat) r c,l[i]? =some r->l[i+1]? =some c->eJ (mA t r) (mA t c)<0
def Hc(s:oL)(st:List dl):Prop:=∀(i:Nat) t l,s.tables[i]? =some t->st[i]? =some l->PA t l
open Classical in
noncomputable def mY(s:oL)(st:List dl):Int:=
 if fA s≠0 then fA s else if 512<(st.map λl=>(l.length:Int)).sum then 2 else if st.length≠s.tables.length then 80 else if Hc s st then 0 else 80
def V7(st:List dl):Prop:=∀l∈st,∀r∈l,∀v∈r,nL v.kind/\nL v.int
def Bh(t:zN)(key row:dn):Bool->dl->dl
 |d,[]=>if d then[]else[row]
 |d,r::l=>(if 0<=eJ (mA t r) key/\d=false then[row]else[])++((if eJ (mA t r) key≠0 then[r]else[])++Bh t key row (d||decide (0<=eJ (mA t r) key)) l)
def Pr(t:zN)(l:dl):Prop:=l.Pairwise λx y=>eJ (mA t x) (mA t y)<0
theorem JF{x y z:dn}(c:eJ x y<0)(d:eJ y z<0):eJ x z<0:=by
 have:=xT x y z aC aC;rcases Int.lt_or_eq_of_le this with h|h
 .exact h
 .rw[i7]at h;subst h;have:=lJ x y;omega
theorem Ns{t:zN}{key row:dn}:∀{l:dl},(∀r∈l,0<eJ (mA t r) key)->Bh t key row true l=l
 |[],_=>rfl
 |r::l,h=>by
  have d:=h r (mem_cons_self ..);rw[Bh,if_neg bx,if_pos aC,Bool.true_or,Ns λx c=>h x (mem_cons_of_mem _ c)];rfl
theorem Md{t:zN}{key row z:dn}:∀{l:dl}{d:Bool},z∈Bh t key row d l->z=row\/z∈l
 |[],d,h=>by
  rw[Bh]at h
  grind
 |r::l,d,h=>by
  rw[Bh]at h;rcases mem_append.1 h with h|h
  .grind
  .rcases mem_append.1 h with h|h
   .grind
   .exact(Md h).imp id λh=>mem_cons_of_mem _ h
theorem Me{t:zN}{key row:dn}:∀{l:dl}{d:Bool},(Bh t key row d l).length<=l.length+(if d then 0 else 1)
 |[],d=>by rw[Bh];grind
 |r::l,d=>by
  have:=Me (t:=t) (key:=key) (row:=row) (l:=l) (d:=d||decide (0<=eJ (mA t r) key));rw[Bh]
  grind
theorem Nt{t:zN}{row:dn}:∀{l:dl},Pr t l->Pr t (Bh t (mA t row) row false l)
 |[],_=>by rw[Bh];exact pairwise_singleton _ _
 |r::l,h=>by
  obtain⟨f,n⟩:=pairwise_cons.1 h;rw[Bh];by_cases g:0<=eJ (mA t r) (mA t row)
  .rw[if_pos ⟨g,rfl⟩,show(false||decide (0<=eJ (mA t r) (mA t row)))=true by simp[g]];by_cases j:eJ (mA t r) (mA t row)=0
   .rw[if_neg (by simp[j])];have e:=i7.1 j
    rw[Ns λx c=>by
     have d:=f x c;rw[e]at d;have:=lJ (mA t x) (mA t row);omega]
    exact pairwise_cons.2 ⟨λx c=>by rw[<-e];exact f x c,n⟩
   .rw[if_pos j];have d:eJ (mA t row) (mA t r)<0:=by have:=lJ (mA t row) (mA t r);omega
    rw[Ns λx c=>by
     have o:=JF d (f x c);have:=lJ (mA t x) (mA t row);omega]
    refine pairwise_cons.2 ⟨λx c=>?_,h⟩;rcases mem_cons.1 c with rfl|c
    .exact d
    .exact JF d (f x c)
  .rw[if_neg (by simp[g]),if_pos aC,show(false||decide (0<=eJ (mA t r) (mA t row)))=false by simp[g]];refine pairwise_cons.2 ⟨λx c=>?_,Nt n⟩;rcases Md c with rfl|c
   .omega
   grind
theorem Nf{st:List dl}(h:mY s st=0):fA s=0/\st.length=s.tables.length/\Hc s st/\(st.map λl=>(l.length:Int)).sum<=512:=by
 unfold mY at h
 grind
theorem aFX{t:zN}{x y:dn}(h:x.length=y.length):(mA t x).length=(mA t y).length:=by simp[mA,h]
theorem a1X{t:zN}{x y:dn}(h:x.length=y.length)(c:eJ (mA t x) (mA t y)<0):eJ x y<0:=by
 have d:x=mA t x++x.drop (max 0 (min t.key x.length)).toNat:=(take_append_drop _ _).symm;have e:y=mA t y++y.drop (max 0 (min t.key y.length)).toNat:=(take_append_drop _ _).symm;rw[d,e,JG (aFX h),if_pos aC];exact c
theorem Pr.of{t:zN}:∀{l:dl},(∀(i:Nat) r r',l[i]? =some r->l[i+1]? =some r'->eJ (mA t r) (mA t r')<0)->Pr t l
 |[],_=>List.Pairwise.nil
 |[_],_=>pairwise_singleton _ _
 |a::b::l,h=>by
  have d:Pr t (b::l):=Pr.of λi r r' f g=>h (i+1) r r' f g;refine pairwise_cons.2 ⟨λx c=>?_,d⟩;have e:=h 0 a b rfl rfl;rcases mem_cons.1 c with rfl|c
  .exact e
  .exact JF e ((pairwise_cons.1 d).1 x c)
theorem Pr.adj{t:zN}{l:dl}(h:Pr t l)(i:Nat)(r r':dn)(c:l[i]? =some r)(d:l[i+1]? =some r'):eJ (mA t r) (mA t r')<0:=by
 obtain⟨e,rfl⟩:=List.getElem?_eq_some_iff.1 c;obtain⟨f,rfl⟩:=List.getElem?_eq_some_iff.1 d;exact pairwise_iff_getElem.1 h i (i+1) e f aC
theorem TG{t:ByteArray}(h:t.toList=(⟨#[]⟩:ByteArray).toList):t.size<=64:=by rw[xU h];decide
theorem Hn{t:ByteArray}(h:Cr t=true):t.size<=64:=TG (by simp only[Cr,beq_iff_eq]at h;rw[h,ByteArray.toList_eq])
theorem Lj{v:VV}(h:jP v=true):v.text.size<=64:=by
 unfold jP at h;split at h
 .simp only[cz]at h;exact Hn h.2
 .split at h
  .simp only[cz]at h;exact Hn h.2
  .split at h
   .exact Hn h
   grind
theorem pJ(h:(fR s ps q).2=0):fA s=0/\ps.all eM=true/\uQ q=true/\(bZ s ps q).2=0:=by
 unfold fR at h;split at h
 .rename_i c;split at h
  .rename_i d;split at h
   .grind
   .simp[hX]at h
  .simp[hX]at h
 .rename_i c;simp[hX]at h;omega
theorem Lk{v:VV}(h:jP v=true):1<=v.kind/\v.kind<=5/\v.text.size<=64:=by
 refine⟨?_,?_,Lj h⟩
 all_goals
  unfold jP at h;split at h
  .rename_i e;simp at e;omega
  .split at h
   .rename_i e;simp at e;omega
   .split at h
    .rename_i e;simp at e;omega
    .split at h
     .rename_i e;simp at e;omega
     .cases h
theorem GA{t:zN}{r:dn}(h:Ai t r=true):r.length=t.columns.length/\∀v∈r,jP v=true:=by
 simp only[Ai,cz,dc,all_eq_true,mem_range]at h;refine⟨h.1,λv e=>?_⟩;obtain⟨i,c,rfl⟩:=mem_iff_getElem.1 e;have d:=h.2 i c;simp only[tK,cz,getD_eq_getElem?_getD,cq c,Option.getD_some]at d;exact d.1
theorem bfX{t:zN}{l:dl}(u:t.columns.length<=12)(c:PA t l)(g:∀r∈l,∀v∈r,nL v.kind/\nL v.int)(j:l.length<=8000000):jG t.columns.length l:=by
 have n:∀r∈l,r.length=t.columns.length:=λr d=>(GA (c.1 r d)).1;refine⟨λr d=>⟨cg,λv e=>?_⟩,n,?_,j⟩
 .have o:=(GA (c.1 r d)).2 v e;have f:=g r d v e;exact⟨f.1,f.2,(Lk o).2.2⟩
 .exact(Pr.of c.2).imp_of_mem fun{x y} e z h=>a1X cg h
def mM(st:List dl)(q:Query):List dl:=(eE q).map λt=>st.getD t.toNat []
theorem awZ{st:List dl}{t:Int}(c:mY s st=0)(n:V7 st)(o:0<=t)(D:t<s.tables.length):jG (jS s t).length (st.getD t.toNat [])/\st.getD t.toNat []∈st:=by
 obtain⟨u,E,y,F⟩:=Nf c;have f:t.toNat<s.tables.length:=by omega
 have g:t.toNat<st.length:=by omega
 have j:s.tables[t.toNat]? =some s.tables[t.toNat]:=cq f;have z:st[t.toNat]? =some st[t.toNat]:=cq g;have A:st.getD t.toNat []=st[t.toNat]:=cg
 have d:st[t.toNat]∈st:=getElem_mem g;have G:=xI u _ (getElem_mem f);have B:(jS s t).length=s.tables[t.toNat].columns.length:=by rw[jS,if_neg aC,j];simp
 have e:∀{l:List dl}{x},x∈l->((x.length:Nat):Int)<=(l.map λl=>(l.length:Int)).sum:=fun{l x}=>by
  induction l with
  |nil=>grind
  |cons a l C=>
   intro h
   have o:∀l:List dl,0<=(l.map λl=>(l.length:Int)).sum:=λl=>by
    induction l with
    |nil=>simp
    |cons a l C=>grind
   grind
 have:=e d;rw[A,B];exact⟨bfX aC (y _ _ _ j z) (n _ d) aC,d⟩
theorem axQ{st:List dl}{ks:dm}{c:Nat}(d:mY s st=0)(o:V7 st)(A:∀l∈st,l.length<=c)(u:1<=c)(e:bZ s ps q=(ks,0))(g:mI c q<=8000000):
 Wo (mM st q) q 0/\(eD (mM st q) q 0).1=L0 st q/\jG ks.length (L0 st q)/\(L0 st q).length<=8000000:=by
 have z:∀(j:Nat)(t:Int),(eE q)[j]? =some t->(mM st q)[0+j]? =some (st.getD t.toNat []):=λj t h=>by rw[Nat.zero_add,mM,getElem?_map,h];rfl
 have x:=Fw u (ls:=mM st q) (k:=0) e ⟨λj t h=>⟨_,z j t h,by
  have n:=H4 e t (cr h);have:=awZ d o n.1 n.2
  grind⟩⟩ g
 have y:=RG (st:=st) (ls:=mM st q) (k:=0) e ⟨λj t h=>cg⟩;have f:(eD (mM st q) q 0).1=L0 st q:=by rw[y]
 refine⟨x.ok,f,by rw[<-f];exact x.rel,?_⟩;rw[<-f];exact dg x.bnd g
def O9(q:Query):Prop:=
 match q with
 |.mk op _ _ _ _ _ _ _ args=>(args.length:Int)=arity op/\∀a∈args,O9 a
 termination_by SizeOf.sizeOf q
theorem CX{op:Int}{on:dp}{args:dt}:
 O9 (.mk op ta w co on gr od li args)↔(args.length:Int)=arity op/\∀a∈args,O9 a:=by rw[O9.eq_def]
theorem a2J(op:Int):arity op<=2:=by
 unfold arity;omega
theorem J4:∀(n:Nat){l:eh},l.Nodup->(∀x∈l,x<n)->l.length<=n
 |0,l,_,h=>by
  cases l with
  |nil=>simp
  |cons x l=>have:=h x bx;omega
 |n+1,l,c,h=>by
  by_cases d:n∈l
  .have f:=length_erase_of_mem d
   have g:=J4 n (c.erase n) (λx e=>by
    grind)
   omega
  .have:=J4 n c (λx e=>by
    grind)
   omega
theorem UA{α:Type}{T:List α->α->Prop}{l:List α}{f:α->Int}{n:Nat}(h:Good T l)(e:∀c x,T c x->0<=f x/\f x<n)(o:∀c x,T c x->∀y∈c,f y≠f x):l.length<=n:=by
 have u:(l.map λx=>(f x).toNat).Nodup:=by
  rw[nodup_iff_pairwise_ne,pairwise_iff_getElem];intro i j d g z;simp only[length_map]at d g;simp only[getElem_map];have D:=h i l[i] (cq d);have A:=h j l[j] (cq g);have:=o _ _ A l[i] (mem_take_iff_getElem.2 ⟨i,aC,rfl⟩)
  grind
 have:=J4 n u (λx B=>by
  obtain⟨y,C,rfl⟩:=mem_map.1 B;obtain⟨i,d⟩:=mem_iff_getElem?.1 C;have:=e _ _ (h i y d);omega)
 grind
mutual
def a3J:Pred->Prop
 |.mk _ _ l r args=>l.value.text.size<=64/\r.value.text.size<=64/\Te args
def Te:dx->Prop
 |[]=>True
 |p::ps=>a3J p/\Te ps
end
theorem Uc(o:OV)(h:o.value.text.size<=64):(bhZ o).length<=200:=by
 have e:=Bj [o.kind,o.index];have f:=Bj [o.value.kind];have g:=Bj [(o.value.text.size:Int)];have c:=Bj [o.value.int];have d:L1 [o.value.int]=lP o.value.int++[32]:=by unfold L1;grind
 rw[d]at c;have j:o.value.text.data.toList.length=o.value.text.size:=by rw[Array.length_toList];rfl
 simp only[bhZ,bDX,ct,de,length_nil]at*
 omega
mutual
theorem JZ:∀p:Pred,a3J p->((Ew p).length:Int)<=1000*PB p
 |.mk op c l r args,h=>by
  obtain⟨d,e,f⟩:=h;have g:=Uc l d;have j:=Uc r e;have n:=Nw args f;have o:=Bj [op,c];have u:=Bj [(args.length:Int)];simp only[Ew,PB,ct,de,length_nil]at*
  omega
theorem Nw:∀ps:dx,Te ps->((De ps).length:Int)<=1000*BD ps
 |[],_=>by simp[De,BD]
 |p::ps,h=>by
  have:=JZ p h.1;have:=Nw ps h.2;simp only[De,BD,ct];omega
end
theorem VA{v:VV}(h:Tv v zeroV=true):v.text.size<=64:=by
 simp only[Tv,cz,beq_iff_eq]at h;exact TG h.2.2.1
theorem Js{o:OV}(h:Yn o dL=true):o.value.text.size<=64:=by
 simp only[Yn,cz,beq_iff_eq]at h;exact VA h.2.2.1
theorem LP{o:OV}(h:pC l o≠0):o.value.text.size<=64:=by
 unfold pC at h;split at h
 .omega
 .rename_i c;simp only[Bool.or_eq_true,not_or,Bool.not_eq_true',Bool.not_eq_false]at c;exact VA c.2
theorem LC{cols params:dm}{o:OV}(h:kindOf cols params o≠0):o.value.text.size<=64:=by
 unfold kindOf at h;split at h
 .split at h
  .omega
  .rename_i c;simp only[Bool.or_eq_true,not_or,Bool.not_eq_true',Bool.not_eq_false,jF,cz]at c;exact Lj c.2.1
 .split at h
  .exact LP h
  .split at h
   .exact LP h
   omega
mutual
theorem Ll{cols params:dm}:∀p:Pred,jA cols params p=true->a3J p
 |.mk op c l r args,h=>by
  unfold jA at h;split at h
  .simp only[cz,EW,beq_iff_eq]at h;have:args=[]:=eq_nil_of_length_eq_zero h.2;subst this;exact⟨Js h.1.1.2,Js h.1.2,trivial⟩
  .split at h
   .simp only[cz,beq_iff_eq,bne_iff_ne,ne_eq,dc]at h;have:args=[]:=eq_nil_of_length_eq_zero h.1.1.1.1;subst this;exact⟨LC h.1.2,LC (cols:=cols) (params:=params) aC,trivial⟩
   .split at h
    .simp only[cz,EW]at h;exact⟨Js h.1.1.2,Js h.1.2,HT args h.2⟩
    .cases h
theorem HT{cols params:dm}:∀ps:dx,vP cols params ps=true->Te ps
 |[],_=>trivial
 |p::ps,h=>by
  simp only[vP,cz]at h;exact⟨Ll p h.1,HT ps h.2⟩
end
theorem aAQ{cols params:dm}(h:iL cols params p=0):(Ew p).length<=1000000000:=by
 unfold iL at h;split at h
 .cases h
 .split at h
  .cases h
  .rename_i c;split at h
   .cases h
   .rename_i e;have d:jA cols params p=true:=cg
    have f:=JZ p (Ll p d);simp only[Bool.or_eq_true,not_or,dc]at c;have g:=FR p 0 aC;omega
theorem auJ:(Ew gT).length<=1000000000:=by
 have:=JZ gT ⟨bz,bz,trivial⟩;have e:PB gT=1:=rfl;omega
theorem D5{s:oL}{ps:dm}:∀(qs:dt),∀k∈(fG s ps qs).1,k.length<=12
 |[],k,h=>by simp[fG]at h
 |q::qs,k,h=>by
  simp only[fG]at h;split at h
  .split at h
   .simp only[mem_cons]at h;rcases h with rfl|h
    .exact D6 s ps q
    .exact D5 qs k h
   .simp at h
  .simp at h
theorem UC(h:∀k∈ks,k.length<=12)(j:Nat):(ks.getD j []).length<=12:=by
 grind
theorem G4{s:oL}{ps:dm}:∀{qs:dt}{ks:List dm},fG s ps qs=(ks,0)->ks.length=qs.length/\∀q∈qs,(bZ s ps q).2=0
 |[],ks,h=>by simp[fG]at h;subst h;simp
 |q::qs,ks,h=>by
  simp only[fG]at h;split at h
  .rename_i d;split at h
   .rename_i c;have e:fG s ps qs=((fG s ps qs).1,0):=Prod.ext rfl c;obtain⟨f,g⟩:=G4 e
    grind
   grind
  grind
theorem wY{op:Int}{on:dp}{args:dt}(h:(bZ s ps (.mk op ta w co on gr od li args)).2=0):
 (∀a∈args,(bZ s ps a).2=0)/\(args.length:Int)=arity op/\∃a b,a.length<=12/\b.length<=12/\(iE s ps (.mk op ta w co on gr od li args) a b).2=0:=by
 simp only[bZ]at h;split at h
 .rename_i c;have e:fG s ps args=((fG s ps args).1,0):=Prod.ext rfl c;obtain⟨f,d⟩:=G4 e;split at h
  .rename_i g;refine⟨d,aC,_,_,?_,?_,h⟩
   .exact UC (D5 args) 0
   .exact UC (D5 args) 1
  .simp[hX]at h
 .rename_i c;simp[hX]at h;omega
theorem aCX{op:Int}{on:dp}{args:dt}{b:dm}(I:a.length<=12)(h:(iE s ps (.mk op ta w co on gr od li args) a b).2=0):
 baQ ⟨op,ta,w,co,on,gr,od,li,0,0⟩:=by
 unfold iE at h;dsimp only at h;split at h
 .simp[hX]at h
 .rename_i j;rw[not_or]at j;have z:eT (.mk op ta w co on gr od li args):=Classical.not_not.1 j.2;obtain⟨_,A,B,C,D⟩:=z
  have E:∀l:dm,(xB l).2=0->l.length<=12:=λl e=>by
   unfold xB at e
   grind
  have F:(Ew w).length<=1000000000:=by
   rcases A with rfl|rfl
   .simp only[show¬((2:Int)=1)by decide,if_false,if_true]at h;split at h
    .rename_i e;exact aAQ e
    .rename_i e;simp[hX]at h;omega
   .exact auJ
  have G:co.length<=1000000000:=by
   rcases B with rfl|rfl
   .simp only[show¬((3:Int)=1)by decide,show¬((3:Int)=2)by decide,if_false,if_true]at h;split at h
    .grind
    .simp[hX]at h
   .simp
  have H:on.length<=1000000000:=by
   have d:Good (Au a b) on->on.length<=1000000000:=λg=>by
    have:=UA (f:=λp=>p.1) (n:=a.length) g (λc x t=>by have:=t.1;rw[kV]at this;exact this) (λc x t y o=>(t.2.2.2 y o).1);omega
   rcases C with rfl|rfl|rfl
   .simp only[show¬((4:Int)=1)by decide,show¬((4:Int)=2)by decide,show¬((4:Int)=3)by decide,if_false,if_true]at h;split at h
    .grind
    .simp[hX]at h
   .simp only[show¬((5:Int)=1)by decide,show¬((5:Int)=2)by decide,show¬((5:Int)=3)by decide,show¬((5:Int)=4)by decide,if_false,if_true]at h;split at h
    .grind
    .simp[hX]at h
   .simp
  have u:gr.length<=1000000000/\od.length<=1000000000:=by
   have d:vB a gr od li->gr.length<=1000000000/\od.length<=1000000000:=λr=>by
    have:=UA (f:=λp=>p) (n:=a.length) r.group_ (λc x t=>by have:=t.1;rw[kV]at this;exact this) (λc x t y o e=>t.2 cg);have:=r.len_;omega
   rcases D with rfl|rfl|⟨rfl,rfl,_⟩
   .simp only[show¬((9:Int)=1)by decide,show¬((9:Int)=2)by decide,show¬((9:Int)=3)by decide,show¬((9:Int)=4)by decide,show¬((9:Int)=5)by decide,if_false,if_true]at h;split at h
    .grind
    .simp[hX]at h
   .simp only[show¬((10:Int)=1)by decide,show¬((10:Int)=2)by decide,show¬((10:Int)=3)by decide,show¬((10:Int)=4)by decide,show¬((10:Int)=5)by decide,show¬((10:Int)=9)by decide,if_false,if_true]at h;split at h
    .grind
    .simp[hX]at h
   .simp
  exact⟨F,G,H,u.1,u.2⟩
theorem A6{s:oL}{ps:dm}:∀q:Query,(bZ s ps q).2=0->HJ q/\O9 q
 |.mk op ta w co on gr od li args,h=>by
  obtain⟨d,e,a,b,f,_,g⟩:=wY h;rw[azX,CX];exact⟨⟨aCX f g,λq c=>(A6 q (d q c)).1⟩,e,λq c=>(A6 q (d q c)).2⟩
structure a7J(o:OV):Prop where
 kind_:nL o.kind
 index_:nL o.index
 vkind_:nL o.value.kind
 int_:nL o.value.int
 text_:o.value.text.size<=64
mutual
def RV:Pred->Prop
 |.mk op c l r args=>nL op/\nL c/\a7J l/\a7J r/\args.length<=8000000/\YH args
def YH:dx->Prop
 |[]=>True
 |p::ps=>RV p/\YH ps
end
theorem kO{n:Int}(c: -8000000<=n)(d:n<=8000000):nL n:=⟨aC,aC⟩
theorem xE:nL 0:=⟨bz,bz⟩
theorem sM:a7J dL:=⟨xE,xE,xE,xE,bz⟩
theorem arX{v:VV}(h:Tv v zeroV=true):v=zeroV:=Eh.1 h
theorem VP{o:OV}(h:pC l o≠0)(f:l.length<=8000000)(d:nL o.kind):a7J o:=by
 unfold pC at h;split at h
 .omega
 .rename_i c;simp only[Bool.or_eq_true,not_or,Bool.not_eq_true',Bool.not_eq_false,dc]at c;have e:=arX c.2;refine⟨d,kO aC aC,?_,?_,?_⟩
  all_goals rw[e]
  .exact sM.vkind_
  .exact sM.int_
  .exact sM.text_
theorem aaQ{t:ByteArray}(h:t.toList=(⟨#[]⟩:ByteArray).toList):t.size<=64:=by rw[xU h];decide
theorem NH{t:ByteArray}(h:Cr t=true):t.size<=64:=aaQ (by simp only[Cr,beq_iff_eq]at h;rw[h,ByteArray.toList_eq])
theorem Wa{v:VV}(h:jP v=true):v.text.size<=64:=by
 unfold jP at h;split at h
 .simp only[cz]at h;exact NH h.2
 .split at h
  .simp only[cz]at h;exact NH h.2
  .split at h
   .exact NH h
   .split at h
    .simp at h;omega
    .cases h
theorem Uo{cols params:dm}{o:OV}(h:kindOf cols params o≠0)(g:cols.length<=8000000)(j:params.length<=8000000)(n:nL o.value.int):a7J o:=by
 unfold kindOf at h;split at h
 .rename_i d;have d:o.kind=3:=cg
  split at h
  .omega
  .rename_i f;simp only[Bool.or_eq_true,not_or,Bool.not_eq_true',Bool.not_eq_false,bne_iff_ne,ne_eq,Classical.not_not,jF,cz,dc]at f;refine⟨kO aC aC,kO aC aC,?_,n,Wa f.2.1⟩;have c:=f.2.1;unfold jP at c;split at c
   .grind
   .split at c
    .rename_i e;simp at e;exact kO aC aC
    .split at c
     .rename_i e;simp at e;exact kO aC aC
     .split at c
      .rename_i e;simp at e;exact kO aC aC
      .cases c
 .split at h
  .rename_i d;simp at d;exact VP h j (kO aC aC)
  .split at h
   .rename_i d;simp at d;exact VP h g (kO aC aC)
   omega
theorem ES:∀ps:dx,(ps.length:Int)<=BD ps
 |[]=>by simp[BD]
 |p::ps=>by
  have:=ES ps;have:1<=PB p:=by cases p;rename_i a;have:=ES a;simp only[PB];omega
  simp only[BD,de];omega
theorem bfZ(p:Pred):1<=PB p:=by cases p;rename_i a;have:=ES a;simp only[PB];omega
mutual
def sZ:Pred->Prop
 |.mk _ _ l r args=>nL l.value.int/\nL r.value.int/\HK args
def HK:dx->Prop
 |[]=>True
 |p::ps=>sZ p/\HK ps
end
theorem pP:∀{l:dx},HK l↔∀p∈l,sZ p
 |[]=>by simp[HK]
 |p::ps=>by simp[HK,pP (l:=ps)]
def QN(q:Query):Prop:=
 match q with
 |.mk _ _ w _ _ _ _ _ args=>sZ w/\∀a∈args,QN a
 termination_by SizeOf.sizeOf q
theorem Hk{op:Int}{on:dp}{args:dt}:
 QN (.mk op ta w co on gr od li args)↔sZ w/\∀a∈args,QN a:=by rw[QN.eq_def]
mutual
theorem EG.num:∀{p:Pred},EG p->sZ p
 |.mk ..,h=>⟨h.1.int_,h.2.1.int_,Er.num h.2.2⟩
theorem Er.num:∀{l:dx},Er l->HK l
 |[],_=>trivial
 |_::_,h=>⟨EG.num h.1,Er.num h.2⟩
end
theorem QW.num:∀{q:Query},QW q->QN q
 |.mk op ta w co on gr od li args,h=>by
  rw[Sn]at h;rw[Hk];exact⟨h.1.num,λa c=>QW.num (h.2 a c)⟩
 termination_by q=>SizeOf.sizeOf q
 decreasing_by
  have:=sizeOf_lt_of_mem c;simp only[Query.mk.sizeOf_spec];omega
mutual
theorem TE{cols params:dm}(c:cols.length<=8000000)(d:params.length<=8000000):∀p:Pred,jA cols params p=true->sZ p->PB p<=1000->RV p
 |.mk op n l r args,h,w,o=>by
  have u:=ES args;simp only[PB]at o;unfold jA at h;split at h
  .rename_i e;simp only[cz,EW,beq_iff_eq]at h;have:args=[]:=eq_nil_of_length_eq_zero h.2;subst this;have f:=w8.1 h.1.1.2;have g:=w8.1 h.1.2;subst f g;have j:op=1\/op=2:=cm e
   exact⟨kO aC aC,by rw[h.1.1.1];exact xE,sM,sM,bx,trivial⟩
  .split at h
   .rename_i e;simp only[cz,beq_iff_eq,bne_iff_ne,ne_eq,dc]at h;have:args=[]:=eq_nil_of_length_eq_zero h.1.1.1.1;subst this;have j:op=3:=cm e
    exact⟨kO aC aC,kO aC aC,Uo h.1.2 c d w.1,Uo (cols:=cols) (params:=params) aC c d w.2.1,bx,trivial⟩
   .split at h
    .rename_i e;simp only[cz,EW,beq_iff_eq]at h;have f:=w8.1 h.1.1.2;have g:=w8.1 h.1.2;subst f g
     have j:op=4\/op=5\/op=6:=by
      grind
     exact⟨kO aC aC,by rw[h.1.1.1];exact xE,sM,sM,aC,Pz c d args h.2 w.2.2 aC⟩
    .cases h
theorem Pz{cols params:dm}(c:cols.length<=8000000)(d:params.length<=8000000):∀ps:dx,vP cols params ps=true->HK ps->BD ps<=1000->YH ps
 |[],_,_,_=>trivial
 |p::ps,h,w,e=>by
  simp only[vP,cz]at h;have f:=bfZ p;have g:=ES ps;simp only[BD]at e;exact⟨TE c d p h.1 w.1 aC,Pz c d ps h.2 w.2 aC⟩
end
theorem bLX{cols params:dm}(h:iL cols params p=0)(c:cols.length<=8000000)(d:params.length<=8000000)(w:sZ p):RV p:=by
 unfold iL at h;split at h
 .cases h
 .split at h
  .cases h
  .rename_i e;split at h
   .cases h
   .rename_i g;have f:jA cols params p=true:=cg
    simp only[Bool.or_eq_true,not_or,dc]at e;have j:=FR p 0 aC
    have:PB p<=24:=by
     omega
    exact TE c d p f w aC
theorem bIJ:RV gT:=⟨xE,xE,sM,sM,bz,trivial⟩
def a8Z:Query->Prop
 |.mk _ _ w co on gr od _ _=>RV w/\(∀n∈co,nL n)/\(∀p∈on,nL p.1/\nL p.2)/\(∀n∈gr,nL n)/\∀p∈od,nL p.1
def QI(q:Query):Prop:=
 match q with
 |.mk op ta w co on gr od li args=>a8Z (.mk op ta w co on gr od li [])/\∀a∈args,QI a
 termination_by SizeOf.sizeOf q
theorem azZ{op:Int}{on:dp}{args:dt}:
 QI (.mk op ta w co on gr od li args)↔a8Z (.mk op ta w co on gr od li [])/\∀a∈args,QI a:=by rw[QI.eq_def]
theorem Gz{α:Type}{T:List α->α->Prop}{l:List α}{P:α->Prop}(h:Good T l)(d:∀c x,T c x->P x):∀x∈l,P x:=λx e=>by
 obtain⟨j,f⟩:=mem_iff_getElem?.1 e;exact d _ _ (h j x f)
theorem Uw{n:Int}(c:l.length<=1000)(h:HQ l n=true):nL n:=by
 have:=kV.1 h;exact kO aC aC
theorem bMQ{s:oL}{ps:dm}{op ta:Int}{w:Pred}{co:dm}{on:dp}{gr:dm}{od:dr}{li:Int}{args:dt}{a b:dm}(G:a.length<=12)(H:b.length<=12)(o:ps.length<=1000)(u:sZ w)(h:(iE s ps (.mk op ta w co on gr od li args) a b).2=0):
 a8Z (.mk op ta w co on gr od li []):=by
 unfold iE at h;dsimp only at h;split at h
 .simp[hX]at h
 .rename_i f;rw[not_or]at f;have y:eT (.mk op ta w co on gr od li args):=Classical.not_not.1 f.2;obtain⟨_,z,A,B,C⟩:=y
  have D:RV w:=by
   rcases z with rfl|rfl
   .simp only[show¬((2:Int)=1)by decide,if_false,if_true]at h;split at h
    .rename_i e;exact bLX e aC aC u
    .rename_i e;simp[hX]at h;omega
   .exact bIJ
  have E:∀n∈co,nL n:=by
   rcases A with rfl|rfl
   .simp only[show¬((3:Int)=1)by decide,show¬((3:Int)=2)by decide,if_false,if_true]at h;split at h
    .rename_i e;exact Gz e.2 λc x t=>Uw aC t
    .simp[hX]at h
   grind
  have F:∀p∈on,nL p.1/\nL p.2:=by
   have d:Good (Au a b) on->∀p∈on,nL p.1/\nL p.2:=λg=>Gz g λc x t=>⟨Uw aC t.1,Uw aC t.2.1⟩
   rcases B with rfl|rfl|rfl
   .simp only[show¬((4:Int)=1)by decide,show¬((4:Int)=2)by decide,show¬((4:Int)=3)by decide,if_false,if_true]at h;split at h
    .grind
    .simp[hX]at h
   .simp only[show¬((5:Int)=1)by decide,show¬((5:Int)=2)by decide,show¬((5:Int)=3)by decide,show¬((5:Int)=4)by decide,if_false,if_true]at h;split at h
    .grind
    .simp[hX]at h
   grind
  have j:(∀n∈gr,nL n)/\∀p∈od,nL p.1:=by
   have d:vB a gr od li->(∀n∈gr,nL n)/\∀p∈od,nL p.1:=λr=>⟨Gz r.group_ λc x t=>Uw aC t.1,Gz r.order_ λc x t=>Uw aC t⟩
   rcases C with rfl|rfl|⟨rfl,rfl,_⟩
   .simp only[show¬((9:Int)=1)by decide,show¬((9:Int)=2)by decide,show¬((9:Int)=3)by decide,show¬((9:Int)=4)by decide,show¬((9:Int)=5)by decide,if_false,if_true]at h;split at h
    .grind
    .simp[hX]at h
   .simp only[show¬((10:Int)=1)by decide,show¬((10:Int)=2)by decide,show¬((10:Int)=3)by decide,show¬((10:Int)=4)by decide,show¬((10:Int)=5)by decide,show¬((10:Int)=9)by decide,if_false,if_true]at h;split at h
    .grind
    .simp[hX]at h
   grind
  exact⟨D,E,F,j.1,j.2⟩
theorem Y7{s:oL}{ps:dm}(c:ps.length<=1000):∀q:Query,(bZ s ps q).2=0->QN q->QI q
 |.mk op ta w co on gr od li args,h,d=>by
  obtain⟨f,o,a,b,g,j,n⟩:=wY h;rw[Hk]at d;rw[azZ];exact⟨bMQ g j c d.1 n,λq e=>Y7 c q (f q e) (d.2 q e)⟩
theorem bAX{d:Nat}{op:Int}{on:dp}{args:dt}(n:(bZ s [] (.mk op ta w co on gr od li args)).2=0)(g:mI (d+1) (.mk op ta w co on gr od li args)<=8000000){a:Query}(f:a∈args):mI (d+1) a<=8000000:=by
 obtain⟨o,j,u,_⟩:=Bu (Prod.ext rfl n);have y:=OO (c:=d+1) aC j a f;rw[mI]at g;split at g
 .rename_i e;subst e;rw[PL j u]at f;cases f
 grind
theorem Wp(s:oL)(ps:dm)(op ta:Int)(w:Pred)(co:dm)(on:dp)(gr:dm)(od:dr)(li:Int)(args:dt)(a b:dm):iE s ps (.mk op ta w co on gr od li args) a b=iE s ps (.mk op ta w co on gr od li []) a b:=by
 unfold iE;rfl
theorem Un{op:Int}{on:dp}{args:dt}(h:(bZ s [] (.mk op ta w co on gr od li args)).2=0):
 bZ s [] (.mk op ta w co on gr od li args)=iE s [] (.mk op ta w co on gr od li []) ((args.map λq=>(bZ s [] q).1).getD 0 []) ((args.map λq=>(bZ s [] q).1).getD 1 []):=by
 obtain⟨c,f,_⟩:=wY h
 have e:fG s [] args=(args.map (λq=>(bZ s [] q).1),0):=Bt (by
  rw[map_map];exact map_congr_left λq d=>Prod.ext rfl (c q d))
 simp only[bZ,e,if_true];rw[if_pos cg,Wp]
theorem yY(h:(xB l).2=0):(xB l).1=l:=by
 unfold xB at h⊢
 grind
variable{cN:Nat}
structure rI(cN:Nat)(s:oL)(q:Query):Prop where
 kinds:(bZ s [] q).2=0
 ints:QI q
 bnd:mI (cN+1) q<=8000000
theorem rI.arg{op:Int}{on:dp}{args:dt}(g:rI cN s (.mk op ta w co on gr od li args)){a:Query}(c:a∈args):rI cN s a:=
 ⟨(wY g.kinds).1 a c,(azZ.1 g.ints).2 a c,bAX g.kinds g.bnd c⟩
variable{cN:Nat}
def b1X(s:oL)(op ta:Int)(co a b:dm):dm:=if op=1 then jS s ta else if op=3 then co.map (λc=>a.getD c.toNat 0)else if op=4 then a++b else a
structure a8X(s:oL)(op ta:Int)(co:dm)(on:dp)(gr:dm)(od:dr)(li:Int)(a b:dm)(r:dm):Prop where
 out:r=b1X s op ta co a b
 len:r.length<=12
 tab:op=1->0<=ta/\ta<s.tables.length
 proj:op=3->co≠[]/\Good (λ_ c=>HQ a c=true) co
 pair:op=4\/op=5->Good (Au a b) on
 rank:op=9\/op=10->vB a gr od li
 same:op=6\/op=7\/op=8\/op=10->a=b
theorem qM(h:(xB l).2=0):l.length<=12:=by
 unfold xB at h
 grind
theorem aCZ{op:Int}{on:dp}{args:dt}{b:dm}(h:(iE s [] (.mk op ta w co on gr od li args) a b).2=0):
 a8X s op ta co on gr od li a b (iE s [] (.mk op ta w co on gr od li args) a b).1/\1<=op/\op<=10:=by
 unfold iE at h⊢
 by_cases d:arity op<0\/¬eT (.mk op ta w co on gr od li args)
 .rw[if_pos d]at h;simp[hX]at h
 rw[if_neg d]at h⊢
 rw[not_or]at d;have f:=d.1
 have e:op=1\/op=2\/op=3\/op=9\/op=4\/op=5\/op=6\/op=7\/op=8\/op=10:=by
  unfold arity at f
  grind
 refine⟨?_,aC,aC⟩;dsimp only at h⊢
 rcases e with rfl|rfl|rfl|rfl|rfl|rfl|rfl|rfl|rfl|rfl
 .simp only[if_true]at h⊢
  split at h
  .rename_i c;rw[if_pos c];rw[yY h];exact⟨rfl,qM h,λ_=>c,bx,bx,bx,bx⟩
  .simp[hX]at h
 .simp only[show¬((2:Int)=1)by decide,if_true,if_false]at h⊢
  split at h
  .rename_i c;rw[if_pos c];rw[yY h];exact⟨rfl,qM h,bx,bx,bx,bx,bx⟩
  .rename_i c;simp[hX]at h;omega
 .simp only[show¬((3:Int)=1)by decide,show¬((3:Int)=2)by decide,if_true,if_false]at h⊢
  split at h
  .rename_i c;rw[if_pos c];rw[yY h];exact⟨rfl,qM h,bx,λ_=>c,bx,bx,bx⟩
  .simp[hX]at h
 .simp only[show¬((9:Int)=1)by decide,show¬((9:Int)=2)by decide,show¬((9:Int)=3)by decide,show¬((9:Int)=4)by decide,show¬((9:Int)=5)by decide,if_true,if_false]at h⊢
  split at h
  .rename_i c;rw[if_pos c];rw[yY h];exact⟨rfl,qM h,bx,bx,bx,λ_=>c,bx⟩
  .simp[hX]at h
 .simp only[show¬((4:Int)=1)by decide,show¬((4:Int)=2)by decide,show¬((4:Int)=3)by decide,if_true,if_false]at h⊢
  split at h
  .rename_i c;rw[if_pos c];rw[yY h];exact⟨rfl,qM h,bx,bx,λ_=>c,bx,bx⟩
  .simp[hX]at h
 .simp only[show¬((5:Int)=1)by decide,show¬((5:Int)=2)by decide,show¬((5:Int)=3)by decide,show¬((5:Int)=4)by decide,if_true,if_false]at h⊢
  split at h
  .rename_i c;rw[if_pos c];rw[yY h];exact⟨rfl,qM h,bx,bx,λ_=>c,bx,bx⟩
  .simp[hX]at h
 .simp only[show¬((6:Int)=1)by decide,show¬((6:Int)=2)by decide,show¬((6:Int)=3)by decide,show¬((6:Int)=4)by decide,show¬((6:Int)=5)by decide,show¬((6:Int)=9)by decide,show¬((6:Int)=10)by decide,if_true,if_false]at h⊢
  split at h
  .rename_i c;rw[if_pos c];rw[yY h];exact⟨rfl,qM h,bx,bx,bx,bx,λ_=>c⟩
  .simp[hX]at h
 .simp only[show¬((7:Int)=1)by decide,show¬((7:Int)=2)by decide,show¬((7:Int)=3)by decide,show¬((7:Int)=4)by decide,show¬((7:Int)=5)by decide,show¬((7:Int)=9)by decide,show¬((7:Int)=10)by decide,if_true,if_false]at h⊢
  split at h
  .rename_i c;rw[if_pos c];rw[yY h];exact⟨rfl,qM h,bx,bx,bx,bx,λ_=>c⟩
  .simp[hX]at h
 .simp only[show¬((8:Int)=1)by decide,show¬((8:Int)=2)by decide,show¬((8:Int)=3)by decide,show¬((8:Int)=4)by decide,show¬((8:Int)=5)by decide,show¬((8:Int)=9)by decide,show¬((8:Int)=10)by decide,if_true,if_false]at h⊢
  split at h
  .rename_i c;rw[if_pos c];rw[yY h];exact⟨rfl,qM h,bx,bx,bx,bx,λ_=>c⟩
  .simp[hX]at h
 .simp only[show¬((10:Int)=1)by decide,show¬((10:Int)=2)by decide,show¬((10:Int)=3)by decide,show¬((10:Int)=4)by decide,show¬((10:Int)=5)by decide,show¬((10:Int)=9)by decide,if_true,if_false]at h⊢
  split at h
  .rename_i c;rw[if_pos c];rw[yY h];exact⟨rfl,qM h,bx,bx,bx,λ_=>c.2,λ_=>c.1⟩
  .simp[hX]at h
theorem rI.k(g:rI cN s q):bZ s [] q=((bZ s [] q).1,0):=Prod.ext rfl g.kinds
theorem rI.node{op:Int}{on:dp}{args:dt}(g:rI cN s (.mk op ta w co on gr od li args)):
 a8X s op ta co on gr od li ((args.map λq=>(bZ s [] q).1).getD 0 []) ((args.map λq=>(bZ s [] q).1).getD 1 []) (bZ s [] (.mk op ta w co on gr od li args)).1/\(1<=op/\op<=10)/\(args.length:Int)=arity op/\∀a∈args,rI cN s a:=by
 have c:=Un g.kinds;have h:=g.kinds;rw[c]at h;have:=aCZ h;rw[<-c]at this;exact⟨this.1,this.2,(wY g.kinds).2.1,λa d=>g.arg d⟩
variable{cN:Nat}
variable{cN:Nat}
def VT(s:Sl):CV:=.val (.agg ⟨[.slice s.a s.len s.cap]⟩)
def bFZ:Vc.Spec:=λc m h K=>∃v s,c=[aS v,cI 3]/\iP h s v/\K (cI (fA s)) m h
def mC(st:List dl):Int:=(st.map λl=>(l.length:Int)).sum
def ZY:Vc.Spec:=λc m h K=>∃s d,c=[VT s]/\Leaves h s d/\d.length<=1000/\K (cI (mC d)) m h
def SK(s:oL)(t:Int)(r:dn):Bool:=tJ s t&&(match s.tables[t.toNat]? with|some c=>Ai c r|none=>false)
def Kj(s:oL)(t:Int)(r:dn):dn:=match(if tJ s t then s.tables[t.toNat]? else none)with|some c=>mA c r|none=>[]
def bGQ:Vc.Spec:=λc m h K=>∃v s t d r,c=[aS v,cI t,cS d,cI 3]/\iP h s v/\bI h d r/\K (cB (SK s t r)) m h
def ZK:Vc.Spec:=λc m h K=>∃v s t d r,c=[aS v,cI t,cS d]/\iP h s v/\bI h d r/\∀e,bI h e (Kj s t r)->K (cS e) m h
def LW:Vc.Spec:=λc m h K=>∃v s e d,c=[aS v,cI 3,VT e]/\iP h s v/\Leaves h e d/\d.length<=1000/\K (cI (mY s d)) m h
noncomputable def aZX:Ctx:=dG [(175,bSX),(176,Lc)] [(7,{A:=Nat×cR×Sl×MH×PH,st:=λ⟨i,t,s,m,h⟩=>bK 95 99 [(3,iv 3),(9,.at (.ptr 9 0)),(41,sv s),(42,iv s.len),(43,iv i)] [(9,.cells 87 (t.enc.map .val))] m h})] [(12,{A:=Nat×cR×VV×Sl×Bool×MH×PH,st:=λ⟨i,t,v,s,b,m,h⟩=>bK 95 99 [(3,iv 3),(9,.at (.ptr 9 0)),(10,iv i),(11,.at (.ptr 11 0)),(12,bv b),(41,sv s),(42,iv s.len),(43,iv i)] [(9,.cells 87 (t.enc.map .val)),(11,.cells 27 (v.enc.map .val))] m h}),
 (13,{A:=Nat×cR×VV×Sl×Bool×Bool×MH×PH,st:=λ⟨i,t,v,s,b,c,m,h⟩=>bK 95 99 [(3,iv 3),(9,.at (.ptr 9 0)),(10,iv i),(11,.at (.ptr 11 0)),(12,bv b),(13,bv c),(41,sv s),(42,iv s.len),(43,iv i)] [(9,.cells 87 (t.enc.map .val)),(11,.cells 27 (v.enc.map .val))] m h})] [] false
noncomputable def aZZ(s:Sl)(m:MH)(h:PH):Ctx:=dG [] [(3,{A:=Nat×Int,st:=λ⟨i,n⟩=>bK 19 20 [(3,iv n),(7,sv s),(8,iv s.len),(9,iv i)] [] m h})] [] [] false
noncomputable def f58_ctx(v:bW)(s:Sl)(m:MH)(h:PH):Ctx:=dG [(99,bFZ),(100,ZY),(101,bGQ),(103,ZK),(102,C4)] [(9,{A:=Nat,st:=λi=>bK 69 72 [(1,iv 3),(3,.at (.ptr 3 0)),(29,sv s),(30,iv s.len),(31,iv i)] [(3,.cells 43 (v.enc.map .val))] m h}),
 (12,{A:=Nat×Sl×Nat,st:=λ⟨i,u,j⟩=>bK 69 72 [(1,iv 3),(3,.at (.ptr 3 0)),(8,iv i),(9,sv u),(29,sv s),(30,iv s.len),(31,iv i),(36,sv u),(37,iv u.len),(38,iv j)] [(3,.cells 43 (v.enc.map .val))] m h})] [] [] false
def UF(v:bW)(m:MH)(h:PH)(K:dk):Prop:=
  IJ v h (λs=>K (fQ (fA s)) m h) (K (fQ 0) m h)
def RE(s:Sl)(m:MH)(h:PH)(K:dk):Prop:=
  ∃(I:Nat×Int->Prop)(d:Nat×Int->Nat),(∃(x:Nat×Int),aA (I x) (dQ 0 x.2) (aA (aG s) (a7 s) (bG (aY x.1) (m=m) (h=h))))/\∀(x:Nat×Int),I x->aR (↑x.1:Int) (aH s) (cK s.a (↑x.1:Int) s (λb o y=>aK m h b (bC o x.1 1) (aM y)/\∃(c:Nat×Int),aA (I c) (d c<d x) (aA (dQ (iJ (x.2+aH y)) c.2) (aG s) (aA (a7 s) (aU (aW x.1 1) c.1) (aA (m=m) (h=h) True))))) (K (fQ x.2) m h)
abbrev i6:Prop:=jR 3
noncomputable abbrev oZ(a:Nat×cR×Sl×MH×PH):Sl×MH×PH:=a.2.2
noncomputable abbrev oF(a:Nat×cR×Sl×MH×PH):Sl:=(oZ a).1
noncomputable abbrev E8(a:Nat×cR×Sl×MH×PH):cR:=a.2.1
noncomputable abbrev sT(a:Nat×cR×VV×Sl×Bool×MH×PH):Bool×MH×PH:=a.2.2.2.2
noncomputable abbrev AO(a:Nat×cR×VV×Sl×Bool×MH×PH):Sl:=a.2.2.2.1
noncomputable abbrev J8(a:Nat×cR×VV×Sl×Bool×MH×PH):cR:=a.2.1
noncomputable abbrev uO(a:Nat×cR×VV×Sl×Bool×Bool×MH×PH):Bool×MH×PH:=a.2.2.2.2.2
noncomputable abbrev wM(a:Nat×cR×VV×Sl×Bool×Bool×MH×PH):Sl:=a.2.2.2.1
noncomputable abbrev E6(a:Nat×cR×VV×Sl×Bool×Bool×MH×PH):cR:=a.2.1
noncomputable abbrev BW(a:Nat×cR×VV×Sl×Bool×Bool×MH×PH):Nat->Nat->Option Value:=(uO a).2.2
attribute [push_cast] i6 oZ oF E8 sT AO J8 uO wM E6 BW
def RD(v:bW)(t:Int)(s:Sl)(m:MH)(h:PH)(K:dk):Prop:=
  Ae (λj n u=>aA (bA (cV v) t=bA (cV j) u) (iP h n j) (branch (!(tJ n u)) (K aX m h) (bT (λb o=>aA (bX (lN v) b o) (0<=t) (t<aH v.tables/\∃(y:cR),aK m h b (cF o t 5) (yR y)/\fW (aH s) (AY y) (K aX m h) (∃(I:Nat×cR×Sl×MH×PH->Prop)(f:Nat×cR×Sl×MH×PH->Nat),(∃(x:Nat×cR×Sl×MH×PH),aA (I x) i6 (aA (eP 9) (bF s (oF x)) (aA (dA s (oF x)) (aY x.1) (aA (oQ 87 (gL y)=oQ 87 (gL (E8 x))) (gH m (oZ x)) (bH h (gJ (oZ x)))))))/\∀(x:Nat×cR×Sl×MH×PH),I x->aR (↑x.1:Int) (aH (oF x)) (bT (λz A=>aA (bX (oF x).a z A) (0<=(↑x.1:Int)) ((↑x.1:Int)<aH (oF x)/\∃(g:VV),aK (iO (oZ x)) (gJ (oZ x)) z (bC A x.1 3)
 g.enc/\∃(B:VV),iX (uJ g B) (!(jP B)) (K aX (iO (oZ x)) (gJ (oZ x))) (∃(I1:Nat×cR×VV×Sl×Bool×MH×PH->Prop),dJ g.kind 2 (∃(d:Nat×cR×VV×Sl×Bool×MH×PH),aA (I1 d) i6 (aA (eP 9) (bO x.1 d.1) (aA (eP 11) (iW (decide ((↑x.1:Int)>=(E8 x).key)) (sT d).1) (aA (bF (oF x) (AO d)) (dA (oF x) (AO d)) (aA (bO x.1 d.1) (oQ 87 (gL (E8 x))=oQ 87 (gL (J8 d))) (aA (Ey 27 g.enc=Ey 27 d.2.2.1.enc) (cW (iO (oZ x)) (sT d).2) (bH (gJ (oZ x)) (sT d).2.2))))))) (∃(d:Nat×cR×VV×Sl×Bool×MH×PH),aA (I1 d) i6 (aA (eP 9) (bO x.1 d.1) (aA (eP 11) (xL (sT d).1) (aA (bF (oF x) (AO d)) (dA (oF x) (AO d)) (aA (bO x.1 d.1) (oQ
 87 (gL (E8 x))=oQ 87 (gL (J8 d))) (aA (Ey 27 g.enc=Ey 27 d.2.2.1.enc) (cW (iO (oZ x)) (sT d).2) (bH (gJ (oZ x)) (sT d).2.2)))))))/\∀(d:Nat×cR×VV×Sl×Bool×MH×PH),I1 d->∃(I2:Nat×cR×VV×Sl×Bool×Bool×MH×PH->Prop),dJ d.2.2.1.kind 1 (∃(c:Nat×cR×VV×Sl×Bool×Bool×MH×PH),aA (I2 c) i6 (aA (eP 9) (bO d.1 c.1) (aA (eP 11) (iW (sT d).1 c.2.2.2.2.1) (aA (iW (decide ((↑d.1:Int)>=(J8 d).key)) (uO c).1) (bF (AO d) (wM c)) (aA (dA (AO d) (wM c)) (bO d.1 c.1) (aA (oQ 87 (gL (J8 d))=oQ 87 (gL (E6 c))) (Ey 27 d.2.2.1.enc=Ey 27 c.2.2.1.enc) (bE (cW (sT d).2.1 (uO c).2) (sT d).2.2 (BW c)))))))) (∃(c:Nat×cR×VV×Sl×
 Bool×Bool×MH×PH),aA (I2 c) i6 (aA (eP 9) (bO d.1 c.1) (aA (eP 11) (iW (sT d).1 c.2.2.2.2.1) (aA (xL (uO c).1) (bF (AO d) (wM c)) (aA (dA (AO d) (wM c)) (bO d.1 c.1) (aA (oQ 87 (gL (J8 d))=oQ 87 (gL (E6 c))) (Ey 27 d.2.2.1.enc=Ey 27 c.2.2.1.enc) (bE (cW (sT d).2.1 (uO c).2) (sT d).2.2 (BW c))))))))/\∀(c:Nat×cR×VV×Sl×Bool×Bool×MH×PH),I2 c->eU (E6 c).columns.a 0 (↑c.1:Int) (E6 c).columns (λD E C=>aK (uO c).2.1 (BW c) D (cE (bC E c.1 2)) (cO C)/\fW c.2.2.1.kind C (branch (!c.2.2.2.2.1) (branch (!(uO c).1) (K aX (uO c).2.1 (BW c)) (∃(e:Nat×cR×Sl×MH×PH),aA (I e) (f e<f x) (aA i6 (eP 9) (aA (bF (wM
 c) (oF e)) (dA (wM c) (oF e)) (aA (aU (aW c.1 1) e.1) (oQ 87 (gL (E6 c))=oQ 87 (gL (E8 e))) (bE (gH (uO c).2.1 (oZ e)) (BW c) (gJ (oZ e)))))))) (∃(e:Nat×cR×Sl×MH×PH),aA (I e) (f e<f x) (aA i6 (eP 9) (aA (bF (wM c) (oF e)) (dA (wM c) (oF e)) (aA (aU (aW c.1 1) e.1) (oQ 87 (gL (E6 c))=oQ 87 (gL (E8 e))) (bE (gH (uO c).2.1 (oZ e)) (BW c) (gJ (oZ e)))))))) (∃(e:Nat×cR×Sl×MH×PH),aA (I e) (f e<f x) (aA i6 (eP 9) (aA (bF (wM c) (oF e)) (dA (wM c) (oF e)) (aA (aU (aW c.1 1) e.1) (oQ 87 (gL (E6 c))=oQ 87 (gL (E8 e))) (bE (gH (uO c).2.1 (oZ e)) (BW c) (gJ (oZ
 e)))))))))))) (K eW (iO (oZ x)) (gJ (oZ x)))))))))
def RC(v:bW)(t:Int)(s:Sl)(m:MH)(h:PH)(K:dk):Prop:=
  aR t 0 (K nK m h) (fY t (iV v) (K nK m h) (eU (lN v) 0 t v.tables (λb o y=>aA (aK m h b (cF o t 5+2) (cO y)) (0<=ite (oH s y>0) (oH s y) 0) (AR (ite (oH s y>0) (oH s y) 0) s/\K (CV.val (Value.slice s.a (ite (oH s y>0) (oH s y) 0).toNat s.cap)) m h))))
noncomputable abbrev lV(a:Sl):CV:=pN (aM a)
noncomputable abbrev nP(a:Nat×Sl×Nat):Sl:=a.2.1
noncomputable abbrev I9(a:Nat×Sl×Nat):Int:=iJ ((↑a.2.2:Int)-1)
attribute [push_cast] lV nP I9
def ai(v:bW)(s:Sl)(m:MH)(h:PH)(K:dk):Prop:=
  wG (λA g=>aA (bA (cV v) 3=bA (cV A) 3) (iP h g A) (fW (fA g) 0 (K (fQ (fA g)) m h) (xO (λB j=>aA (iY (lV s) (lV B)) (Leaves h B j) (nV j.length/\cH (decide (mC j>512)) (K (fQ 2) m h) (aH s !=iV v) (K (fQ 80) m h) (kX (λI x=>aA (I x) i6 (aA cA (aG s) (aA (a7 s) (aY x) (aA (bM v) (m=m) (bH h h))))) (λI C x=>I x->aR (↑x:Int) (aH s) (cK s.a (↑x:Int) s (λb o y=>aK m h b (bC o x 1) (aM y)/\∃(I1:Nat×Sl×Nat->Prop)(e:Nat×Sl×Nat->Nat),(∃(c:Nat×Sl×Nat),aA (I1 c) i6 (aA cA (bO x c.1) (aA (bF y (nP c)) (aG s) (aA (a7 s) (bO x c.1) (aA (bF y (nP c)) (dA y (nP c)) (aA (aY c.2.2) (bM v) (bE (m=m) h h)))))))/\∀(c
 :Nat×Sl×Nat),I1 c->aR (↑c.2.2:Int) (aH (nP c)) (cK (nP c).a (↑c.2.2:Int) (nP c) (λY Z n=>aK m h Y (bC Z c.2.2 1) (aM n)/\Ae (λD E t=>pL (λF r=>aA (cV v::fQ (↑c.1:Int)::bA (fD n) 3=cV D::fQ t::bA (fD F) 3) (iP h E D) (bI h F r/\cH (!(SK E t r)) (K (fQ 80) m h) (decide ((↑c.2.2:Int)>0)) (cK (nP c).a (I9 c) (nP c) (λu z f=>aK m h u (cF z (I9 c) 1) (aM f)/\Ae (λG H J=>pL (λL M=>aA (cV v::bJ (fQ (↑c.1:Int)) (fD f)=cV G::bJ (fQ J) (fD L)) (iP h H G) (bI h L M/\∀(O:Sl),bI h O (Kj H J M)->jB h u (cF z (I9 c) 1) f/\Ae (λP Q R=>pL (λa S=>aA (cV v::bJ (fQ (↑c.1:Int)) (fD n)=cV
 P::bJ (fQ R) (fD a)) (iP h Q P) (bI h a S/\∀(T:Sl),bI h T (Kj Q R S)->jB h u (cF z (I9 c) 1) f/\∃(U:Sl),pL (λV W=>∃(X:dn),aA (fN O T=fN U V) (bI h U W) (bI h V X/\fY (eJ W X) 0 (K (fQ 80) m h) (∃(d:Nat×Sl×Nat),aA (I1 d) (e d<e c) (aA i6 cA (aA (bO c.1 d.1) (bF (nP c) (nP d)) (aA (aG s) (a7 s) (aA (bO c.1 d.1) (bF (nP c) (nP d)) (aA (dA (nP c) (nP d)) (aU (aW c.2.2 1) d.2.2) (bG (bM v) (m=m) (h=h)))))))))))))))))) (∃(d:Nat×Sl×Nat),aA (I1 d) (e d<e c) (aA i6 cA (aA (bO c.1 d.1) (bF (nP c) (nP d)) (aA (aG s) (a7 s) (aA (bO c.1 d.1) (bF (nP c) (nP d)) (aA (dA (nP c) (nP d))
 (aU (aW c.2.2 1) d.2.2) (bG (bM v) (m=m) (h=h))))))))))))) (∃(d:Nat),aA (I d) (C d<C x) (aA i6 cA (aA (aG s) (a7 s) (aA (aU (aW c.1 1) d) (bM v) (bE (m=m) h h))))))) (K (fQ 0) m h))))))))
theorem bI.cut{a:Option Addr}{len c:Nat}{r:dn}(x:bI h ⟨a,len,c⟩ r){n:Nat}(f:n<=r.length):bI h ⟨a,n,c⟩ (r.take n):=by
 obtain⟨⟨d,e,g,j⟩,o⟩:=x;refine⟨⟨d.take n,by rw[map_take];exact bN.cut e n cg,cg,λi x u=>?_⟩,cg⟩
 grind
theorem bOJ{v:bW}(d:iP h s v)(c:K (cI (fA s)) m h):UF v m h K:=
 ⟨v,s,rfl,d,aB (λ_=>c) (λe=>by rw[show fA s=0 by simpa using e]at c;exact c)⟩
theorem agJ:di 99 bFZ:=by
 refine gO func99 ?_;rintro c m h K ⟨v,s,rfl,d,e⟩;refine⟨dG [(90,Ba)] [] [] [] false,rfl,aD Qb aF,UF v m h K,bu,?_⟩;exact bOJ d e
theorem Leaves.lens{s:Sl}{st:List dl}(c:Leaves h s st){l:dl}(d:l∈st):l.length<=502633886983:=by
 obtain⟨i,e,rfl⟩:=mem_iff_getElem.1 d;obtain⟨_,_,_,_,_,f⟩:=aZ.at c (cq e);exact f.len
theorem Fy:∀{l:List dl},(∀x∈l,x.length<=502633886983)->0<=mC l/\mC l<=(l.length:Int)*502633886983
 |[],_=>by simp[mC]
 |a::l,h=>by
  have e:=h a (mem_cons_self ..);have c:=Fy (l:=l) λx d=>h x (mem_cons_of_mem _ d);simp only[mC,map_cons,sum_cons,de]at c⊢
  omega
theorem OI{st:List dl}{l:dl}(h:st[i]? =some l):mC (st.take (i+1))=mC (st.take i)+(l.length:Int):=by
 rw[db,h];simp[mC]
theorem Yl:di 100 ZY:=by
 refine gO func100 ?_;rintro A m h K ⟨s,c,rfl,f,J,B⟩;refine⟨aZZ s m h,rfl,aF,RE s m h K,bu,?_⟩;dsimp only[RE,push_cast];have g:=aZ.slen f;refine⟨λz=>z.1<=c.length/\z.2=mC (c.take z.1),λz=>c.length-z.1,⟨(0,0),⟨bx,by simp[mC]⟩,MT⟩,?_⟩;rintro⟨i,n⟩ ⟨C,e⟩;dsimp only at C e⊢
 subst e;refine aE (λj=>?_) (λD=>?_)
 .obtain⟨l,d⟩:=eN g j;obtain⟨b,o,u,E,rd,F⟩:=aZ.at f d;have y:=aZ.slen F;have G:=Fy (l:=c.take (i+1)) λx d=>f.lens (mem_of_mem_take d);have H:=(Fy (l:=c.take i) λx d=>f.lens (mem_of_mem_take d)).1;have I:=OI d;rw[length_take]at G;refine⟨b,o,E,aC,aC,u,.imm rd,(i+1,mC (c.take (i+1))),⟨aC,rfl⟩,aC,?_⟩;rw[dR aC aC,y, <-I];exact MT
 .rw[cu aC];exact B
theorem zI{t:zN}{r:dn}:Ai t r=true↔r.length=t.columns.length/\∀i,i<r.length->tK t.key (t.columns.getD i ⟨⟨#[]⟩,0⟩).kind i (r.getD i zeroV)=true:=by
 simp only[Ai,cz,dc,all_eq_true,mem_range]
theorem N9{t:Int}{r:dn}{c:zN}(d:s.tables[t.toNat]? =some c)(h:tJ s t=true):SK s t r=Ai c r:=by
 simp only[SK,h,d,Bool.true_and]
theorem Yk:di 101 bGQ:=by
 refine gO func101 ?_;rintro a' m h K ⟨v,s,t,L,r,rfl,M,O,C⟩;refine⟨aZX,rfl,aD Oz (aD Oy aF),RD v t L m h K,bu,?_⟩;dsimp only[RD,push_cast];have a0:=M.tables.slen;have a1:=aZ.slen O;refine⟨v,s,t,rfl,M,aB (λe=>?_) (λe=>?_)⟩
 .have e:tJ s t=false:=cm e
  simp only[SK,e,Bool.false_and]at C;exact C
 have e:tJ s t=true:=cm e
 have he:=e;simp only[tJ,cz,dc]at he;obtain⟨d,E⟩:∃d,s.tables[t.toNat]? =some d:=⟨_,cq aC⟩
 obtain⟨b,o,y,ea,rd,P⟩:=aZ.at M.tables E;rw[N9 E e]at C;have a2:=aZ.slen P.columns;have hk:=P.key;refine⟨b,o,ea,he.1,aC,y,.imm rd,aB (λH=>?_) (λH=>?_)⟩
 .have:Ai d r=false:=by
   cases f:Ai d r with
   |false=>rfl
   |true=>
    have:=(zI.1 f).1
    grind
  rw[this]at C;exact C
 have Q:r.length=d.columns.length:=cg
 have R:∀i,i<r.length->tK d.key (d.columns.getD i ⟨⟨#[]⟩,0⟩).kind i (r.getD i zeroV)=false->K (cB false) m h:=λi S F=>by
  have:Ai d r=false:=by
   cases f:Ai d r with
   |false=>rfl
   |true=>rw[(zI.1 f).2 i S]at F;cases F
  grind
 refine⟨λz=>z.2.1=y/\z.2.2.1=L/\z.2.2.2.1=m/\z.2.2.2.2=h/\z.1<=r.length/\∀j,j<z.1->tK d.key (d.columns.getD j ⟨⟨#[]⟩,0⟩).kind j (r.getD j zeroV)=true,λz=>r.length-z.1,⟨(0,y,L,m,h),⟨rfl,rfl,rfl,rfl,bx,λj T=>by simp at T⟩,MT⟩,?_⟩;rintro⟨i,n,A,m',h'⟩ ⟨H,f,I,J,S,B⟩;dsimp only at H f I J S B⊢
 subst H f I J;refine aE (λa3=>?_) (λa4=>?_)
 .have U:i<r.length:=by omega
  have hx:r[i]? =some (r.getD i zeroV):=cg
  obtain⟨b2,o2,x,V,G,W⟩:=aZ.at O hx;subst W;have hc:d.columns[i]? =some (d.columns.getD i ⟨⟨#[]⟩,0⟩):=cg
  obtain⟨b3,o3,c,X,Y,Z⟩:=aZ.at P.columns hc;have g:=R i U
  have u:tK d.key (d.columns.getD i ⟨⟨#[]⟩,0⟩).kind i (r.getD i zeroV)=true->∀j,j<i+1->tK d.key (d.columns.getD j ⟨⟨#[]⟩,0⟩).kind j (r.getD j zeroV)=true:=λF j T=>by
   grind
  generalize r.getD i zeroV=x at g u G hx;rw[Z]at g u;have go:tK d.key c.kind i x=true->∃z:Nat×cR×Sl×MH×PH,(z.2.1=n/\z.2.2.1=A/\z.2.2.2.1=m'/\z.2.2.2.2=h'/\z.1<=r.length/\∀j,j<z.1->tK d.key (d.columns.getD j ⟨⟨#[]⟩,0⟩).kind j (r.getD j zeroV)=true)/\r.length-z.1<r.length-i/\z=(i+1,n,A,m',h'):=λF=>⟨_,⟨rfl,rfl,rfl,rfl,aC,u F⟩,aC,rfl⟩
  refine⟨b2,o2,V,aC,aC,x,.imm G,x,rfl,aB (λev=>g ?_) (λev=>?_)⟩
  .have ev:jP x=false:=cg
   simp[tK,ev]
  have ev:jP x=true:=cg
  refine⟨λz=>z=(i,n,x,A,(x.kind==2&&decide ((i:Int)>=n.key)),m',h'),aB (λf=>⟨_,rfl,by rw[f];exact MT⟩) (λf=>⟨_,rfl,by rw[f];exact MT⟩),?_⟩;rintro _ rfl;dsimp only;refine⟨λz=>z=(i,n,x,A,(x.kind==2&&decide ((i:Int)>=n.key)),(x.kind==1&&decide ((i:Int)>=n.key)),m',h'),aB (λf=>⟨_,rfl,by rw[f];exact MT⟩) (λf=>⟨_,rfl,by rw[f];exact MT⟩),?_⟩;rintro _ rfl;dsimp only
  have D:tK d.key c.kind i x=(x.kind==c.kind||((x.kind==2&&decide ((i:Int)>=n.key))||(x.kind==1&&decide ((i:Int)>=n.key)))):=by
   rw[hk];simp only[tK,ev,Bool.true_and,ge_iff_le,Bool.and_or_distrib_right]
  generalize a5:(x.kind==2&&decide ((i:Int)>=n.key))=B1 at D⊢
  generalize a6:(x.kind==1&&decide ((i:Int)>=n.key))=B2 at D⊢
  refine⟨b3,o3,X,aC,aC,c.kind,.imm (bB.part Y 1 1),aB (λI=>aB (λJ=>aB (λe5=>g ?_) (λe5=>?_)) (λJ=>?_)) (λI=>?_)⟩
  .grind
  all_goals
   obtain⟨_,g1,g2,rfl⟩:=go (by rw[D];simp_all);refine⟨_,g1,g2,?_⟩;dsimp only;rw[fP (by have:=aZ.len O;omega)];exact MT
 .have:Ai d r=true:=zI.2 ⟨Q,λj T=>B j aC⟩;rw[this]at C;exact C
theorem Yj:di 103 ZK:=by
 refine gO func103 ?_;rintro D m h K ⟨v,s,t,z,r,rfl,A,n,B⟩;refine⟨dG [] [] [] [] false,rfl,aF,RC v t z m h K,bu,?_⟩;dsimp only[RC,push_cast];have E:=A.tables.slen;have d:=aZ.slen n;have c:tJ s t=false->K nK m h:=λe=>B ⟨none,0,0⟩ (by simp only[Kj,e];exact aZ.nil _ _ _ _);refine aE (λF=>c (by simp[tJ];omega)) (λF=>aE (λG=>c (by simp[tJ];omega)) (λG=>?_));have e:tJ s t=true:=by simp[tJ];omega
 obtain⟨f,g⟩:∃f,s.tables[t.toNat]? =some f:=⟨_,cq aC⟩
 obtain⟨b,o,y,H,rd,I⟩:=aZ.at A.tables g;have M:=I.key;obtain⟨a,len,j⟩:=z;have C:len<=j:=by obtain⟨O,J,_⟩:=n.ex;exact J.cap
 have d:len=r.length:=d
 have u:(if(if(len:Int)<y.key then(len:Int)else y.key)>0 then(if(len:Int)<y.key then(len:Int)else y.key)else 0)=max 0 (min f.key r.length):=by
  omega
 refine⟨b,o,H,aC,aC,y.key,.imm (bB.part rd 2 1),?_⟩;dsimp only;rw[u];refine⟨aC,aC,B ⟨a,(max 0 (min f.key r.length)).toNat,j⟩ ?_⟩;have L:Kj s t r=r.take (max 0 (min f.key r.length)).toNat:=by simp only[Kj,e,if_true,g];rfl
 rw[L];exact n.cut aC
theorem y9{t:Nat}{c:zN}(h:s.tables[t]? =some c)(r:dn):Kj s t r=mA c r:=by
 have:t<s.tables.length:=(cn h);have e:tJ s (t:Int)=true:=by simp[tJ];omega
 simp only[Kj,e,if_true,Int.toNat_natCast,h]
theorem MY{t:Nat}{c:zN}(h:s.tables[t]? =some c)(r:dn):SK s t r=Ai c r:=by
 have:t<s.tables.length:=(cn h);have e:tJ s (t:Int)=true:=by simp[tJ];omega
 exact N9 cg e
theorem bi:di 58 LW:=by
 refine gO func58 ?_;rintro b4 m h K ⟨v,s,X,G,rfl,L,Y,Z,d⟩;refine⟨f58_ctx v X m h,rfl,aD agJ (aD Yl (aD Yk (aD Yj (aD Ef aF)))),ai v X m h K,bu,?_⟩;dsimp only[ai,push_cast];have b5:=L.tables.slen;have a':=aZ.slen Y;unfold mY at d;refine⟨v,s,rfl,L,aB (λe=>?_) (λe=>⟨X,G,rfl,Y,Z,aE (λH=>?_) (λH=>aB (λe3=>?_) (λe3=>?_))⟩)⟩
 .rw[if_pos (cm e)]at d;exact d
 all_goals rw[if_neg (cm e)]at d
 .rw[if_pos (by unfold mC at H;omega)]at d;exact d
 all_goals rw[if_neg (by unfold mC at H;omega)]at d
 .rw[if_pos cg]at d;exact d
 have M:G.length=s.tables.length:=cg
 rw[if_neg (by simp[M])]at d;have a0:¬Hc s G->K (cI 80) m h:=λhb=>cg
 refine⟨λi=>i<=G.length/\∀(j:Nat) t l,j<i->s.tables[j]? =some t->G[j]? =some l->PA t l,λi=>G.length-i,⟨0,⟨bx,λj t l hj=>by omega⟩,MT⟩,?_⟩;rintro i ⟨hi,O⟩;refine aE (λa1=>?_) (λb6=>?_)
 .obtain⟨l,hx⟩:=eN a' a1;obtain⟨b,o,u,ea,rd,I⟩:=aZ.at Y hx;have a2:=aZ.slen I;have b7:=aZ.len I;obtain⟨y,c⟩:∃y,s.tables[i]? =some y:=⟨_,cq aC⟩
  have A:¬PA y l->K (cI 80) m h:=λhb=>a0 λf=>hb (f i y l c hx);refine⟨b,o,ea,aC,aC,u,.imm rd,λz=>z.1=i/\z.2.1=u/\z.2.2<=l.length/\(∀k r,k<z.2.2->l[k]? =some r->Ai y r=true)/\∀k r J,k+1<z.2.2->l[k]? =some r->l[k+1]? =some J->eJ (mA y r) (mA y J)<0,λz=>l.length-z.2.2,⟨(i,u,0),⟨rfl,rfl,bx,λk r D=>by simp at D,λk r J D=>by simp at D⟩,MT⟩,?_⟩;rintro⟨E,u',j⟩ ⟨e1,H,hj,B,C⟩;dsimp only at e1 H hj B C⊢
  subst e1 H;refine aE (λP=>?_) (λb1=>?_)
  .obtain⟨r,Q⟩:=eN a2 P;obtain⟨b2,o2,w,a3,a4,hv⟩:=aZ.at I Q;refine⟨b2,o2,a3,aC,aC,w,.imm a4,v,s,E,w,r,rfl,L,hv,aB (λV=>A λf=>?_) (λV=>?_)⟩
   .rw[MY c,f.1 r (cr Q)]at V;cases V
   have hf:Ai y r=true:=by rw[MY c]at V;grind
   have g:∀k r,k<j+1->l[k]? =some r->Ai y r=true:=λk J D b8=>by
    grind
   refine aE (λa5=>?_) (λa5=>?_)
   .have hw:IntKind.i64.wrap ((j:Int)-1)=((j-1:Nat):Int):=by rw[dR aC aC];omega
    obtain⟨W,R⟩:∃W,l[j-1]? =some W:=⟨_,cq aC⟩
    obtain⟨b3,o3,w3,a6,F,a9⟩:=aZ.at I R;rw[hw];refine⟨b3,o3,a6,aC,aC,w3,.imm F,v,s,E,w3,W,rfl,L,a9,λs1 b'=>⟨F,v,s,E,w,r,rfl,L,hv,λs2 b0=>⟨F,s1,s2,_,_,rfl,b',b0,aE (λhc=>A λf=>?_) (λhc=>?_)⟩⟩⟩
    .rw[y9 c,y9 c]at hc;have:=f.2 (j-1) W r R cg;omega
    .rw[y9 c,y9 c]at hc;refine⟨(E,u',j+1),⟨rfl,rfl,cg,g,λk r1 r2 D S T=>?_⟩,cg,?_⟩
     .grind
     .dsimp only;rw[fP aC];exact MT
   .refine⟨(E,u',j+1),⟨rfl,rfl,cg,g,λk r1 r2 D S T=>cg⟩,cg,?_⟩;dsimp only;rw[fP aC];exact MT
  .refine⟨E+1,⟨aC,λk t l' D ht U=>?_⟩,aC,?_⟩
   .by_cases e5:k=E
    .subst e5;rw[c]at ht;cases ht;rw[hx]at U;cases U;refine⟨λr I=>?_,λk r J S T=>C k r J ?_ S T⟩
     .obtain⟨n,Z,rfl⟩:=mem_iff_getElem.1 I;exact B n _ aC (cq Z)
     grind
    grind
   .rw[fP aC];exact MT
 .rw[if_pos]at d
  .exact d
  .exactλj t l S T=>O j t l cg S T
noncomputable def Ia(s:oL)(st:List dl)(q:Query):dl×Int:=
 if(fR s [] q).2≠0 then([],(fR s [] q).2)else if mY s st≠0 then([],mY s st)else(L0 st q,0)
def beX(st:List dl)(q:Query):Prop:=∃c,1<=c/\(∀l∈st,l.length<=c)/\mI c q<=8000000
structure CE(h:PH)(sl:Sl)(st:List dl):Prop where
 lea:Leaves h sl st
 len:st.length<=1000
 val:V7 st
theorem CE.mono{sl:Sl}{st:List dl}(x:CE h sl st)(le:PH.le h h'):CE h' sl st:=⟨aZ.mono x.lea le λl s c=>aZ.mono c le λr t d=>bI.mono d le,x.len,x.val⟩
def a6X:Vc.Spec:=λd m h K=>∃v s e c w q,d=[aS v,VT e,aQ w]/\iP h s v/\CE h e c/\bR h q w/\jV m/\((fR s [] q).2=0->mY s c=0->beX c q)/\∀f h',PH.le h h'->Rows h' f (Ia s c q).1->K (.tup [cS f,cI (Ia s c q).2]) m h'
def ZO:Vc.Spec:=λc m h K=>∃n,c=[cI n]/\K (aV ⟨4,n,⟨#[]⟩⟩) m h
noncomputable def bvZ(w:QV)(sl:Sl):Ctx:=dG [(57,zR),(58,LW),(59,a5J),(60,ZH)] [(10,{A:=Nat×dq×Sl×MH×PH,st:=λ⟨i,c,s,m,h⟩=>bK 54 57 [(4,.at (.ptr 4 0)),(5,.at (.ptr 5 0)),(12,.at (.lst 34)),(35,sv s),(36,iv s.len),(37,iv i)] [(4,.cells 25 [.val (.slice sl.a sl.len sl.cap)]),(5,.cells 38 (w.enc.map .val)),(34,.lst 53 1 (c.map eS))] m h})] [] [] false
abbrev Gn(a:Query):Prop:=nW a<=900000
abbrev oC(a:Sl):Prop:=eQ (oQ 25 (lY a))
abbrev tG(a:dl):Prop:=wA a 8000000
attribute [push_cast] Gn oC tG
def Ve(v:bW)(sl:Sl)(w:QV)(m:MH)(h:PH)(K:dk):Prop:=
  F8 (cV v::bJ nK (dE w)) h (λs p q _ f=>fW (fR s p q).2 0 (K (CV.tup (bJ nK (CV.val (fB (fR s p q).2)))) m f) (wG (λD u=>xO (λE n=>aA (cV v::bJ (fQ 3) (lV sl)=cV D::bJ (fQ 3) (lV E)) (iP f u D) (aA (Leaves f E n) (nV n.length) (fW (mY u n) 0 (K (CV.tup (bA nK (mY u n))) m f) (jD (λF z=>aA (uK w F) (bR f z F) (Gn z/\jT (λc A=>dD f A (Ints A c (eE z)) (aA (cC (aH c)) (aH c<=aH c) (aA (sA (aH c*24)) (sA (aH c)) (Mt (λI x=>aA (I x) eV (aA dC (eL 34) (aA (bF c (fL x)) (dA c (fL x)) (aA (aY x.1) (oC sl) (aA (cG w) (cD 53 1 (B6 (aH c) iA)=Cy 53 1 x.2.1) (aA (gH m x.2.2) (A=kY x)
 True)))))) (λI G x=>I x->aR (↑x.1:Int) (aH (fL x)) (eU (fL x).a 0 (↑x.1:Int) (fL x) (λb o y=>aK (p6 x) (kY x) b (bC o x.1 1) (cO y)/\cK sl.a y sl (λM O H=>aA (aK (p6 x) (kY x) M (cF O y 1) (aM H)) (0<=(↑x.1:Int)) ((↑x.1:Int)<jY (oG x)/\∃(e:dj),NN (uN (oG x) (sU x.1) e) (0<e.length) (λd=>aA (I d) (G d<G x) (aA eV dC (aA (eL 34) (bF (fL x) (fL d)) (aA (dA (fL x) (fL d)) (aU (aW x.1 1) d.1) (aA (oC sl) (cG w) (aA (cD 53 1 (List.set (oG x) (sU x.1) (fF H::List.drop 1 e))=Cy 53 1 d.2.1) (gH (p6 x) d.2.2) (bH (kY x) (kY d)))))))))))) (bU (kY x) 1 (oG x) (λP B=>∃(l:Sl)(J:QV)(g:List dl)(j
 :Query),aA (dW P (dE w)=dW l (dE J)) (Leaves B l g) (aA (bR B j J) (Wo g j 0) (aA (jV (p6 x)) (tG (eD g j 0).1) (sQ (eD g j 0).1 (λr=>rY r)/\jT (λL C=>dD B C (Rows C L (eD g j 0).1) (K (CV.tup (bA (fD L) 0)) (p6 x) C)))))))))))))))))))))
mutual
theorem FM:∀q:Query,(eE q).length<=nW q
 |.mk op ta _ _ _ _ _ _ args=>by
  have:=Nl args;rw[eE,nW,ct]
  grind
theorem Nl:∀qs:dt,(dV qs).length<=qH qs
 |[]=>by simp[dV,qH]
 |q::qs=>by
  have:=FM q;have:=Nl qs;rw[dV,qH,ct];omega
end
theorem Q6:di 18 a6X:=by
 refine gO func18 ?_;rintro a9 m h K ⟨v,s,P,B,w,q,rfl,hs,f,Q,hT,hb,g⟩;refine⟨bvZ w P,rfl,aD bg (aD bi (aD bh (aD ajZ aF))),Ve v P w m h K,bu,?_⟩;dsimp only[Ve,push_cast];unfold Ia at g;refine⟨v,cJ,w,s,[],q,rfl,hs,sB h,Q,λb' h1 d _=>aB (λe=>?_) (λe=>?_)⟩
 .rw[if_pos (cm e)]at g;exact g ⟨none,0,0⟩ h1 d (aZ.nil _ _ _ _)
 have e:(fR s [] q).2=0:=cm e
 rw[if_neg (by simp[e])]at g;refine⟨v,s,P,B,rfl,hs.mono d,(f.mono d).lea,f.len,aB (λG=>?_) (λG=>?_)⟩
 .rw[if_pos cg]at g;exact g ⟨none,0,0⟩ h1 d (aZ.nil _ _ _ _)
 have G:mY s B=0:=cg
 rw[if_neg (by simp[G])]at g;dsimp only at g;obtain⟨c,c1,c2,c3⟩:=hb e G;obtain⟨_,_,R,S⟩:=pJ e;have I:bZ s [] q=((bZ s [] q).1,0):=Prod.ext rfl S;obtain⟨ok,ev,T,len⟩:=axQ G f.val c2 c1 I c3;have a4:=FL R;have U:=FM q;have J:=H4 I;have b0:=(Nf G).2.1;refine⟨w,q,rfl,Q.mono d,aC,λV W C X=>?_⟩;have L:=X.slen;have y:=f.mono (d.trans C);have a5:=aZ.slen y.lea;generalize D:eE q=ts at X L U J;refine⟨aC,aC,aC,aC,λz=>z.1<=ts.length/\z.2.2.1=V/\z.2.2.2.1=m/\z.2.2.2.2=W/\∃H,z.2.1=H++replicate (ts.length-z.1) ⟨none,0,0⟩/\H.length=z.1/\∀(j:Nat) u t,H[j]? =some u->ts[j]? =some t->Rows W u (B.getD t.toNat []),λz=>ts.length-z.1,⟨(0,replicate ts.length ⟨none,0,0⟩,V,m,W),⟨bx,rfl,rfl,rfl,[],bx,rfl,λj u t h=>by simp at h⟩,?_⟩,?_⟩
 .rw[show((V.len:Int)).toNat=ts.length by omega];dsimp only;rw[map_replicate];exact MT
 rintro⟨i,l,s2,m2,h3⟩ ⟨Y,e3,e4,e5,H,M,E,A⟩;dsimp only at Y e3 e4 e5 M E A⊢
 subst e3 e4 e5;refine aE (λZ=>?_) (λb1=>?_)
 .obtain⟨t,F⟩:=eN L Z;obtain⟨b,o,ea,rd⟩:=X.at' F;have ht:=J t (cr F);have b3:t.toNat<B.length:=by omega
  have e6:B[t.toNat]? =some (B.getD t.toNat []):=cg
  obtain⟨b2,o2,u,a',a0,O⟩:=aZ.at y.lea e6;have b4:l.length=ts.length:=cg
  have a1:l[i]? =some ⟨none,0,0⟩:=by
   grind
  refine⟨b,o,ea,aC,aC,t,.imm rd,b2,o2,a',ht.1,aC,u,.imm a0,aC,cg,[sJ],by rw[getElem?_map,show((i:Int)).toNat=i from rfl,a1];rfl,bx,(i+1,l.set i u,s2,m2,h3),⟨aC,rfl,rfl,rfl,H++[u],?_,by simp[E],λj u' t' h7 h8=>?_⟩,aC,?_⟩
  .dsimp only;rw[M,set_append,if_neg aC,append_assoc];congr 1;rw[show ts.length-i=(ts.length-(i+1))+1 by omega,replicate_succ,show i-H.length=0 by omega];rfl
  .grind
  .dsimp only
   have e9:((l.map eS).set ((i:Int)).toNat (fF u::List.drop 1 [sJ]))=(l.set i u).map eS:=by
    rw[map_set];rfl
   rw[e9,fP aC];exact MT
 .have:i=ts.length:=by omega
  subst this;rw[Nat.sub_self,replicate_zero,append_nil]at M;subst M;intro s3 h4 n a2;refine⟨s3,w,mM B q,q,rfl,⟨⟨l,a2,by rw[mM,length_map,D,E],λi x F=>?_⟩,by rw[mM,length_map,D];omega⟩,Q.mono ((d.trans C).trans n),ok,hT,cg,λr O=>?_,λs5 h5 a3 O=>g s5 h5 (((d.trans C).trans n).trans a3) cg⟩
  .rw[mM,D,getElem?_map]at F;cases e7:ts[i]? with
   |none=>grind
   |some t=>
    rw[e7]at F;simp only[Option.map_some,cw]at F;subst F;have a6:=(cn e7);exact⟨l[i],cq aC,aZ.mono (A i _ t (cq aC) e7) n λr t hv=>bI.mono hv n⟩
  .rw[ev]at O;have:=(T.row r O).len;omega
def Tq:Vc.Spec:=λc m h K=>∃s r,c=[cS s]/\bI h s r/\r.length<=1000/\∀d h',PH.le h h'->bI h' d r->K (cS d) m h'
def ZW:Vc.Spec:=λc m h K=>∃v s t d r,c=[aS v,cI t,cS d]/\iP h s v/\bI h d r/\r.length<=1000/\∀e h',PH.le h h'->bI h' e (Kj s t r)->K (cS e) m h'
def Tn(key:Int)(ks:dm)(r:dn):Prop:=r.length=ks.length/\(∀v∈r,L7 v)/\∀(i:Nat) v k,r[i]? =some v->ks[i]? =some k->tK key k i v=true
def auQ(m:MH)(d:Nat)(us:dq):Prop:=∃c:Array Value,m d=some (.cells c 53 (0,0))/\us.length<=c.size/\c.toList.take us.length=us.map Sl.val
def bYZ:Vc.Spec:=λf m h K=>∃v s c n d e u,∃t:Nat,∃tab rs g j o row,f=[aS v,VT ⟨some ⟨c,0,none⟩,n,d⟩,cI t,cS g,cS o]/\iP h s v/\s.tables[t]? =some tab/\auQ m c e/\n=e.length/\e[t]? =some u/\Rows h u rs/\rs.length<=1000/\(∀r∈rs,r.length<=1000)/\bI h g j/\bI h o row/\0<row.length/\row.length<=1000/\
 ∀y m' h',PH.le h h'->Rows h' y (Bh tab j row false rs)->auQ m' c (e.set t y)->aL m m' c->K (VT ⟨some ⟨c,0,none⟩,n,d⟩) m' h'
noncomputable def bqQ(v:bW)(sl:Sl)(t:Nat)(f g:Sl)(m:MH):Ctx:=dG [(48,ZW),(65,C4),(55,Tq)] [(4,{A:=Nat×dq×Bool×Sl×PH,st:=λ⟨i,e,d,u,h⟩=>bK 66 71 [(2,iv t),(3,sv f),(4,sv g),(5,.at (.ptr 5 0)),(6,.at (.ptr 6 0)),(10,.at (.ptr 10 0)),(11,.at (.lst 45)),(12,bv d),(23,sv u),(24,iv u.len),(25,iv i)] [(5,.cells 43 (v.enc.map .val)),(6,.cells 25 [.val sl.val]),(10,.cells 25 [.val cJ.val]),(45,.lst 94 1 (e.map eS))] m h})] [(9,{A:=Nat×dq×Bool×Sl×Sl×Int×PH,st:=λ⟨i,e,d,u,r,c,h⟩=>bK 66 71 [(2,iv t),(3,sv f),(4,sv g),(5,.at (.ptr 5 0)),(6,.at (.ptr 6 0)),(10,.at (.ptr 10 0)),(11,.at (.lst 45)),(12,bv d),(14,sv r),(15,iv c),(23,sv u),(24,iv u.len),(25,iv i)] [(5,.cells 43 (v.enc.map .val)),(6,.cells 25 [.val sl.val]),(10,.cells 25 [.val cJ.val]),(45,.lst 94 1 (e.map eS))] m h}),
 (14,{A:=dq×PH,st:=λ⟨e,h⟩=>bK 66 71 [(2,iv t),(6,.at (.ptr 6 0)),(10,.at (.ptr 10 0)),(11,.at (.lst 45))] [(6,.cells 25 [.val sl.val]),(10,.cells 25 [.val cJ.val]),(45,.lst 94 1 (e.map eS))] m h})] [] false
def aj(s:Sl)(m:MH)(h:PH)(K:dk):Prop:=
  ∃(y:List dj),aA (cT 3 y) (bN h (bD s) 3 y) (aA (wT y 32) (wU y) (bU h 3 y (λc d=>K (fD c) m d)))
def UT(v:bW)(t:Int)(s:Sl)(m:MH)(h:PH)(K:dk):Prop:=
  aR t 0 (K nK m h) (fY t (iV v) (K nK m h) (eU (lN v) 0 t v.tables (λb o y=>aA (aK m h b (cF o t 5+2) (cO y)) (0<=ite (oH s y>0) (oH s y) 0) (AR (ite (oH s y>0) (oH s y) 0) s/\pL (λd r=>aA (iY (CV.val (Value.slice s.a (ite (oH s y>0) (oH s y) 0).toNat s.cap)) (fD d)) (bI h d r) (rY r/\jT (λe c=>dD h c (bI c e r) (K (fD e) m c))))))))
noncomputable abbrev BX(a:Nat×dq×Bool×Sl×PH):Bool:=a.2.2.1
noncomputable abbrev oI(a:Nat×dq×Bool×Sl×PH):Sl:=a.2.2.2.1
abbrev AA(a b c:Nat):Prop:=eQ (oQ 25 (vH (At.val (Value.slice (wI a) b c))))
abbrev oY:Prop:=eQ (oQ 25 (vH LV))
noncomputable abbrev AU(a:Nat×dq×Bool×Sl×PH):Nat->Nat->Option Value:=a.2.2.2.2
abbrev II(a:bW)(b:Nat)(c:Sl)(d:Nat->Nat->Option Value)(e:Sl->PH->Prop):Prop:=Ae (λx j n=>pL (λo f=>aA (cV a::bJ (fQ (↑b:Int)) (fD c)=cV x::bJ (fQ n) (fD o)) (iP d j x) (aA (bI d o f) (rY f) (jT (λu g=>dD d g (bI g u (Kj j n f)) (e u g))))))
abbrev Mu(a:(Nat×dq×Bool×Sl×Sl×Int×PH)->Prop)(b:Nat)(c d:Sl)(e:(Nat×dq×Bool×Sl×Sl×Int×PH)->Prop):Prop:=∃(x:Nat×dq×Bool×Sl×Sl×Int×PH),aA (a x) (eQ (vK b)) (aA (aG c) (aG d) (aA dC (eP 6) (aA gQ (eL 45) (e x))))
noncomputable abbrev IU(a:Nat×dq×Bool×Sl×Sl×Int×PH):Sl:=a.2.2.2.2.1
noncomputable abbrev wN(a:Nat×dq×Bool×Sl×Sl×Int×PH):Sl:=a.2.2.2.1
noncomputable abbrev Gg(a:Nat×dq×Bool×Sl×Sl×Int×PH):Nat->Nat->Option Value:=a.2.2.2.2.2.2
noncomputable abbrev uX(a:dq×PH):Option Go.Vc.Own:=pA a.1
abbrev uC(a:List dj)(b:Sl)(c:dq×PH):Prop:=cD 94 1 (dY a (aM b))=uX c
attribute [push_cast] BX oI AA oY AU II Mu IU wN Gg uX uC
def UU(v:bW)(g n e t:Nat)(z u:Sl)(m:MH)(h:PH)(K:dk):Prop:=
  bT (λb o=>aA (bX (wI g) b o) (0<=(↑t:Int)) ((↑t:Int)<(↑n:Int)/\∃(y:Sl),aK m h b (bC o t 1) (aM y)/\∃(I:Nat×dq×Bool×Sl×PH->Prop)(F:Nat×dq×Bool×Sl×PH->Nat),(∃(x:Nat×dq×Bool×Sl×PH),aA (I x) (eQ (vK t)) (aA (aG z) (aG u) (aA dC (eP 6) (aA gQ (eL 45) (aA (iW (aH u==0) (BX x)) (bF y (oI x)) (aA (dA y (oI x)) (aY x.1) (aA (bM v) (AA g n e) (aA oY (kN 94 1 (pA x.2.1)) (bE (m=m) h (AU x))))))))))/\∀(x:Nat×dq×Bool×Sl×PH),I x->aR (↑x.1:Int) (aH (oI x)) (cK (oI x).a (↑x.1:Int) (oI x) (λA B C=>aK m (AU x) A (bC B x.1 1) (aM C)/\II v t C (AU x) (λs j=>AD s z j (λa G=>∃(I1:Nat×dq×Bool×
 Sl×Sl×Int×PH->Prop),fY (eJ a G) 0 (branch (!(BX x)) (pL (λD r=>aA (p9 u D) (bI j D r) (rY r/\jT (λJ H=>dD j H (bI H J r) (aA (iS (j7 x.2.1)) (dH (j7 x.2.1)) (Mu (λd=>I1 d) t z u (λd=>aA (Ab d.2.2.1) (bF C (IU d)) (aA (dQ (eJ a G) d.2.2.2.2.2.1) (bF (oI x) (wN d)) (aA (dA (oI x) (wN d)) (bO x.1 d.1) (aA (bM v) (AA g n e) (aA oY (cD 94 1 (dY (j7 x.2.1) (aM J))=pA d.2.1) (aA (m=m) (H=Gg d) True)))))))))))) (Mu (λd=>I1 d) t z u (λd=>aA (iW (BX x) d.2.2.1) (bF C (IU d)) (aA (dQ (eJ a G) d.2.2.2.2.2.1) (bF (oI x) (wN d)) (aA (dA (oI x) (wN d)) (bO x.1 d.1) (aA (bM v) (AA g n
 e) (aA oY (pA x.2.1=pA d.2.1) (aA (m=m) (j=Gg d) True)))))))) (Mu (λd=>I1 d) t z u (λd=>aA (iW (BX x) d.2.2.1) (bF C (IU d)) (aA (dQ (eJ a G) d.2.2.2.2.2.1) (bF (oI x) (wN d)) (aA (dA (oI x) (wN d)) (bO x.1 d.1) (aA (bM v) (AA g n e) (aA oY (pA x.2.1=pA d.2.1) (aA (m=m) (j=Gg d) True)))))))/\∀(d:Nat×dq×Bool×Sl×Sl×Int×PH),hU (I1 d) (d.2.2.2.2.2.1 !=0) (aA (iS (j7 d.2.1)) (dH (j7 d.2.1)) (∃(f:Nat×dq×Bool×Sl×PH),aA (I f) (F f<F x) (aA (eQ (vK t)) (aG z) (aA (aG u) dC (aA (eP 6) gQ (aA (eL 45) (iW d.2.2.1 (BX f)) (aA (bF (wN d) (oI f)) (dA (wN d) (oI f)) (aA (aU (aW d.1 1)
 f.1) (bM v) (aA (AA g n e) oY (bG (cD 94 1 (dY (j7 d.2.1) (aM (IU d)))=pA f.2.1) (m=m) (Gg d=AU f))))))))))) (∃(f:Nat×dq×Bool×Sl×PH),aA (I f) (F f<F x) (aA (eQ (vK t)) (aG z) (aA (aG u) dC (aA (eP 6) gQ (aA (eL 45) (iW d.2.2.1 (BX f)) (aA (bF (wN d) (oI f)) (dA (wN d) (oI f)) (aA (aU (aW d.1 1) f.1) (bM v) (aA (AA g n e) oY (bG (pA d.2.1=pA f.2.1) (m=m) (Gg d=AU f)))))))))))))) (∃(I1:dq×PH->Prop),branch (!(BX x)) (pL (λs r=>aA (p9 u s) (bI (AU x) s r) (rY r/\jT (λD j=>dD (AU x) j (bI j D r) (aA (iS (j7 x.2.1)) (dH (j7 x.2.1)) (∃(d:dq×PH),aA (I1 d) (eQ (vK t)) (aA
 (eP 6) gQ (aA (eL 45) (AA g n e) (aA oY (uC (j7 x.2.1) D d) (bE (m=m) j d.2)))))))))) (∃(d:dq×PH),aA (I1 d) (eQ (vK t)) (aA (eP 6) gQ (aA (eL 45) (AA g n e) (aA oY (pA x.2.1=uX d) (bE (m=m) (AU x) d.2)))))/\∀(d:dq×PH),I1 d->bT (λA B=>aA (bX (wI g) A B) (0<=(↑t:Int)) ((↑t:Int)<(↑n:Int)/\bU d.2 1 (j7 d.1) (λs j=>gE (λc E=>aA (sK m A (fC c E 0)) (fE (bC B t 1) c) (∀(L:MH),bL m L A (nR c (bC B t 1) (aM s)) E->K (pN (nT (Value.slice (wI g) n e))) L j))))))))
theorem ae:di 55 Tq:=by
 refine gO func55 ?_;rintro e m h K ⟨s,r,rfl,f,z,g⟩;refine⟨dG [] [] [] [] false,rfl,aF,aj s m h K,bu,?_⟩;dsimp only[aj,push_cast];obtain⟨⟨c,j,n,o⟩,u⟩:=f;exact⟨c.map VV.enc,Bf c,j,cg,cg,λy h' le d=>g y h' le ⟨⟨c,d,n,o⟩,u⟩⟩
theorem Kr:di 48 ZW:=by
 refine gO func48 ?_;rintro D m h K ⟨v,s,t,A,r,rfl,B,n,M,u⟩;refine⟨dG [(55,Tq)] [] [] [] false,rfl,aD ae aF,UT v t A m h K,bu,?_⟩;dsimp only[UT,push_cast];have E:=B.tables.slen;have d:=aZ.slen n;have c:tJ s t=false->K nK m h:=λe=>u ⟨none,0,0⟩ h (.refl _) (by simp only[Kj,e];exact aZ.nil _ _ _ _);refine aE (λF=>c (by simp[tJ];omega)) (λF=>aE (λG=>c (by simp[tJ];omega)) (λG=>?_));have e:tJ s t=true:=by simp[tJ];omega
 obtain⟨f,g⟩:∃f,s.tables[t.toNat]? =some f:=⟨_,cq aC⟩
 obtain⟨b,o,y,H,rd,I⟩:=aZ.at B.tables g;have O:=I.key;obtain⟨a,len,j⟩:=A;have C:len<=j:=by obtain⟨P,J,_⟩:=n.ex;exact J.cap
 have d:len=r.length:=d
 have z:(if(if(len:Int)<y.key then(len:Int)else y.key)>0 then(if(len:Int)<y.key then(len:Int)else y.key)else 0)=max 0 (min f.key r.length):=by
  omega
 refine⟨b,o,H,aC,aC,y.key,.imm (bB.part rd 2 1),?_⟩;dsimp only;rw[z];have L:Kj s t r=r.take (max 0 (min f.key r.length)).toNat:=by simp only[Kj,e,if_true,g];rfl
 rw[L]at u;exact⟨aC,aC,⟨a,(max 0 (min f.key r.length)).toNat,j⟩,_,rfl,n.cut aC,cg,u⟩
theorem Tn.snoc{key:Int}{ks:dm}{l:dn}{k:Int}{v:VV}(x:Tn key (ks.take i) l)(c:ks[i]? =some k)(f:L7 v)(g:tK key k i v=true):Tn key (ks.take (i+1)) (l++[v]):=by
 obtain⟨n,o,y⟩:=x;have z:=(cn c);have A:l.length=i:=cg
 refine⟨cg,λu d=>?_,λj u B d e=>?_⟩
 .grind
 grind
theorem UD{key k c:Int}(d:c=1\/c=2)(e:(i:Int)>=key):tK key k i ⟨c,0,⟨#[]⟩⟩=true:=by
 rcases d with rfl|rfl<;>simp[tK,jP,Hm]<;>omega
theorem agX{key k:Int}{v:VV}(c:KOk k)(d:ZT k v):tK key k i v=true:=by
 obtain⟨e,f⟩:=d c;simp[tK,e,f]
theorem TF(c:Int):L7 ⟨c,0,⟨#[]⟩⟩:=⟨⟨bx,bx⟩,by show(ByteArray.mk #[]).size<=64;decide⟩
theorem dT.at{us:dq}{rs:dl}(x:dT h us rs){r:dn}(c:rs[i]? =some r):∃u,us[i]? =some u/\bI h u r:=x.at_ i r c
theorem ajJ:di 47 bYZ:=by
 refine gO func47 ?_;rintro b1 m h K ⟨v,s,tb,n,S,us,u,t,tab,rs,sk,I,T,row,rfl,hs,U,hT,hn,hu,V,b2,a',a0,B,h0,h1,hK⟩;refine⟨bqQ v ⟨some ⟨tb,0,none⟩,n,S⟩ t sk T m,rfl,aD Kr (aD xR (aD ae aF)),UU v tb n S t sk T m h K,bu,?_⟩;dsimp only[UU,push_cast];obtain⟨y,J,b3,a1⟩:=hT;have b4:t<us.length:=(cn hu);have a2:=aZ.slen V;have b0:=aZ.slen B;have b5:((T.len:Int)==0)=false:=ce
 have a3:(y.toList.drop (0+t*1)).take [fF u].length=[fF u]:=by
  have C:y.toList[t]? =some (Sl.val u):=by
   have e:(y.toList.take us.length)[t]? =some (Sl.val u):=cg
   grind
  have M:=(cn C);rw[Nat.zero_add,Nat.mul_one,drop_eq_getElem_cons M,(List.getElem?_eq_some_iff.1 C).2];rfl
 refine⟨tb,0,rfl,aC,aC,u,.lent y 53 (0,0) J a3,λz=>z.2.2.2.1=u/\z.1<=rs.length/\PH.le h z.2.2.2.2/\∃out,dT z.2.2.2.2 z.2.1 out/\out.length<=2*z.1/\out++Bh tab I row z.2.2.1 (rs.drop z.1)=Bh tab I row false rs,λz=>rs.length-z.1,⟨(0,[],false,u,h),⟨rfl,bx,.refl _,[],dT.nil _,bx,bx⟩,cg⟩,?_⟩;rintro⟨i,E,d,u',hx⟩ ⟨e1,hi,g,out,j,F,kP⟩;dsimp only at e1 hi g j F kP⊢
 subst e1;have W:=j.len;refine aE (λM=>?_) (λb6=>?_)
 .obtain⟨r,G⟩:=eN a2 M;have a4:=(cn G);obtain⟨b,o,w,ea,rd,hv⟩:=aZ.at V G;have O:rs.drop i=r::rs.drop (i+1):=by rw[drop_eq_getElem_cons a4,(List.getElem?_eq_some_iff.1 G).2]
  rw[O,Bh]at kP;refine⟨b,o,ea,aC,aC,w,.imm (rd.mono g),v,s,t,w,r,rfl,hs.mono g,bI.mono hv g,a' r (cr G),λs' h2 A a5=>⟨s',sk,_,I,rfl,a5,bI.mono a0 (g.trans A),?_⟩⟩;rw[y9 U];generalize hc:eJ (mA tab r) I=c at kP⊢
  refine⟨λz=>z.1=i/\z.2.2.2.1=u'/\z.2.2.2.2.1=w/\z.2.2.2.2.2.1=c/\PH.le hx z.2.2.2.2.2.2/\∃out,dT z.2.2.2.2.2.2 z.2.1 out/\out.length<=2*i+1/\out++((if c≠0 then[r]else[])++Bh tab I row z.2.2.1 (rs.drop (i+1)))=Bh tab I row false rs,aE (λP=>aB (λD=>?_) (λD=>?_)) (λP=>?_),?_⟩
  .have D:d=false:=cg
   subst D;rw[if_pos ⟨P,rfl⟩,show(false||decide (0<=c))=true by simp;omega]at kP;refine⟨T,row,rfl,bI.mono B (g.trans A),h1,λH Q f R=>⟨cg,cg,(i,E++[H],true,u',w,c,Q),⟨rfl,rfl,rfl,rfl,A.trans f,out++[row],(j.mono (A.trans f)).snoc R,cg,?_⟩,?_⟩⟩
   .grind
   .rw[cv];exact MT
  .have D:d=true:=cg
   subst D;rw[if_neg bx,Bool.true_or,nil_append]at kP;exact⟨(i,E,true,u',w,c,h2),⟨rfl,rfl,rfl,rfl,A,out,j.mono A,aC,kP⟩,MT⟩
  .rw[if_neg (λh=>P h.1),show(d||decide (0<=c))=d by grind,nil_append]at kP;exact⟨(i,E,d,u',w,c,h2),⟨rfl,rfl,rfl,rfl,A,out,j.mono A,aC,kP⟩,MT⟩
  clear kP j F W out E;rintro⟨i',E,d,u2,w2,c2,Q⟩ ⟨e2,e3,e4,e5,f,out,j,F,kP⟩;dsimp only at e2 e3 e4 e5 f j F kP⊢
  subst e2 e3 e4 e5;have W:=j.len;have hw:IntKind.i64.wrap ((i':Int)+1)=((i'+1:Nat):Int):=fP aC;refine aB (λa6=>?_) (λa6=>?_)
  .rw[if_pos cg]at kP;refine⟨cg,cg,(i'+1,E++[w2],d,u2,Q),⟨rfl,aC,g.trans f,out++[r],j.snoc (bI.mono hv (g.trans f)),cg,cg⟩,aC,?_⟩;rw[hw,cv];exact MT
  .rw[if_neg cg,nil_append]at kP;refine⟨(i'+1,E,d,u2,Q),⟨rfl,aC,g.trans f,out,j,aC,kP⟩,aC,?_⟩
   grind
 .have a9:i=rs.length:=by omega
  rw[a9,drop_length,Bh]at kP;refine⟨λz=>PH.le h z.2/\dT z.2 z.1 (Bh tab I row false rs),aB (λD=>?_) (λD=>?_),?_⟩
  .have D:d=false:=cg
   rw[D,if_neg bx]at kP;refine⟨T,row,rfl,bI.mono B g,h1,λH Q f R=>⟨cg,cg,(E++[H],Q),⟨g.trans f,by rw[<-kP];exact(j.mono f).snoc R⟩,?_⟩⟩;rw[cv];exact MT
  .have D:d=true:=cg
   rw[D,if_pos rfl,append_nil]at kP;exact⟨(E,hx),⟨g,cg⟩,MT⟩
  rintro⟨b7,Q⟩ ⟨f,L⟩;dsimp only at f L⊢
  have b8:=Me (t:=tab) (key:=I) (row:=row) (l:=rs) (d:=false);refine⟨tb,0,rfl,aC,aC,λH h4 X b'=>⟨y,53,⟨J⟩,?_,λm' Y=>hK H m' h4 (f.trans X) ((L.mono X).rows b' cg) ⟨_,Y.at_,?_,?_⟩ ⟨λb hb=>(Y.other b hb).symm▸rfl⟩⟩⟩
  .omega
  .have Z:splice y.toList (0+((t:Int)).toNat*1) [fF H]=y.toList.set t (Sl.val H):=by
    rw[set_eq_take_append_cons_drop,if_pos cg];simp only[splice,Int.toNat_natCast,Nat.zero_add,Nat.mul_one,length_singleton,append_assoc];rfl
   grind
  .have Z:splice y.toList (0+((t:Int)).toNat*1) [fF H]=y.toList.set t (Sl.val H):=by
    rw[set_eq_take_append_cons_drop,if_pos cg];simp only[splice,Int.toNat_natCast,Nat.zero_add,Nat.mul_one,length_singleton,append_assoc];rfl
   rw[Z,length_set,map_set, <-a1,take_set]
def O5{α:Type}(T:List α->α->Prop):List α->List α->Prop
 |_,[]=>True
 |pre,x::r=>T pre x/\O5 T (pre++[x]) r
theorem UB{α:Type}{T:List α->α->Prop}:∀{l c:List α},O5 T c l->∀(j:Nat) x,l[j]? =some x->T (c++l.take j) x
 |[],_,_,j,x,e=>by simp at e
 |y::r,c,h,0,x,e=>by simp at e;subst e;simpa using h.1
 |y::r,c,h,j+1,x,e=>by
  have:=UB h.2 j x (cm e)
  grind
theorem A0{α:Type}{T:List α->α->Prop}{l:List α}(h:O5 T [] l):Good T l:=λj x e=>cm (UB h j x e)
theorem afX{α:Type}{T:List α->α->Prop}{l:List α}(h:Good T l)(n:Nat):Good T (l.take n):=λj x e=>by
 rw[getElem?_take]at e;split at e
 .rename_i c;rw[take_take,Nat.min_eq_left aC];exact h j x e
 .cases e
theorem axX(u:s.tables.length<=8)(g:∀t∈s.tables,t.columns.length<=8/\t.refs=[]/\t.checks=[])(y:0<=s.version)(z:s.version<=1000)(A:Good CZ s.tables):fA s=0:=by
 have c:Eo s:=⟨u,λj t e=>by
  obtain⟨n,d,o⟩:=g t (cr e);exact⟨n,by simp[d],by simp[o]⟩⟩
 have ok:LX s:=⟨y,z,A,λj t e=>by
  obtain⟨n,d,o⟩:=g t (cr e);unfold EF;rw[d];intro i x B;simp at B⟩
 rw[JT c ok];refine CD _ λe f=>?_;obtain⟨i,_,f⟩:=mem_flatMap.1 f;unfold vQ at f
 grind
theorem Wf{id:Int}(h:id=4\/id=5):Good CZ (sL id):=by
 have c:eM id=true:=by rcases h with rfl|rfl<;>rfl
 refine A0 ⟨⟨?_,?_,?_,?_,A0 ⟨⟨?_,?_,?_⟩,⟨?_,?_,?_⟩,trivial⟩⟩,⟨?_,?_,?_,?_,A0 ⟨⟨?_,?_,?_⟩,⟨?_,?_,?_⟩,⟨?_,?_,?_⟩,⟨?_,?_,?_⟩,trivial⟩⟩,⟨?_,?_,?_,?_,A0 ⟨⟨?_,?_,?_⟩,⟨?_,?_,?_⟩,trivial⟩⟩,⟨?_,?_,?_,?_,A0 ⟨⟨?_,?_,?_⟩,trivial⟩⟩,trivial⟩
 all_goals first|exact c|rfl|(simp;done)|decide
theorem T4(h:zS s):fA s=0/\s.tables≠[]:=by
 obtain⟨f,n,id,g,j,o,u,c,rfl⟩:=h.ex;refine⟨axX cg (λt d=>?_) g cg (afX (Wf c) n),λe=>?_⟩
 .have d:=mem_of_mem_take d;simp only[sL,mem_cons,not_mem_nil,or_false]at d
  grind
 .have:=congrArg List.length e;simp[sL]at this;omega
theorem PQ(h:zS s){t:zN}(d:t∈s.tables):1<=t.key/\1<=t.columns.length/\t.columns.length<=4/\∀c∈t.columns,KOk c.kind:=by
 obtain⟨g,n,id,o,u,y,z,f,rfl⟩:=h.ex;have j:KOk id:=by rcases f with rfl|rfl;exact .inr (.inl rfl);exact .inr (.inr rfl)
 have d:=mem_of_mem_take d;simp only[sL,mem_cons,not_mem_nil,or_false]at d;rcases d with rfl|rfl|rfl|rfl
 all_goals
  refine⟨bx,bx,bx,λc e=>?_⟩;simp only[mem_cons,not_mem_nil,or_false]at e
 .rcases e with rfl|rfl<;>exact .inr (.inl rfl)
 .rcases e with rfl|rfl|rfl|rfl
  .exact j
  .exact .inr (.inl rfl)
  .exact .inr (.inr rfl)
  .exact .inl rfl
 .rcases e with rfl|rfl<;>exact .inr (.inl rfl)
 grind
structure OW(s:oL)(st:List dl):Prop where
 len:st.length=s.tables.length
 few:∀l∈st,l.length<=4
 ok:Hc s st
 val:V7 st
theorem eX.iceB{n:MH}{hx:PH}{r:CV}{f:Nat}{d:Array Value}{E:TypeId}(g:n f=some (.cells d E (0,0)))(le:PH.le h hx)(y:∀u,PH.le hx u->(∀i,u f i=d[i]?)->K r (λb=>if b=f then none else n b) u):eX h K r n hx:=by
 intro j;have z:∀i,hx f i=none:=j f _ g
 have c:PH.le hx (λx i=>if x=f then d[i]? else hx x i):=⟨λx i v e=>by
  grind⟩
 refine⟨_,_,λb o e=>?_,le.trans c,λx i v e=>?_,y _ c (λi=>bx)⟩
 .grind
 grind
structure TSt(h:PH)(s:oL)(m:MH)(tb:Nat)(us:dq)(st:List dl):Prop where
 tbl:auQ m tb us
 ulen:us.length=s.tables.length
 slen:st.length=s.tables.length
 rows:∀(j:Nat) u l,us[j]? =some u->st[j]? =some l->Rows h u l
 ok:Hc s st
 val:V7 st
 few:∀l∈st,l.length<=4
theorem TSt.mono{c:Nat}{us:dq}{st:List dl}(x:TSt h s m c us st)(le:PH.le h h')(e:m' c=m c):TSt h' s m' c us st:=by
 obtain⟨d,o,f,g⟩:=x.tbl;exact⟨⟨d,cg,f,g⟩,x.ulen,x.slen,λj u l a b=>aZ.mono (x.rows j u l a b) le λr t n=>bI.mono n le,x.ok,x.val,x.few⟩
theorem bkJ{t:zN}{r:dn}(h:Tn t.key (t.columns.map pF.kind) r):Ai t r=true:=by
 obtain⟨c,_,d⟩:=h;rw[length_map]at c;refine zI.2 ⟨c,λi e=>?_⟩
 grind
theorem aGQ{key k:Int}{v:VV}(h:tK key k i v=true)(c:L7 v):nL v.kind/\nL v.int:=by
 simp only[tK,cz]at h;have:=Lk h.1;exact⟨⟨aC,aC⟩,c.int_⟩
theorem TSt.put{A t:Nat}{us:dq}{st:List dl}{u':Sl}{tab:zN}{l:dl}{row:dn}(x:TSt h s m A us st)(le:PH.le h h')(G:s.tables[t]? =some tab)(B:st[t]? =some l)(J:auQ m' A (us.set t u'))(f:Rows h' u' (Bh tab (mA tab row) row false l))(z:Tn tab.key (tab.columns.map pF.kind) row)(Q:l.length<=3):
 TSt h' s m' A (us.set t u') (st.set t (Bh tab (mA tab row) row false l)):=by
 have C:=bkJ z;have D:=(cn B);have o:=x.ok t tab l G B;refine⟨J,by rw[length_set];exact x.ulen,by rw[length_set];exact x.slen,λj u g H c=>?_,λj L g n c=>?_,λg c=>?_,λg c=>?_⟩
 .by_cases e:t=j
  .grind
  .rw[getElem?_set_ne e]at H c;exact aZ.mono (x.rows j u g H c) le λr t y=>bI.mono y le
 .by_cases e:t=j
  .subst e;rw[getElem?_set_self D]at c;rw[G]at n;cases c;cases n;refine⟨λr f=>?_,λi r M O P=>(Nt (Pr.of o.2)).adj i r M O P⟩;rcases Md f with rfl|f
   .exact C
   .exact o.1 r f
  .rw[getElem?_set_ne e]at c;exact x.ok j L g n c
 .rcases mem_or_eq_of_mem_set c with E|rfl
  .exact x.val g E
  .intro r f v y;rcases Md f with rfl|f
   .obtain⟨i,I,rfl⟩:=mem_iff_getElem.1 y;have F:i<(tab.columns.map pF.kind).length:=by rw[<-z.1];exact I
    exact aGQ (z.2.2 i _ _ (cq I) (cq F)) (z.2.1 _ y)
   .exact x.val l (cr B) r f v y
 .rcases mem_or_eq_of_mem_set c with E|rfl
  .exact x.few g E
  .have:=Me (t:=tab) (key:=mA tab row) (row:=row) (l:=l) (d:=false)
   grind
abbrev Rel:=dl
theorem bkQ{l:Rel}{x:dn}:P6 l x=false↔x∉l:=by
 rw[<-MX];grind
def bZQ:Vc.Spec:=λc m h K=>∃s t l r,c=[cS s,cS t]/\Rows h s l/\bI h t r/\oK l/\K (cB (P6 l r)) m h
def beQ:Vc.Spec:=λc m h K=>∃s t i l k,c=[cS s,cS t,cB i]/\Rows h s l/\Rows h t k/\oK k/\l.length<=8000000/\∀d h',PH.le h h'->Rows h' d (l.filter λx=>P6 k x==i)->K (cS d) m h'
noncomputable def aPQ(s t:Sl)(m:MH)(h:PH):Ctx:=
 dG [(65,C4)] [(2,{A:=Nat×Nat,st:=λ⟨c,d⟩=>bK 42 44 [(0,sv s),(1,sv t),(5,iv c),(6,iv d)] [] m h})] [] [] false
noncomputable def aPZ(s t:Sl)(i:Bool)(m:MH)(h:PH):Ctx:=
 dG [(209,bZQ)] [(3,{A:=Nat×dq,st:=λ⟨j,c⟩=>bK 27 30 [(1,sv t),(2,bv i),(7,.at (.lst 24)),(10,sv s),(11,iv s.len),(12,iv j)] [(24,.lst 94 1 (c.map eS))] m h})] [] [] false
noncomputable abbrev Ip(a:Nat×Nat):Int:=aW a.1 (iJ (Int.tdiv (iJ ((↑a.2:Int)-(↑a.1:Int))) 2))
attribute [push_cast] Ip
def QO(s t:Sl)(m:MH)(h:PH)(K:dk):Prop:=
  Gj (λI x=>aA (I x) (aG s) (aA (aG t) (aY x.1) (bG (vK s.len=vK x.2) (m=m) (h=h)))) (λI d x=>I x->aR (↑x.1:Int) (↑x.2:Int) (kF ((2:Int)=0)/\cK s.a (Ip x) s (λb o y=>aK m h b (cF o (Ip x) 1) (aM y)/\AD y t h (λa e=>aR (eJ a e) 0 (∃(c:Nat×Nat),aA (I c) (d c<d x) (aA (aG s) (aG t) (aA (SV.at (At.val (fB (iJ (Ip x+1))))=vK c.1) (bO x.2 c.2) (aA (m=m) (h=h) True)))) (∃(c:Nat×Nat),aA (I c) (d c<d x) (aA (aG s) (aG t) (aA (bO x.1 c.1) (SV.at (At.val (fB (Ip x)))=vK c.2) (aA (m=m) (h=h) True))))))) (aR (↑x.1:Int) (aH s) (cK s.a (↑x.1:Int) s (λb o y=>aK m h b (bC o x.1 1) (aM y)/\AD y t h (λa e=>K (zU (eJ a e==0)) m h))) (K aX m h)))
abbrev IH(a:(Nat×dq->Prop)->(Nat×dq)->Prop)(b:Sl)(c:MH)(d:PH)(e:(Nat×dq->Prop)->(Nat×dq->Nat)->(Nat×dq)->Sl->Prop)(g:(Nat×dq)->Prop):Prop:=∃(x:Nat×dq->Prop)(n:Nat×dq->Nat),(∃(f:Nat×dq),a x f)/\∀(f:Nat×dq),x f->aR (↑f.1:Int) (aH b) (cK b.a (↑f.1:Int) b (λo u j=>aK c d o (bC u f.1 1) (aM j)/\e x n f j)) (g f)
abbrev I7(a:Nat×dq)(b:(Nat×dq)->Prop):Prop:=aA (iS (j7 a.2)) (dH (j7 a.2)) (∃(x:Nat×dq),b x)
abbrev I6(a:Nat×dq)(b:Sl)(c:Nat×dq):Prop:=cD 94 1 (dY (j7 a.2) (aM b))=pA c.2
abbrev AW(a b:Nat×dq):Prop:=pA a.2=pA b.2
attribute [push_cast] IH I7 I6 AW
def QQ(s t:Sl)(i:Bool)(m:MH)(h:PH)(K:dk):Prop:=
  IH (λI x=>aA (I x) (aG t) (aA (eQ (sQb i)) (eL 24) (aA (aG s) (a7 s) (aA (aY x.1) (kN 94 1 (pA x.2)) (bE (m=m) h h))))) s m h (λI d x y=>kQ (λe f=>∃(l:dl)(r:dn),aA (fN t y=fN e f) (Rows h e l) (aA (bI h f r) (oK l) (branch (P6 l r==i) (I7 x (λc=>aA (I c) (d c<d x) (aA (aG t) (eQ (sQb i)) (aA (eL 24) (aG s) (aA (a7 s) (aU (aW x.1 1) c.1) (bG (I6 x y c) (m=m) (h=h))))))) (∃(c:Nat×dq),aA (I c) (d c<d x) (aA (aG t) (eQ (sQb i)) (aA (eL 24) (aG s) (aA (a7 s) (aU (aW x.1 1) c.1) (bG (AW x c) (m=m) (h=h)))))))))) (λx=>oB h (j7 x.2) K m)
theorem XE:di 209 bZQ:=by
 refine gO func209 ?_;rintro T m h K ⟨s,t,l,r,rfl,C,O,U,E⟩;refine⟨aPQ s t m h,rfl,aD xR aF,QO s t m h K,bu,?_⟩;dsimp only[QO,push_cast];have V:=aZ.slen C;have W:=C.len;refine⟨λx=>x.1<=x.2/\x.2<=l.length/\(∀(j:Nat) y,j<x.1->l[j]? =some y->eJ y r<0)/\(∀(j:Nat) y,x.2<=j->l[j]? =some y->0<=eJ y r),λx=>x.2-x.1,⟨(0,l.length),⟨bx,bx,λj y g=>by simp at g,λj y g n=>cg⟩,cg⟩,?_⟩;rintro⟨c,d⟩ ⟨X,P,Q,R⟩;dsimp only at X P Q R⊢
 have S:∀{i j:Nat}{x y},l[i]? =some x->l[j]? =some y->i<j->eJ x y<0:=fun{i j x y} Y n F=>by
  obtain⟨G,rfl⟩:=List.getElem?_eq_some_iff.1 Y;obtain⟨H,rfl⟩:=List.getElem?_eq_some_iff.1 n;exact pairwise_iff_getElem.1 U i j G H F
 refine aE (λZ=>?_) (λa'=>?_)
 .have e1:IntKind.i64.wrap ((d:Int)-(c:Int))=((d-c:Nat):Int):=by
   rw[show(d:Int)-(c:Int)=((d-c:Nat):Int)by omega];exact dR aC aC
  have A:(((d-c:Nat):Int)).tdiv 2=(((d-c)/2:Nat):Int):=by
   grind
  have e3:IntKind.i64.wrap ((((d-c)/2:Nat):Int))=(((d-c)/2:Nat):Int):=dR aC aC
  have e4:IntKind.i64.wrap ((c:Int)+(((d-c)/2:Nat):Int))=((c+(d-c)/2:Nat):Int):=by
   rw[show(c:Int)+(((d-c)/2:Nat):Int)=((c+(d-c)/2:Nat):Int)by omega];exact dR aC aC
  rw[e1,A,e3,e4];generalize D:c+(d-c)/2=k;have I:c<=k:=by omega
  have a0:k<d:=by omega
  rw[fP aC];have f:k<l.length:=by omega
  obtain⟨b,o,u,J,rd,L⟩:=aZ.at C (cq f);refine⟨bz,b,o,J,aC,aC,u,.imm rd,u,t,l[k],r,rfl,L,O,aE (λz=>?_) (λz=>?_)⟩
  .refine⟨(k+1,d),⟨aC,P,λj y g n=>?_,R⟩,aC,MT⟩;by_cases M:j=k
   .grind
   .exact JF (S n (cq f) aC) z
  .refine⟨(c,k),⟨I,aC,Q,λj y g n=>?_⟩,aC,MT⟩;by_cases M:j=k
   .grind
   .have h6:=S (cq f) n aC;refine Int.not_lt.1 λh7=>?_;exact z (JF h6 h7)
 .have e:c=d:=by omega
  subst e;refine aE (λz=>?_) (λz=>?_)
  .have B:c<l.length:=by omega
   obtain⟨b,o,u,J,rd,L⟩:=aZ.at C (cq B);refine⟨b,o,J,aC,z,u,.imm rd,u,t,l[c],r,rfl,L,O,?_⟩
   have A:(eJ l[c] r==0)=P6 l r:=by
    rw[Bool.eq_iff_iff,beq_iff_eq,MX,i7];refine⟨λe=>e▸getElem_mem B,λD=>?_⟩;obtain⟨j,g⟩:=getElem?_of_mem D;have hz:eJ r r=0:=i7.2 rfl
    grind
   rw[A];exact E
  .have A:P6 l r=false:=by
    rw[bkQ];intro D;obtain⟨j,g⟩:=getElem?_of_mem D;have hz:eJ r r=0:=i7.2 rfl
    grind
   rw[A]at E;exact E
theorem XG:di 205 beQ:=by
 refine gO func205 ?_;rintro E m h K ⟨s,t,i,l,k,rfl,A,F,G,M,H⟩;refine⟨aPZ s t i m h,rfl,aD XE aF,QQ s t i m h K,bu,?_⟩;dsimp only[QQ,push_cast];have f:=aZ.slen A;refine⟨λx=>x.1<=l.length/\x.2.length<=x.1/\dT h x.2 ((l.take x.1).filter λx=>P6 k x==i),λx=>l.length-x.1,⟨(0,[]),⟨bx,bx,cm (dT.nil h)⟩,MT⟩,?_⟩;rintro⟨j,B⟩ ⟨I,g,d⟩;dsimp only at I g d⊢
 refine aE (λc=>?_) (λJ=>?_)
 .obtain⟨r,C⟩:=eN f c;obtain⟨b,o,u,e,rd,D⟩:=aZ.at A C;have n:=kA (λx=>P6 k x==i) C;rw[fP aC];refine⟨b,o,e,aC,c,u,.imm rd,t,u,k,r,rfl,F,D,G,aB (λy=>?_) (λy=>?_)⟩
  .rw[if_pos y]at n;exact⟨cg,cg,(j+1,B++[u]),⟨aC,ce,by rw[n];exact d.snoc D⟩,aC,by rw[cv];exact MT⟩
  .rw[if_neg (by rw[y];simp),append_nil]at n;exact⟨(j+1,B),⟨aC,cg,cg⟩,aC,MT⟩
 .rw[cu aC]at d
  exactλL h' le z=>H L h' le ((d.mono le).rows z cg)
variable{cN:Nat}
theorem vals_of{s:Sl}{l:dn}(r:bN h s 3 (l.map VV.enc))(d:l.length<=1000):bI h s l:=⟨⟨l,r,rfl,λi x c=>⟨x,c,rfl⟩⟩,aC⟩
end Go.Ps
