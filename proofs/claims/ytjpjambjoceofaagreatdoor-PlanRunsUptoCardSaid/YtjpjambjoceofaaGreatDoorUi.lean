/- Own work. -/
import Derived.Test.YtjpjambjoceofaaGreatDoorUh
set_option linter.unusedVariables false
set_option linter.unusedSimpArgs false
namespace Go.Ps
open Go Go.Vc Go.Proofs List Tryz
variable{K:dk}{m:MH}{h:PH}{s:lL}{ps:dl}{ts:dv}{cb:Nat}{sc:bX}{v:QV}{q:Query}{t:Step}{p:Pred}{l:dl}{i:Nat}{N:Nat}{m':MH}{h':PH}{co:dl}{gr:dl}{od:dr}{w:Pred}{ta:Int}{li:Int}{xs:List dj}{sz:Nat}{k:Nat}{ks:List dl}{rs:dl}{r:Sl}{a:dl}{b:Nat}
def akX:Vc.Spec:=λc m h K=>∃u b v w r,c=[cS u,cP b]/\m b=some (.cells ⟨gA.enc v⟩ 123 (0,0))/\dX h w v.where_/\bT h u r/\K (cB (iB r w)) m h
def bMX(t:Bool):Vc.Spec:=λc m h K=>∃u b s l r,c=[cS u,cP b]/\m b=some (.cells #[.slice s.a s.len s.cap] 53 (0,0))/\Rows h s l/\jU l/\bT h u r/\l.length<=8000000/\K (cB (Lu l r==t)) m h
def bIQ:Vc.Spec:=λe m h K=>∃u d f y s r c ks,e=[cS u,cP d,cP f]/\m d=some (.cells #[.map (some y)] 169 (0,0))/\m f=some (.cells #[.slice s.a s.len s.cap] 33 (0,0))/\DT m y ks/\Ints h s c/\bT h u r/\U6 r/\fS r.length c/\gS m/\∀t:Bool,(t=true↔oY (pick r c)∈ks)->K (cB t) m h
def bQQ:Vc.Spec:=λc m h K=>∃i:Nat,∃d e f v od g s rs r x,c=[cI i,cP d,cP e,cP f]/\m d=some (.cells ⟨gA.enc v⟩ 123 (0,0))/\m e=some (.cells #[Sl.val g] 53 (0,0))/\m f=some (.cells #[Sl.val s] 94 (0,0))/\iV h v.order od/\Rows h g rs/\bT h s r/\rs[i]? =some x/\
 K (cB (decide (i6 od x r>=0))) m h
def XL:Vc.Spec:=λc m h K=>∃(n d e f:Nat)(v:gA)(od:dr)(g s:Sl)(rs:dm)(r:dp)(w:Nat),c=[cI n,.val (.func (.func 127) #[] #[.pointer (some ⟨d,0,none⟩),.pointer (some ⟨e,0,none⟩),.pointer (some ⟨f,0,none⟩)])]/\
 m d=some (.cells ⟨gA.enc v⟩ 123 (0,0))/\m e=some (.cells #[Sl.val g] 53 (0,0))/\m f=some (.cells #[Sl.val s] 94 (0,0))/\iV h v.order od/\Rows h g rs/\bT h s r/\rs.length=n/\uO od rs/\(∀x∈rs,x.length=w)/\r.length=w/\
 K (cI ((rs.countP λy=>decide (i6 od y r<0):Nat):Int)) m h
def ajX:Vc.Spec:=λc m h K=>∃u d e v y gr od l f g r w,c=[cS u,cP d,cP e]/\m d=some (.cells #[.map (some y)] 173 (0,0))/\m e=some (.cells ⟨gA.enc v⟩ 123 (0,0))/\wO oY m h y gr od l f g/\gT w l/\fS w gr/\Ints h v.group gr/\iV h v.order od/\bT h u r/\U6 r/\r.length=w/\gS m/\
 K (cB (decide (((l.countP λy=>rG gr r y&&decide (i6 od y r<0):Nat):Int)<v.limit))) m h
def XN:Vc.Spec:=λe m h K=>∃v t f g c d,e=[aT v,cS f,cS g]/\kW h t v/\Rows h f c/\Rows h g d/\gS m/\2<=t.op/\t.op<=10/\LM t.op t.query [c,d]/\c.length<=8000000/\d.length<=8000000/\∀j h',PH.le h h'->Rows h' j (Q8 t.op t.query [c,d])->K (cS j) m h'
noncomputable def bzQ:Ctx:=rI [(118,TY),(126,XL)] [] [(2,{A:=Nat×Nat×Nat×MH×PH,st:=λ⟨q,e,g,m,h⟩=>bO 21 24 [(2,pv q),(3,pv e),(5,pv g)] [] m h})] [] [200003,200005,0] [] false
noncomputable def bZJ:Ctx:=rI [(112,chJ),(115,cEQ),(116,bMQ),(117,aiZ),(118,TY),(120,T0),(124,XU)] [(7,{A:=Nat×Nat×Sl×dn×MH×PH,st:=λ⟨i,b,s,c,m,h⟩=>bO 140 143 [(3,pv b),(7,.at (.lst 33)),(34,sv s),(35,iv s.len),(36,iv i)] [(33,.lst 94 1 (c.map eS))] m h}),
 (11,{A:=Nat×Nat×Nat×Sl×Sl×Sl×dn×dp×MH×PH,st:=λ⟨k,i,b,s,u,co,c,l,m,h⟩=>bO 140 143 [(3,pv b),(7,.at (.lst 33)),(9,sv u),(10,.at (.lst 43)),(34,sv s),(35,iv s.len),(36,iv i),(45,sv co),(46,iv co.len),(47,iv k)] [(33,.lst 94 1 (c.map eS)),(43,.lst 27 3 (l.map VV.enc))] m h}),
 (24,{A:=Nat×Nat×Nat×Sl×Sl×Sl×MH×PH,st:=λ⟨i,a,b,s,t,r,m,h⟩=>bO 140 143 [(1,sv s),(13,pv a),(14,sv t),(15,pv b),(82,sv r),(83,iv r.len),(84,iv i)] [] m h}),
 (38,{A:=Nat×dn×Nat×MH×PH,st:=λ⟨b,c,r,m,h⟩=>bO 140 143 [(3,pv b),(18,.at (.lst 131)),(118,pv r)] [(131,.lst 94 1 (c.map eS))] m h})] [] [] [200003,200005,200013,200015,200021,400000,410000,0] [] false
def a0Q(u:Sl)(b:Nat)(m:MH)(h:PH)(K:dk):Prop:=
  ∃(y:PV),aR m h b 2 y.enc/\H3 (λv s p r=>aI (Fw y u=Fw v s) (dX h p v) (bT h s r) (K (vD (iB r p)) m h))
def aZJ(u:Sl)(a b:Nat)(m:MH)(h:PH)(K:dk):Prop:=
  ∃(y:Nat),aR m h a 0 (kH (mL y))/\∃(d:Sl),aA (aR m h b 0 (aM d)) (aR m h a 0 (kH (mL y))) (Pw (λs t r c=>aA (dK u d=dK s t) (bT h s r) (aA (Ints h t c) (U6 r) (aA (mH r c) (gS m) (aA (aR m h a 0 (kH (mL y))) (aR m h b 0 (aM d)) (J5 m y (λO=>O (iT r c)) (λe=>e.1=iT r c) (K aX m h) (λk f=>List.Mem (iT r c,f) k->K (vD f) m h)))))))
def aZZ(u:Sl)(b:Nat)(m:MH)(h:PH)(K:dk):Prop:=
  kZ m h b 0 (λy=>LP (λs c l r=>aA (dK y u=dK s c) (Rows h s l) (aA (jU l) (bT h c r) (mZ l/\K (CV.val (Value.bool (!(Lu l r)))) m h))))
def aZQ(u:Sl)(b:Nat)(m:MH)(h:PH)(K:dk):Prop:=
  kZ m h b 0 (λy=>LP (λs c l r=>aA (dK y u=dK s c) (Rows h s l) (aA (jU l) (bT h c r) (mZ l/\K (vD (Lu l r)) m h))))
def Tw(i:Nat)(u d x:Nat)(m:MH)(h:PH)(K:dk):Prop:=
  kZ m h u 18 (λy=>kZ m h d 0 (λc=>aJ (λb o=>aI (aK c.a b o) (0<=(↑i:Int)) ((↑i:Int)<aF c) (∃(e:Sl),aR m h b (bE o i 1) (aM e)/\∃(f:Sl),aA (aR m h x 0 (aM f)) (aR m h d 0 (aM c)) (gQ (λg s=>Py (λt j=>I9 (λa n=>aA (cA y (dK e f)=cA g (dK s t)) (iV h g j) (aA (bT h s a) (bT h t n) (aR m h d 0 (aM c)/\K (vD (decide (i6 j a n>=0))) m h))))))))))
abbrev Ew(a:MH)(b:Nat)(c:Value)(d:MH->(Nat×Nat×Nat×MH×PH)->Prop):Prop:=kS (λx e=>aA (Gc a b (lF x e 0)) (nR 0 x) (∀(f:MH),gP a f b (tA c 1 x.toList) e->∃(g:Nat×Nat×Nat×MH×PH),d f g))
abbrev tR(a:dm)(b:dp->Prop):Prop:=∀(x:dp),List.Mem x a->b x
attribute [push_cast] Ew tR
def Mr(u:Sl)(a b:Nat)(m:MH)(h:PH)(K:dk):Prop:=
  mE m h (λz d=>gP m d z (aM u) 94) (λz d=>∃(I:Nat×Nat×Nat×MH×PH->Prop),Up (∃(y:Nat),aR d h a 0 (kH (mL y))/\kZ d h z 0 (λB=>∃(A:Sl),aA (aR d h b 17 (aM A)) (aR d h a 0 (kH (mL y))/\Pw (λs t r c=>aA (dK B A=dK s t) (bT h s r) (aA (Ints h t c) (U6 r) (aA (mH r c) (gS d) (aA (aR d h a 0 (kH (mL y))) (Hw (aR d h z 0 (aM B)) (aR d h b 17 (aM A)) d y r c (λk=>J6 k r c (aI (aR d h a 0 (kH (mL y))) (aR d h z 0 (aM B)) (aR d h b 17 (aM A)) (mE d h (λf j=>gP d j f lV 53) (λf j=>Ew j f sC (λC x=>aA (I x) (dP b x.1) (aA (dP z (jD x)) (dP f (j5 x)) (bG C (jJ x) h (iX x)))))))) (λk D=>List.Mem (iT r c,D) k->
 aI (aR d h a 0 (kH (mL y))) (aR d h z 0 (aM B)) (aR d h b 17 (aM A)) (mE d h (λf j=>gP d j f lV 53) (λf j=>Ew j f (iI D) (λC x=>aA (I x) (dP b x.1) (aA (dP z (jD x)) (dP f (j5 x)) (bG C (jJ x) h (iX x)))))))) (aI (aR d h a 0 (kH (mL y))) (aR d h z 0 (aM B)) (aR d h b 17 (aM A)) (mE d h (λf j=>gP d j f lV 53) (λf j=>Hw (aR j h z 0 (aM B)) (aR j h b 17 (aM A)) j y r c (λk=>J6 k r c (Ew j f sC (λC x=>aA (I x) (dP b x.1) (aA (dP z (jD x)) (dP f (j5 x)) (bG C (jJ x) h (iX x)))))) (λk D=>List.Mem (iT r c,D) k->Ew j f (iI D) (λC x=>aA (I x) (dP b x.1) (aA (dP z (jD x)) (dP f (j5 x)) (bG C
 (jJ x) h (iX x))))))))))))) (aA (aR d h a 0 (kH (mL y))) (aR d h z 0 (aM B)) (aR d h b 17 (aM A)/\mE d h (λf j=>gP d j f lV 53) (λf j=>aR j h a 0 (kH (mL y))/\Pw (λs t r c=>aA (dK B A=dK s t) (bT h s r) (aA (Ints h t c) (U6 r) (aA (mH r c) (gS j) (aA (aR j h a 0 (kH (mL y))) (aR j h z 0 (aM B)) (aR j h b 17 (aM A)/\∃(k:fc)(O:Value->Prop),aA (qM j y (List.map (fun(p:Value×Sl)=>(p.1,iI p.2)) k)) (DO 9 O) (aA (O (iT r c)) (∀(e:Value×Sl),List.Mem e k->O e.1) (J6 k r c (Ew j f sC (λC x=>aA (I x) (dP b x.1) (aA (dP z (jD x)) (dP f (j5 x)) (bG C (jJ x) h (iX x)))))/\∀(D:Sl),List.Mem (iT r c,D) k->Ew j f (iI D) (λC x
 =>aA (I x) (dP b x.1) (aA (dP z (jD x)) (dP f (j5 x)) (bG C (jJ x) h (iX x)))))))))))))))) (λx=>I x->kZ (jJ x) (iX x) (j5 x) 0 (λy=>aJ (λn f=>aJ (λF G=>∃(v:gA)(o:dr),LP (λg s r E=>∃(w:Nat),aA (fO (aF y) (Cn 127 (Array.mk (bC (vQp x.1 0) (vQp (j5 x) 0) (xQ (jD x)))))=fO (↑n:Int) (Cn 127 (Array.mk (bC (vQp f 0) (vQp F 0) (xQ G))))) (x.2.2.2.1 f=Option.some (lF (Array.mk v.enc) 123 0)) (aA (x.2.2.2.1 F=Option.some (lF (Array.mk (aM g)) 53 0)) (x.2.2.2.1 G=Option.some (lF (Array.mk (aM s)) 94 0)) (aA (iV (iX x) v.order o) (Rows (iX x) g r) (aA (bT (iX x) s E) (r.length=n) (aI (uO o r) (tR r (λH=>H.length=w)) (E.length=w) (xV (jJ x)
 (iX x) x.1 19 (λB=>K (CV.val (Value.bool (decide ((↑(countP (fun(A:dp)=>decide (i6 o A E<0)) r):Int)<B)))) (jJ x) (iX x)))))))))))))
abbrev Hy(a:Sl)(b:Nat)(c:dj)(d:PH)(e:Nat->dj->dm->(dp->Bool)->Sl->dp->Prop)(g:dk)(i:MH):Prop:=∃(x:Sl)(o:Nat)(u:dj)(j:dm)(y:dp->Bool),aA (fP a (Cn b (Array.mk c))=fP x (Cn o (Array.mk u))) (Rows d x j) (aA (mZ j) (∀(n:Sl)(f:dp),e o u j y n f) (fT (λn f=>dN d f (Rows f n (filter y j)) (g (F9 n) i f))))
noncomputable abbrev AD(a:Nat×Nat×Sl×dn×MH×PH):Sl:=a.2.2.1
noncomputable abbrev BS(a:Nat×Nat×Sl×dn×MH×PH):Nat->Option Obj:=a.2.2.2.2.1
noncomputable abbrev Di(a:Nat×Nat×Sl×dn×MH×PH):Nat->Nat->Option Value:=a.2.2.2.2.2
noncomputable abbrev HL(a:Nat×Nat×Nat×Sl×Sl×Sl×dn×dp×MH×PH):Sl:=a.2.2.2.2.1
noncomputable abbrev BR(a:Nat×Nat×Nat×Sl×Sl×Sl×dn×dp×MH×PH):Sl:=a.2.2.2.1
noncomputable abbrev AB(a:Nat×Nat×Nat×Sl×Sl×Sl×dn×dp×MH×PH):Sl:=a.2.2.2.2.2.1
noncomputable abbrev Fa(a:Nat×Nat×Nat×Sl×Sl×Sl×dn×dp×MH×PH):List dj:=kR a.2.2.2.2.2.2.2.1
noncomputable abbrev Fb(a:Nat×Nat×Nat×Sl×Sl×Sl×dn×dp×MH×PH):Nat->Option Obj:=a.2.2.2.2.2.2.2.2.1
noncomputable abbrev E9(a:Nat×Nat×Nat×Sl×Sl×Sl×dn×dp×MH×PH):Nat->Nat->Option Value:=a.2.2.2.2.2.2.2.2.2
abbrev Fp(a:PH)(b:dm)(c:dk)(d:MH):Prop:=fT (λx e=>dN a e (Rows e x (Bb b)) (c (F9 x) d e))
noncomputable abbrev vA(a:Nat×Nat×Nat×Sl×Sl×Sl×MH×PH):Sl×Sl×Sl×MH×PH:=a.2.2.2
noncomputable abbrev AE(a:Nat×Nat×Nat×Sl×Sl×Sl×MH×PH):Nat:=a.2.2.1
noncomputable abbrev sJ(a:Nat×Nat×Nat×Sl×Sl×Sl×MH×PH):Sl:=(vA a).2.2.1
noncomputable abbrev qW(a:Nat×Nat×Nat×Sl×Sl×Sl×MH×PH):Nat->Option Obj:=sV (vA a).2.2
noncomputable abbrev qZ(a:Nat×Nat×Nat×Sl×Sl×Sl×MH×PH):Nat->Nat->Option Value:=uQ (vA a).2.2
noncomputable abbrev Dj(a:Nat×dn×Nat×MH×PH):Nat:=a.2.2.1
noncomputable abbrev Fc(a:Nat×dn×Nat×MH×PH):Nat->Option Obj:=a.2.2.2.1
noncomputable abbrev Fe(a:Nat×dn×Nat×MH×PH):Nat->Nat->Option Value:=a.2.2.2.2
noncomputable abbrev pJ(a:Sl)(b:Int):Int:=ite (aF a<b) (aF a) b
attribute [push_cast] Hy AD BS Di HL BR AB Fa Fb E9 Fp vA AE sJ qW qZ Dj Fc Fe pJ
def P2(v:gA)(H s2:Sl)(m:MH)(h:PH)(K:dk):Prop:=
  mE m h (λb X=>gP m X b v.enc 123) (λb X=>mE X h (λT j=>gP X j T (aM s2) 53) (λT j=>xV j h b 0 (λy=>cO (y==2) (Hy H 113 (xQ b) h (λg c l p u r=>List.Mem r l->bT h u r->FAt Proofs.Tryz.prog g 4 (cA u (List.map CV.val c)) j h (fun(x:dj)=>fun(z:MH)=>fun(f:PH)=>aA (x=uG (p r)) (z=j) (f=h))) K j) (y==3) (aA (bY 0) (bY (aF H)) (aA (sK H 24) (qU (aF H)) (∃(I:Nat×Nat×Sl×dn×MH×PH->Prop)(z:Nat×Nat×Sl×dn×MH×PH->Nat),(∃(x:Nat×Nat×Sl×dn×MH×PH),aA (I x) (dP b x.2.1) (aA (eL 33) (bA H (AD x)) (aA (cJ H (AD x)) (aZ x.1) (aA (pE x.2.2.2.1) (j=BS x) (bR h (Di x))))))/\∀(x:Nat×Nat×Sl×dn×MH×PH),I x->aW
 (↑x.1:Int) (aF (AD x)) (aJ (λA o=>aI (aK (AD x).a A o) (0<=(↑x.1:Int)) ((↑x.1:Int)<aF (AD x)) (∃(G:Sl),aR (BS x) (Di x) A (bE o x.1 1) (aM G)/\∃(B:Sl),aA (aR (BS x) (Di x) x.2.1 15 (aM B)) (bY (aF B)) (aA (aF B<=aF B) (sK B 32) (qU (aF B)/\∃(F:Sl),aR (BS x) (Di x) x.2.1 15 (aM F)/\∃(I1:Nat×Nat×Nat×Sl×Sl×Sl×dn×dp×MH×PH->Prop)(L:Nat×Nat×Nat×Sl×Sl×Sl×dn×dp×MH×PH->Nat),(∃(d:Nat×Nat×Nat×Sl×Sl×Sl×dn×dp×MH×PH),aA (I1 d) (dP x.2.1 d.2.2.1) (aA (eL 33) (bA G (HL d)) (aA (eL 43) (bA (AD x) (BR d)) (aA (cJ (AD x) (BR d)) (bV x.1 d.2.1) (aA (bA F (AB d)) (cJ F (AB d))
 (aA (aZ d.1) (rY x.2.2.2.1 d.2.2.2.2.2.2.1) (bS (bW 27 3 (xH (aF B) yP)=bW 27 3 (Fa d)) (BS x) (Fb d) (Di x) (E9 d))))))))/\∀(d:Nat×Nat×Nat×Sl×Sl×Sl×dn×dp×MH×PH),I1 d->aW (↑d.1:Int) (aF (AB d)) (aJ (λQ W=>aI (aK (AB d).a Q W) (0<=(↑d.1:Int)) ((↑d.1:Int)<aF (AB d)) (∃(C:Int),aR (Fb d) (E9 d) Q (bE W d.1 1) (bQ C)/\aJ (λY o2=>aI (aK (HL d).a Y o2) (0<=C) (C<aF (HL d)) (∃(Z:VV),aI (aR (Fb d) (E9 d) Y (cC o2 C 3) Z.enc) (0<=(↑d.1:Int)) ((↑d.1:Int)<j7 (Fa d)) (∃(e:dj),aA (jZ (Fa d) (↑d.1:Int) e) (3<=e.length) (∃(n:Nat×Nat×Nat×Sl×Sl×Sl×dn×dp×MH×PH),aA (I1
 n) (L n<L d) (aA (dP d.2.2.1 n.2.2.1) (eL 33) (aA (bA (HL d) (HL n)) (eL 43) (aA (bA (BR d) (BR n)) (cJ (BR d) (BR n)) (aA (bV d.2.1 n.2.1) (bA (AB d) (AB n)) (aA (cJ (AB d) (AB n)) (eR (bF ((↑d.1:Int)+1))=bL n.1) (aA (rY d.2.2.2.2.2.2.1 n.2.2.2.2.2.2.1) (bW 27 3 (xL (Fa d) (↑d.1:Int) (bC (fE Z.kind) (fE Z.int) (tA (Value.string Z.text) 3 e)))=bW 27 3 (Fa n)) (aA (Fb d=Fb n) (E9 d=E9 n) True)))))))))))))) (bU (E9 d) 3 (Fa d) (λs f=>iY (iA d.2.2.2.2.2.2.1) 24 (∃(n:Nat×Nat×Sl×dn×MH×PH),aA (I n) (z n<z x) (aA (dP d.2.2.1 n.2.1) (eL 33) (aA (bA (BR d) (AD n)) (cJ (BR d) (AD n)) (aA (eR (bF
 ((↑d.2.1:Int)+1))=bL n.1) (jS (iA d.2.2.2.2.2.2.1) s n.2.2.2.1) (bG (Fb d) (BS n) f (Di n))))))))))))) (bU (Di x) 1 (iA x.2.2.2.1) (λs f=>∃(D:Sl)(u:dn)(l:dm),aA (eY s=eY D) (nC (BS x) f D 1 (iA u)) (aA (eD f u l) (Bf l 502633886983) (Fp f l K (BS x)))))))) (cO (y==4) (∃(G:gA),aR j h b 0 G.enc/\kZ j h T 0 (λB=>∃(M:gA)(o:dq),gQ (λs D=>∃(l E:dm),aA (cV G.enc (dK H B)=cV M.enc (dK s D)) (jA h M.on o) (aA (Rows h s l) (Rows h D E) (aI (gS j) (bbZ o [l,E]) (l.length*E.length<=8000000) (fT (λU f=>dN h f (Rows f U (flatMap (jG o E) l)) (K (F9 U) j f)))))))) (y==5) (kZ j h b 16 (λG=>EN (fun
 s o=>aA (eY G=eY s) (jA h s o) (∀(a:Sl),fT (λA f=>dN h f (Ints f a (gH o)) (Ints f A (fV o)->mE j f (λQ z=>gP j z Q lV 33) (λQ z=>vR z Q (iI a) (λL=>CT L f (λY R=>mE R f (λb5 O=>gP R O b5 (kH (Value.map Option.none)) 169) (λb5 O=>vR O b5 (mL Y) (λm7=>kZ m7 f T 0 (λB=>∃(I:Nat×Nat×Nat×Sl×Sl×Sl×MH×PH->Prop)(m8:Nat×Nat×Nat×Sl×Sl×Sl×MH×PH->Nat),(∃(x:Nat×Nat×Nat×Sl×Sl×Sl×MH×PH),aA (I x) (bA H (vA x).1) (aA (dP Q x.2.1) (bA A (vA x).2.1) (aA (dP b5 (AE x)) (bA B (sJ x)) (aA (cJ B (sJ x)) (aZ x.1) (bG m7 (qW x) f (qZ x))))))/\∀(x:Nat×Nat×Nat×Sl×Sl×Sl×MH×PH),I x->aW (↑x.1:Int)
 (aF (sJ x)) (aJ (λb6 W=>aI (aK (sJ x).a b6 W) (0<=(↑x.1:Int)) ((↑x.1:Int)<aF (sJ x)) (∃(F:Sl),aR (qW x) (qZ x) b6 (bE W x.1 1) (aM F)/\∃(C:Nat),aA (aR (qW x) (qZ x) (AE x) 0 (kH (mL C))) (aR (qW x) (qZ x) (AE x) 0 (kH (mL C))) (CZ F (vA x).2.1 (qZ x) (λr _=>U6 r) (λr c=>aI (mH r c) (gS (qW x)) (aR (qW x) (qZ x) (AE x) 0 (kH (mL C))) (Hx (qW x) C r c (λk=>∀(S:MH),qD (qW x) S C->w8 S C (k++DL (iT r c) Bc)->∃(d:Nat×Nat×Nat×Sl×Sl×Sl×MH×PH),aA (I d) (m8 d<m8 x) (aA (bA (vA x).1 (vA d).1) (dP x.2.1 d.2.1) (aA (bA (vA x).2.1 (vA d).2.1) (dP (AE x) (AE d)) (aA (bA (sJ x)
 (sJ d)) (cJ (sJ x) (sJ d)) (bS (eR (bF ((↑x.1:Int)+1))=bL d.1) S (qW d) (qZ x) (qZ d)))))) (λk l M E=>k=l++(iT r c,M)::E->∀(S:MH),qD (qW x) S C->w8 S C (l++(iT r c,Bc)::E)->∃(d:Nat×Nat×Nat×Sl×Sl×Sl×MH×PH),aA (I d) (m8 d<m8 x) (aA (bA (vA x).1 (vA d).1) (dP x.2.1 d.2.1) (aA (bA (vA x).2.1 (vA d).2.1) (dP (AE x) (AE d)) (aA (bA (sJ x) (sJ d)) (cJ (sJ x) (sJ d)) (bS (eR (bF ((↑x.1:Int)+1))=bL d.1) S (qW d) (qZ x) (qZ d)))))))))))) (Hy (vA x).1 119 (nL (vQp (AE x) 0) (vQp x.2.1 0)) (qZ x) (λg c l p u r=>List.Mem r l->bT (qZ x) u r->FAt Proofs.Tryz.prog g 4 (cA u (List.map CV.val c)) (qW x) (qZ
 x) (fun(d:dj)=>fun(S:MH)=>fun(J:PH)=>aA (d=uG (p r)) (S=qW x) (J=qZ x))) K (qW x)))))))))))))) (cO (y==6) (kZ j h T 0 (λG=>bU h 1 (aM H::gL (aM G)) (λs f=>Fq (λD l=>∃(E:dm),aA (eY s=eY D) (Leaves f D [l,E]) (aA (mZ l) (mZ E) (fT (λU J=>dN f J (Rows J U (l++E)) (∃(s5:Sl)(u:dn)(P:dm),aA (eY U=eY s5) (nC j J s5 1 (iA u)) (aA (eD J u P) (Bf P 502633886983) (Fp J P K j)))))))))) (y==7) (Hy H 121 (xQ T) h (λg c l p u r=>List.Mem r l->bT h u r->FAt Proofs.Tryz.prog g 4 (cA u (List.map CV.val c)) j h (fun(x:dj)=>fun(z:MH)=>fun(f:PH)=>aA (x=uG (p r)) (z=j) (f=h))) K j) (cO (y==8)
 (Hy H 123 (xQ T) h (λg c l p u r=>List.Mem r l->bT h u r->FAt Proofs.Tryz.prog g 4 (cA u (List.map CV.val c)) j h (fun(x:dj)=>fun(z:MH)=>fun(f:PH)=>aA (x=uG (p r)) (z=j) (f=h))) K j) (y==9) (∃(G:gA),aR j h b 0 G.enc/\∃(M:gA),Pr (λs g o=>∃(l:dm)(w:Nat),aA (iS G.enc H=iS M.enc s) (Ints h M.group g) (aA (iV h M.order o) (Rows h s l) (aI (gT w l) (fS w g) (gS j) (∀(B:Nat),iM (λz f=>∀(k:dy)(g1:ByteArray->dm),j B=Option.none->(∀(A:Nat),uW (A=B)->z A=j A)->dN h f (wO oY z f B g o l k g1) (∃(k1:dt),pX (w8 z B k1) (λr=>∀(L:MH),lZ z f r->qD z L r->mT L B r k1 k1->∃(I:Nat×dn×Nat×
 MH×PH->Prop)(R:Nat×dn×Nat×MH×PH->Nat),(∃(x:Nat×dn×Nat×MH×PH),aA (I x) (dP b x.1) (aA (eL 131) (dP r (Dj x)) (bS (pE x.2.1) L (Fc x) f (Fe x))))/\∀(x:Nat×dn×Nat×MH×PH),I x->Pu (λA k2 E=>aA (mT (Fc x) A (Dj x) k2 E) (E=[]->bU (Fe x) 1 (iA x.2.1) (λD J=>∃(U:Sl)(u:dn)(P:dm),aA (eY D=eY U) (nC (Fc x) J U 1 (iA u)) (aA (eD J u P) (Bf P 502633886983) (Fp J P K (Fc x))))) (∀(P:dt)(d:Value×Value)(l3:dt),E=P++d::l3->∀(O:MH),qD (Fc x) O (Dj x)->FV O A (Dj x) k2 (P++l3) d->Pu (λQ k3 l4=>∃(n:Value×Value),FV O Q (Dj x) k3 l4 n/\∃(D:Sl),
 n.2=iI D/\∃(F:Int),aI (aR O (Fe x) x.1 19 (bQ F)) (0<=pJ D F) (BU (pJ D F) D) (∃(C:List dj),aA (cZ 1 C) (nC O (Fe x) (Sl.mk D.a (pJ D F).toNat D.cap) 1 C) (aA (mI (iA x.2.1) C 24) (mC (iA x.2.1) C) (∃(V:Nat×dn×Nat×MH×PH),aA (I V) (R V<R x) (aA (dP x.1 V.1) (eL 131) (aA (dP (Dj x) (Dj V)) (bW 94 1 (iA x.2.1++C)=Ez V.2.1) (aA (O=Fc V) (Fe x=Fe V) True))))))))))))))))) (∃(G:gA),aR j h b 0 G.enc/\kZ j h T 0 (λB=>∃(M:gA),Pr (λs g o=>∃(l:dm)(w:Nat),aA (iS G.enc B=iS M.enc s) (Ints h M.group g) (aA (iV h M.order o) (Rows h s l) (aI (gT w l) (fS w g) (gS j) (∀(F:Nat),iM (λz f=>∀(k:List
 (ByteArray×Sl))(g1:ByteArray->dm),j F=Option.none->(∀(A:Nat),uW (A=F)->z A=j A)->dN h f (wO oY z f F g o l k g1) (mE z f (λA L=>gP z L A (kH (Value.map Option.none)) 173) (λA L=>vR L A (mL F) (λR=>Hy H 125 (nL (vQp A 0) (vQp b 0)) f (λg2 c E p u r=>List.Mem r E->bT f u r->FAt Proofs.Tryz.prog g2 4 (cA u (List.map CV.val c)) R f (fun(x:dj)=>fun(O:MH)=>fun(J:PH)=>aA (x=uG (p r)) (O=R) (J=f))) K R))))))))))))))))
theorem abJ:di 113 akX:=by
 refine fU func113 ?_;rintro c m h K ⟨u,b,v,w,r,rfl,d,e,f,g⟩;refine⟨rI [(114,Vb)] [] [] [] [0] [] false,rfl,aE abZ aG,a0Q u b m h K,bu,?_⟩;exact⟨v.where_,.of_m d rfl,v.where_,u,w,r,rfl,e,f,g⟩
theorem aaJ:di 119 bIQ:=by
 refine fU func119 ?_;rintro j m h K ⟨u,e,n,y,s,r,c,ks,rfl,f,g,o,x,z,A,d,B,C⟩;refine⟨rI [(118,TY)] [] [] [] [0] [] false,rfl,aE Cw aG,aZJ u e n m h K,bu,?_⟩;exact⟨y,.of_m f rfl,s,.of_m g rfl,.of_m f rfl,u,s,r,c,rfl,z,x,A,d,B,.of_m f rfl,.of_m g rfl,o.get C⟩
theorem aaQ:di 121 (bMX false):=by
 refine fU func121 ?_;rintro e m h K ⟨u,b,s,l,r,rfl,f,g,c,j,n,d⟩;refine⟨rI [(122,bOZ)] [] [] [] [0] [] false,rfl,aE Qr aG,aZZ u b m h K,bu,?_⟩;exact⟨s,.of_m f rfl,s,u,l,r,rfl,g,c,j,n,by rw[show(Lu l r==false)= !Lu l r by grind]at d;exact d⟩
theorem Z9:di 123 (bMX true):=by
 refine fU func123 ?_;rintro e m h K ⟨u,b,s,l,r,rfl,f,g,c,j,n,d⟩;refine⟨rI [(122,bOZ)] [] [] [] [0] [] false,rfl,aE Qr aG,aZQ u b m h K,bu,?_⟩;exact⟨s,.of_m f rfl,s,u,l,r,rfl,g,c,j,n,by rw[show(Lu l r==true)=Lu l r by grind]at d;exact d⟩
theorem Z6:di 127 bQQ:=by
 refine fU func127 ?_;rintro j m h K ⟨i,n,e,o,v,od,g,s,rs,r,x,rfl,y,z,A,B,c,C,f,D⟩;refine⟨rI [(64,G4)] [] [] [] [0] [] false,rfl,aE Sb aG,Tw i n e o m h K,bu,?_⟩;dsimp only[Tw,push_cast];have J:=bI.slen c;have L:=(cn f);obtain⟨E,F,u,G,H,I⟩:=bI.at c f;have d:aR m h e 0 [iI g]:=.of_m z rfl;exact⟨v.order,.of_m y rfl,g,d,E,F,G,aC,aC,u,.imm H,s,.of_m A rfl,d,v.order,u,s,od,x,r,rfl,B,I,C,d,D⟩
theorem Xi:di 126 XL:=Yb Z6 λy m h K⟨n,j,o,u,v,od,g,s,rs,r,z,e,A,B,C,D,c,E,F,d,G,f,H⟩=>⟨n,j,o,u,z,od,rs,r,e,by have:=c.len;omega,F,d,G,f,λi x I=>⟨i,j,o,u,v,od,g,s,rs,r,x,rfl,A,B,C,D,c,E,I,rfl,rfl,rfl⟩,H⟩
structure cgQ(m:MH)(h:PH)(v:gA)(bq be:Nat)(e:Sl)(Gk:dm)(c:Nat×Nat×Nat×MH×PH):Prop where
 c1:c.1=bq
 c2:c.2.1=be
 c3:c.2.2.2.2=h
 sub:Sub m c.2.2.2.1
 q_:c.2.2.2.1 bq=some (.cells ⟨gA.enc v⟩ 123 (0,0))
 e_:c.2.2.2.1 be=some (.cells #[Sl.val e] 94 (0,0))
 g_:∃s,c.2.2.2.1 c.2.2.1=some (.cells #[Sl.val s] 53 (0,0))/\Rows h s Gk
theorem Z7:di 125 ajX:=by
 refine Wm func125 ?_;rintro a9 m h K ⟨u,ba,L,v,y,gr,od,l,kk,G,r,w,rfl,W,F,X,J,M,Y,a6,hu,hr,Z,hT,hK⟩;refine⟨bzQ,rfl,aE Cw (aE Xi aG),Mr u ba L m h (fJ h K),bu,?_⟩;show Mr u ba L m h (fJ h K);dsimp only[Mr,push_cast];intro S C a7 a';obtain⟨D,n1⟩:=En (Sub.refl m) a7 a';have H:C S=some (.cells #[Sl.val u] 94 (0,0)):=a'.at_;have a0:fS r.length gr:=cg
 have g1:=X.keep (λo e=>D _ o e) (.refl _)
 have a1:∀{g j},lZ C h g->iD C j g (.cells #[sC] 53 (0,0))->∀z o,C z=some o->j z=some o:=fun{g j} f d z o A=>by
  have:z≠g:=λT=>by rw[T,f.m_]at A;cases A
  rw[d.other z this];exact A
 have fin:∀s,F6 kk (oY (pick r gr)) s->∀g j,lZ C h g->iD C j g (.cells #[sC] 53 (0,0))->∃(cs:Array Value)(E:TypeId),Gc j g (.cells cs E (0,0))/\0<cs.size/\∀m9,iD j m9 g (.cells (Array.mk (iI s::cs.toList.drop 1)) E (0,0))->
  ∃c:Nat×Nat×Nat×MH×PH,cgQ m h v L S u (G (oY (pick r gr))) c/\sQo L 0=sQo c.1 0/\sQo S 0=sQo c.2.1 0/\sQo g 0=sQo c.2.2.1 0/\m9=c.2.2.2.1/\h=c.2.2.2.2/\True:=λs x g j f d=>by
  refine⟨_,_,⟨d.at_⟩,bx,λm9 a2=>⟨(L,S,g,m9,h),?_,MT⟩⟩
  have O:∀z o,C z=some o->m9 z=some o:=λz o A=>by
   have:z≠g:=λT=>by rw[T,f.m_]at A;cases A
   rw[a2.other z this,d.other z this];exact A
  exact⟨rfl,rfl,rfl,λz o A=>O z o (D z o A),O _ _ (D _ _ F),O _ _ H,s,a2.at_,X.at_ x⟩
 have P:aR C h ba 0 [Value.map (some y)]:=.of_m (D _ _ W) rfl;have U:aR C h S 0 [iI u]:=.of_m H rfl;have V:aR C h L 17 [iI v.group]:=.of_m (D _ _ F) rfl;refine⟨cgQ m h v L S u (G (oY (pick r gr))),⟨y,P,u,U,v.group,V,⟨P,u,v.group,r,gr,rfl,hu,Y,hr,a0,hT.sub D,P,⟨U,V,g1.get2 (λx=>⟨P,U,V,fin _ x⟩) (λs x=>⟨P,U,V,fin _ x⟩)⟩,P,U,V,λg j f d=>?_⟩,P,U,V,λg j f d=>?_⟩,?_⟩
 .have I:=a1 f d;exact⟨.of_m (I _ _ H) rfl,.of_m (I _ _ (D _ _ F)) rfl,(g1.keep (I y) (.refl _)).get2 (λx=>fin _ x g j f d) (λs x=>fin _ x g j f d)⟩
 .have I:=a1 f d;have a3:aR j h ba 0 [Value.map (some y)]:=.of_m (I _ _ (D _ _ W)) rfl;exact⟨a3,u,v.group,r,gr,rfl,hu,Y,hr,a0,(hT.sub D).sub I,a3,.of_m (I _ _ H) rfl,.of_m (I _ _ (D _ _ F)) rfl,(g1.keep (I y) (.refl _)).get2 (λx=>fin _ x g j f d) (λs x=>fin _ x g j f d)⟩
 .rintro⟨c1,c2,g,mz,hz⟩ ⟨e1,A,T,a4,Q,a5,s,R,B⟩;dsimp only at e1 A T a4 Q a5 R⊢
  subst e1 A T;have n:=Nl KU (od:=od) J M hr Z;rw[<-(X.perm _).countP_eq]at n;refine⟨s,.of_m R rfl,s.len,c1,g,c2,v,od,s,u,G (oY (pick r gr)),r,w,rfl,Q,R,a5,a6,B,hu,B.slen.symm,X.sort _,λz a8=>?_,Z,v.limit,.of_m Q rfl,?_⟩
  .have:=(X.perm _).mem_iff.1 (show z∈_ from a8);exact J.wid z (mem_filter.1 this).1
  .rw[n];exact fJ.keep a4 (.refl _) hK
theorem cIQ(x:Value):Vc.valOf Tryz.prog 4 [x]=x:=bu
theorem Lm{g:Nat}{S:Vc.Spec}{u:Sl}{c:dj}{b:Bool}(d:di g S)(e:∀K:CV->MH->PH->Prop,K (cB b) m h->S (cS u::c.map .val) m h K):FAt Tryz.prog g 4 (cS u::c.map .val) m h λx m' h'=>x=[.bool b]/\m'=m/\h'=h:=
 Sound.fat (vs:=Sl.val u::c) d (e _ ⟨[.bool b],(congrArg CV.val (cIQ _)).symm,rfl,rfl,rfl⟩)
structure StM(m m2:MH)(b b2:Nat)(v:gA)(s2:Sl):Prop where
 sub:Sub m m2
 b_:m2 b=some (.cells ⟨gA.enc v⟩ 123 (0,0))
 s_:m2 b2=some (.cells #[Sl.val s2] 53 (0,0))
 tab:gS m2
theorem aRQ:di 68 XN:=by
 refine Wm func68 ?_;rintro k' m h K ⟨v,t,R,S,n,B,rfl,U,G,I,hT,h2,g8,P,W,b0,J⟩;refine⟨bZJ,rfl,aE acQ (aE abX (aE abQ (aE Qs (aE Cw (aE aaX (aE Z8 aG)))))),P2 v R S m h (fJ h K),bu,?_⟩;show P2 v R S m h (fJ h K);dsimp only[P2,push_cast];obtain⟨op,ta,w,co,on,gr,od,li,lf,rt⟩:=t;dsimp only[Step.query]at P J h2 g8;intro b m1 d1 a5 b2 m2 b1 a6
 have M:StM m m2 b b2 v S:=by
  obtain⟨R,n1⟩:=En (Sub.refl m) d1 a5;obtain⟨st,n2⟩:=En R b1 a6;have g9:b≠b2:=λe=>by have:=b1.m_;rw[<-e,a5.at_]at this;cases this
  exact⟨st,by rw[a6.other b g9];exact a5.at_,a6.at_,hT.sub st⟩
 clear d1 a5 b1 a6;have d2:=bI.slen G;have d3:=bI.slen I;have e0:v.op=op:=U.op_;have go:∀k,(v.op==k)=true->op=k:=λk e=>e0.symm.trans (eq_of_beq e);have b6:∀{m' h'},m' b=some (.cells ⟨gA.enc v⟩ 123 (0,0))->aR m' h' b 0 (gA.enc v):=λh=>.of_m h (take_length ..);refine⟨v.op,.of_m M.b_ rfl,aB (λe=>?_) (λn2=>aB (λe=>?_) (λn3=>aB (λe=>?_) (λn4=>aB (λe=>?_) (λn5=>aB (λe=>?_) (λn6=>aB (λe=>?_) (λn7=>aB (λe=>?_) (λn8=>aB (λe=>?_) (λn9=>?_))))))))⟩
 .obtain rfl:=go _ e;exact⟨R,113,[.pointer (some ⟨b,0,none⟩)],n,λr=>iB r w,rfl,G,W,λu r j X=>Lm abJ λK J=>⟨u,b,v,w,r,rfl,M.b_,U.where_,X,J⟩,λL h' le j=>fJ.sub M.sub le (J L h' le j)⟩
 .obtain rfl:=go _ e;obtain⟨_,k0,wd,d,C⟩:=(show Ym (.mk 3 ta w co on gr od li []) [n,B]from P)
  have d:gT wd n:=d;have hc:Ints h v.columns co:=U.columns_;have h4:=hc.slen;refine⟨aC,aC,aC,aC,λx=>x.1<=n.length/\x.2.1=b/\x.2.2.1=R/\x.2.2.2.2.1=m2/\PH.le h x.2.2.2.2.2/\eD x.2.2.2.2.2 x.2.2.2.1 ((n.take x.1).map λr=>pick r co),λx=>n.length-x.1,⟨(0,b,R,[],m2,h),⟨Nat.zero_le _,rfl,rfl,rfl,.refl _,cm (eD.nil h)⟩,MT⟩,?_⟩;rintro⟨i,b',t1,us,mx,Y⟩ ⟨hi,e1,A,O,le,j⟩;dsimp only at hi e1 A O le j⊢
  subst e1 A O;refine aD (λb7=>?_) (λd4=>?_)
  .obtain⟨r,D⟩:=dO d2 b7;obtain⟨bb,o,u,ea,rd,X⟩:=bI.at G D;have k3:=d.wid r (cr D);have d5:=bT.mono X le;have k4:=bI.slen d5;have k5:(pick r co).length=co.length:=by simp[pick]
   have d6:=j.len;rw[length_map,length_take]at d6;refine⟨bb,o,ea,aC,aC,u,.imm (rd.mono le),v.columns,.of_m M.b_ rfl,aC,aC,aC,aC,v.columns,.of_m M.b_ rfl,λz=>z.1<=co.length/\z.2.1=i/\z.2.2.1=b'/\z.2.2.2.1=t1/\z.2.2.2.2.1=u/\z.2.2.2.2.2.1=v.columns/\z.2.2.2.2.2.2.1=us/\z.2.2.2.2.2.2.2.1=(pick r co).take z.1++replicate (co.length-z.1) zeroV/\z.2.2.2.2.2.2.2.2.1=mx/\z.2.2.2.2.2.2.2.2.2=Y,λz=>co.length-z.1,⟨(0,i,b',t1,u,v.columns,us,replicate co.length zeroV,mx,Y),⟨Nat.zero_le _,rfl,rfl,rfl,rfl,rfl,rfl,bx,rfl,rfl⟩,?_⟩,?_⟩
   .dsimp only;rw[map_replicate,show((v.columns.len:Int)).toNat=co.length by omega];exact MT
   .rintro⟨k,i',d7,d8,u',cc,d9,cells,my,hy⟩ ⟨hk,e1,A,O,e4,e5,e6,e7,e8,e9⟩;dsimp only at hk e1 A O e4 e5 e6 e7 e8 e9⊢
    subst e1 A O e4 e5 e6 e7 e8 e9;refine aD (λe'=>?_) (λd4=>?_)
    .obtain⟨c,f'⟩:=dO h4 e';obtain⟨b4,o4,e4,k6⟩:=(hc.mono le).at f';obtain⟨y,h7,h8,h0,h1⟩:=Um (r:=r) cg f';obtain⟨b5,o5,y',e5,h9,rfl⟩:=bI.at d5 h7;have f0:k<co.length:=by omega
     have f1:=a9J h8 f0;refine⟨b4,o4,e4,aC,aC,c,.imm cg,b5,o5,e5,h0,aC,y,.imm h9,aC,ce,_,aJJ f0,by simp[VV.enc],(k+1,i',d7,d8,u',v.columns,d9,(pick r co).take (k+1)++replicate (co.length-(k+1)) zeroV,my,hy),⟨aC,rfl,rfl,rfl,rfl,rfl,rfl,rfl,rfl,rfl⟩,aC,?_⟩;dsimp only;refine⟨rfl,rfl,rfl,rfl,rfl,rfl,rfl,rfl,rfl,by rw[fD aC],rfl,?_,rfl,rfl,trivial⟩;rw[<-f1,map_set];rfl
    .have:k=co.length:=by omega
     subst this;rw[cu aC,Nat.sub_self,replicate_zero,append_nil]
     refineλs3 h3 E T=>⟨cg,cg,(i'+1,d7,d8,d9++[s3],my,h3),⟨aC,rfl,rfl,rfl,le.trans E,?_⟩,aC,?_⟩
     .dsimp only;rw[db,D,cv];exact(j.mono E).snoc ⟨⟨_,T,rfl,λi x Y=>⟨x,Y,rfl⟩⟩,cg⟩
     .dsimp only;rw[fD aC,cv];exact MT
  .rw[cu aC]at j
   exactλs3 h3 E T=>⟨s3,us,_,rfl,.imm T,j.mono E,ce,λL h' a' b8=>fJ.sub M.sub (le.trans (E.trans a')) (J L h' (le.trans (E.trans a')) b8)⟩
 .obtain rfl:=go _ e;obtain⟨h5,h6⟩:=(show Yn (.mk 4 ta w co on gr od li []) [n,B]from P)
  exact⟨v,b6 M.b_,S,.of_m M.s_ rfl,v,on,R,S,n,B,rfl,U.on_,G,I,M.tab,h5,h6,λL h' le j=>fJ.sub M.sub le (J L h' le j)⟩
 .obtain rfl:=go _ e;obtain⟨_,wa,wb,d,f,f2,b9⟩:=(show bbQ (.mk 5 ta w co on gr od li []) [n,B]from P)
  have d:gT wa n:=d;have f:gT wb B:=f;refine⟨v.on,.of_m M.b_ rfl,v.on,on,rfl,U.on_,λsa sb h1 F i0 i1 b3 m3 f3 c'=>⟨_,_,⟨c'.at_⟩,bx,λm4 a0 y m5 i2 Z b4 m6 f4 c0=>⟨_,_,⟨c0.at_⟩,bx,λm7 c5=>?_⟩⟩⟩;obtain⟨k7,n3⟩:=En M.sub f3 c'
  have Q:∀{z o},m2 z=some o->m4 z=some o:=fun{z o} A=>by
   have:z≠b3:=λO=>by rw[O,f3.m_]at A;cases A
   rw[a0.other z this,c'.other z this];exact A
  have c6:∀{z o},m4 z=some o->m7 z=some o/\z≠y:=fun{z o} A=>by
   have O:z≠y:=λO=>by rw[O,i2.m_]at A;cases A
   have e5:m5 z=some o:=by rw[Z.other z O];exact A
   have e4:z≠b4:=λe4=>by rw[e4,f4.m_]at e5;cases e5
   exact⟨by rw[c5.other z e4,c0.other z e4];exact e5,O⟩
  have y4:y≠b4:=λe=>by have:=f4.m_;rw[<-e,Z.at_]at this;cases this
  have i3:m7 y=some (.map #[] 0):=by rw[c5.other y y4,c0.other y y4];exact Z.at_
  have i4:m7 b2=some (.cells #[Sl.val S] 53 (0,0)):=(c6 (Q M.s_)).1;have f5:=c6 a0.at_;have V:∀{z o},m z=some o->m7 z=some o/\z≠y:=fun{z o} e=>c6 (Q (M.sub z o e));have G:=bI.mono G F (λ_ _ h=>bT.mono h F);have I:=bI.mono I F (λ_ _ h=>bT.mono h F);refine⟨S,.of_m i4 rfl,λz=>z.1<=B.length/\z.2.1=b3/\z.2.2.1=b4/\z.2.2.2.1=R/\z.2.2.2.2.1=sb/\z.2.2.2.2.2.1=S/\z.2.2.2.2.2.2.2=h1/\(∀x o,m7 x=some o->x≠y->z.2.2.2.2.2.2.1 x=some o)/\DT z.2.2.2.2.2.2.1 y ((B.take z.1).map λr=>oY (pick r (fV on))),λz=>B.length-z.1,⟨(0,b3,b4,R,sb,S,m7,h1),⟨Nat.zero_le _,rfl,rfl,rfl,rfl,rfl,rfl,λ_ _ e _=>e,cm (DT.new i3)⟩,MT⟩,?_⟩;rintro⟨i,c3,c4,t1,tb,t2,mx,Y⟩ ⟨hi,e1,A,O,e4,e5,e6,a1,a7⟩;dsimp only at hi e1 A O e4 e5 e6 a1 a7⊢
  subst e1 A O e4 e5 e6;have T7:gS mx:=hT.sub λz o e=>a1 z o (V e).1 (V e).2;have f6:mx c4=some (.cells #[.map (some y)] 169 (0,0)):=a1 c4 _ c5.at_ (Ne.symm y4);refine aD (λb7=>?_) (λd4=>?_)
  .obtain⟨r,D⟩:=dO d3 b7;obtain⟨bb,o,u,ea,rd,X⟩:=bI.at I D;have f7:=cr D;have r4:aR mx Y c4 0 [Value.map (some y)]:=.of_m f6 rfl;rw[fD aC];refine⟨bb,o,ea,aC,aC,u,.imm rd,y,r4,r4,u,tb,r,fV on,rfl,X,i1,f.row r f7,by rw[f.wid r f7];exact b9,T7,r4,a7.put (λm' i5 f8=>⟨(i+1,c3,c4,t1,tb,t2,m',Y),⟨aC,rfl,rfl,rfl,rfl,rfl,rfl,λz o A c7=>by dsimp only;rw[i5.other z c7];grind,?_⟩,aC,MT⟩)⟩;obtain⟨kk,h5,h6⟩:=f8.ex;exact⟨kk,h5,λq=>by rw[h6,db,D];grind⟩
  .rw[cu aC]at a7;refine⟨t1,119,[.pointer (some ⟨c4,0,none⟩),.pointer (some ⟨c3,0,none⟩)],n,λx=>B.any λy=>agree on x y,rfl,G,W,λu r j X=>Lm aaJ λK J=>⟨u,c4,c3,y,sa,r,gH on,_,rfl,f6,a1 c3 _ f5.1 f5.2,a7,i0,X,d.row r j,by rw[d.wid r j];exact f2,T7,λt U=>?_⟩,λL h' le j=>fJ.sub (λz o e=>a1 z o (V e).1 (V e).2) (F.trans le) (J L h' (F.trans le) j)⟩;have f9:fS r.length (gH on):=by rw[d.wid r j];exact f2
   have h1:(oY (pick r (gH on))∈B.map λz=>oY (pick z (fV on)))↔(B.any λy=>agree on r y)=true:=by
    rw[mem_map,any_eq_true];constructor
    .rintro⟨z,hz,A⟩;exact⟨z,hz,(L0 KU (d.row r j) (f.row z hz) f9 (by rw[f.wid z hz];exact b9)).1 A.symm⟩
    .rintro⟨z,hz,A⟩;exact⟨z,hz,((L0 KU (d.row r j) (f.row z hz) f9 (by rw[f.wid z hz];exact b9)).2 A).symm⟩
   grind
 .obtain rfl:=go _ e;refine⟨S,.of_m M.s_ rfl,λs h1 F D=>⟨s,n,B,rfl,⟨⟨[R,S],D,rfl,λi x Y=>?_⟩,bx⟩,W,b0,λsl h2 H j=>?_⟩⟩
  .match i,Y with
   |0,Y=>cases Y;exact⟨R,rfl,bI.mono G F (λ_ _ h=>bT.mono h F)⟩
   |1,Y=>cases Y;exact⟨S,rfl,bI.mono I F (λ_ _ h=>bT.mono h F)⟩
  .obtain⟨⟨us,D,g',i8⟩,_⟩:=j;exact⟨sl,us,n++B,rfl,.imm D,⟨g'.symm,i8⟩,aC,λL h3 E T=>fJ.sub M.sub (F.trans (H.trans E)) (J L h3 (F.trans (H.trans E)) T)⟩
 .obtain rfl:=go _ e;obtain⟨_,wd,d⟩:=(show LL (.mk 7 ta w co on gr od li []) [n,B]from P)
  exact⟨R,121,[.pointer (some ⟨b2,0,none⟩)],n,λr=>Lu B r==false,rfl,G,W,λu r j X=>Lm aaQ λK J=>⟨u,b2,S,B,r,rfl,M.s_,I,(d B bx).srt,X,b0,J⟩,λL h' le j=>fJ.sub M.sub le (J L h' le j)⟩
 .obtain rfl:=go _ e;obtain⟨_,wd,d⟩:=(show LL (.mk 8 ta w co on gr od li []) [n,B]from P)
  exact⟨R,123,[.pointer (some ⟨b2,0,none⟩)],n,λr=>Lu B r==true,rfl,G,W,λu r j X=>Lm Z9 λK J=>⟨u,b2,S,B,r,rfl,M.s_,I,(d B bx).srt,X,b0,J⟩,λL h' le j=>fJ.sub M.sub le (J L h' le j)⟩
 .obtain rfl:=go _ e;obtain⟨_,⟨wd,d,C⟩,g0⟩:=(show Yl (.mk 9 ta w co on gr od li []) [n,B]from P)
  have d:gT wd n:=d;refine⟨v,b6 M.b_,v,R,gr,od,n,wd,rfl,U.group_,U.order_,G,d,C,M.tab,λy m3 h2 kk g hy g1 H hg=>⟨_,hg.map_,λr m4 c8 i9 it=>?_⟩⟩;have a2:∀{z o},m2 z=some o->m3 z=some o:=fun{z o} e=>cg
  have Q:∀{z o},m2 z=some o->m4 z=some o/\z≠r:=fun{z o} e=>by
   have:z≠r:=λA=>by have:=a2 e;rw[A,c8.m_]at this;cases this
   exact⟨by rw[i9.other z this];exact a2 e,this⟩
  refine⟨λz=>z.1=b/\z.2.2.1=r/\z.2.2.2.2=h2/\(∀x o,m4 x=some o->x≠r->z.2.2.2.1 x=some o)/\∃left a3,mT z.2.2.2.1 y r (kk.map λp=>(Value.string p.1,iI p.2)) left/\eD h2 z.2.1 a3/\GY oY gr li n kk g left a3,λz=>leftOf z.2.2.2.1 z.2.2.1,⟨(b,[],r,m4,h2),⟨rfl,rfl,rfl,λ_ _ e _=>e,_,[],it,eD.nil _,.start⟩,MT⟩,?_⟩;rintro⟨b',us,r',mz,hz⟩ ⟨e1,A,O,c9,left,a3,a4,a8,rk⟩;dsimp only at e1 A O c9 a4 a8 rk⊢
  subst e1 A O;have d6:=a8.len;have j2:=rk.cnt;refine⟨y,_,left,a4,λd' s3 h3 E T=>?_,λk1 x1 k2 g2 m5 g3 d0=>?_⟩
  .subst d';refine⟨s3,us,a3,rfl,.imm T,a8.mono E,aC,λL h' a' b8=>fJ.sub (λz o e=>c9 z o (Q (M.sub z o e)).1 (Q (M.sub z o e)).2) (H.trans (E.trans a')) (J L h' (H.trans (E.trans a')) ?_)⟩;show Rows h' L (z8 gr od li n n);rw[rk.done KU hg d C g0];exact b8
  .have j':x1∈left:=cg
   obtain⟨p0,g4,rfl⟩:=mem_map.1 (mT.mem a4 j');have g5:v.limit=li:=U.limit_;have j0:m5 b'=some (.cells ⟨gA.enc v⟩ 123 (0,0)):=by rw[g3.other b' (Q M.b_).2];exact c9 b' _ (Q M.b_).1 (Q M.b_).2
   obtain⟨c1,c2,g6,D,j1,g'⟩:=a7J (li:=li) (hg.rows p0 g4) g0;have k8:=(hg.perm p0.1).length_eq;have j3:(oG oY gr n p0.1).length<=n.length:=length_filter_le _ _;refine⟨y,_,_,_,d0,p0.2,rfl,li,.of_m j0 (by rw[<-g5];rfl),c1,c2,g6.map eS,vE _,.imm D,cg,cg,(b',us++g6,r',m5,hz),⟨rfl,rfl,rfl,λx o e c7=>by dsimp only;rw[g3.other x c7];grind,_,a3++(g p0.1).take li.toNat,d0.it,a8.app j1,rk.step hg a4 g4 g2⟩,?_,cg⟩;show leftOf m5 r'<leftOf mz r';rw[mT.left_ d0.it,mT.left_ a4,g2];simp
 .have n2:=ne_of_beq_false n2;have n3:=ne_of_beq_false n3;have n4:=ne_of_beq_false n4;have n5:=ne_of_beq_false n5;have n6:=ne_of_beq_false n6;have n7:=ne_of_beq_false n7;have n8:=ne_of_beq_false n8;have n9:=ne_of_beq_false n9;obtain rfl:op=10:=by omega
  obtain⟨_,wd,d,f,C⟩:=(show Pe (.mk 10 ta w co on gr od li []) [n,B]from P)
  have d:gT wd n:=d;have f:gT wd B:=f;refine⟨v,b6 M.b_,S,.of_m M.s_ rfl,v,S,gr,od,B,wd,rfl,U.group_,U.order_,I,f,C,M.tab,λy m3 h2 kk g hy g1 H hg b4 m4 c8 a0=>⟨_,_,⟨a0.at_⟩,bx,λm5 Z=>?_⟩⟩
  have g7:∀{z o},m3 z=some o->m5 z=some o:=fun{z o} e=>by
   have:z≠b4:=λA=>by rw[A,c8.m_]at e;cases e
   rw[Z.other z this,a0.other z this];exact e
  have a2:∀{z o},m2 z=some o->m5 z=some o:=fun{z o} e=>g7 cg;have a9:Sub m m5:=λz o e=>a2 (M.sub z o e);exact⟨R,125,[.pointer (some ⟨b4,0,none⟩),.pointer (some ⟨b,0,none⟩)],n,λr=>decide (((B.countP λy=>rG gr r y&&decide (i6 od y r<0):Nat):Int)<v.limit),rfl,bI.mono G H (λ_ _ h=>bT.mono h H),W,λu r j X=>Lm Z7 λK J=>⟨u,b4,b,v,y,gr,od,B,kk,g,r,wd,rfl,Z.at_,a2 M.b_,hg.keep (λo=>g7) (.refl _),f,C,U.group_.mono H,U.order_.mono H,X,d.row r j,d.wid r j,hT.sub a9,J⟩,λL h' le j=>fJ.sub a9 (H.trans le) (J L h' (H.trans le) (by have e:v.limit=li:=U.limit_;rw[e]at j;exact j))⟩
def XJ(s:Sl):CV:=.val (.agg ⟨[.slice s.a s.len s.cap]⟩)
def chZ:Vc.Spec:=λc m h K=>∃v s,c=[aS v,cI 3]/\fR h s v/\K (cI (cQ s)) m h
def mQ(st:List dm):Int:=(st.map λl=>(l.length:Int)).sum
def aCJ:Vc.Spec:=λc m h K=>∃s d,c=[XJ s]/\Leaves h s d/\d.length<=1000/\K (cI (mQ d)) m h
def UG(s:lL)(t:Int)(r:dp):Bool:=vC s t&&(match s.tables[t.toNat]? with|some c=>Bh c r|none=>false)
def L1(s:lL)(t:Int)(r:dp):dp:=match(if vC s t then s.tables[t.toNat]? else none)with|some c=>mP c r|none=>[]
def ciX:Vc.Spec:=λc m h K=>∃v s t d r,c=[aS v,cI t,cS d,cI 3]/\fR h s v/\bT h d r/\K (cB (UG s t r)) m h
def aAX:Vc.Spec:=λc m h K=>∃v s t d r,c=[aS v,cI t,cS d]/\fR h s v/\bT h d r/\∀e,bT h e (L1 s t r)->K (cS e) m h
def Nx:Vc.Spec:=λc m h K=>∃v s e d,c=[aS v,cI 3,XJ e]/\fR h s v/\Leaves h e d/\d.length<=1000/\K (cI (jP s d)) m h
noncomputable def bBZ:Ctx:=cT [(175,cxX),(176,ML)] [(7,{A:=Nat×cR×Sl×MH×PH,st:=λ⟨i,t,s,m,h⟩=>bO 95 99 [(3,iv 3),(9,.at (.ptr 9 0)),(41,sv s),(42,iv s.len),(43,iv i)] [(9,.cells 87 (t.enc.map .val))] m h})] [(12,{A:=Nat×cR×VV×Sl×Bool×MH×PH,st:=λ⟨i,t,v,s,b,m,h⟩=>bO 95 99 [(3,iv 3),(9,.at (.ptr 9 0)),(10,iv i),(11,.at (.ptr 11 0)),(12,bv b),(41,sv s),(42,iv s.len),(43,iv i)] [(9,.cells 87 (t.enc.map .val)),(11,.cells 27 (v.enc.map .val))] m h}),
 (13,{A:=Nat×cR×VV×Sl×Bool×Bool×MH×PH,st:=λ⟨i,t,v,s,b,c,m,h⟩=>bO 95 99 [(3,iv 3),(9,.at (.ptr 9 0)),(10,iv i),(11,.at (.ptr 11 0)),(12,bv b),(13,bv c),(41,sv s),(42,iv s.len),(43,iv i)] [(9,.cells 87 (t.enc.map .val)),(11,.cells 27 (v.enc.map .val))] m h})] [] false
noncomputable def bBJ(s:Sl)(m:MH)(h:PH):Ctx:=cT [] [(3,{A:=Nat×Int,st:=λ⟨i,n⟩=>bO 19 20 [(3,iv n),(7,sv s),(8,iv s.len),(9,iv i)] [] m h})] [] [] false
noncomputable def f58_ctx(v:bX)(s:Sl)(m:MH)(h:PH):Ctx:=cT [(99,chZ),(100,aCJ),(101,ciX),(103,aAX),(102,DF)] [(9,{A:=Nat,st:=λi=>bO 69 72 [(1,iv 3),(3,.at (.ptr 3 0)),(29,sv s),(30,iv s.len),(31,iv i)] [(3,.cells 43 (v.enc.map .val))] m h}),
 (12,{A:=Nat×Sl×Nat,st:=λ⟨i,u,j⟩=>bO 69 72 [(1,iv 3),(3,.at (.ptr 3 0)),(8,iv i),(9,sv u),(29,sv s),(30,iv s.len),(31,iv i),(36,sv u),(37,iv u.len),(38,iv j)] [(3,.cells 43 (v.enc.map .val))] m h})] [] [] false
def Wp(v:bX)(m:MH)(h:PH)(K:dk):Prop:=
  An v h (λs=>cK (cQ s) 0 (K (fN (cQ s)) m h) (K (fN 0) m h))
def TG(s:Sl)(m:MH)(h:PH)(K:dk):Prop:=
  ∃(I:Nat×Int->Prop)(d:Nat×Int->Nat),(∃(x:Nat×Int),aA (I x) (dA 0 x.2) (aA (aH s) (aY s) (bS (aZ x.1) m m h h)))/\∀(x:Nat×Int),I x->aW (↑x.1:Int) (aF s) (aJ (λb o=>aI (aK s.a b o) (0<=(↑x.1:Int)) ((↑x.1:Int)<aF s) (∃(y:Sl),aR m h b (bE o x.1 1) (aM y)/\∃(c:Nat×Int),aA (I c) (d c<d x) (aA (dA (bF (x.2+aF y)) c.2) (aH s) (aA (aY s) (eR (bF ((↑x.1:Int)+1))=bL c.1) (aA (m=m) (h=h) True)))))) (K (fN x.2) m h)
abbrev j9:Prop:=iF 3
noncomputable abbrev pI(a:Nat×cR×Sl×MH×PH):Sl:=a.2.2.1
noncomputable abbrev Gw(a:Nat×cR×Sl×MH×PH):cR:=a.2.1
noncomputable abbrev AG(a:Nat×cR×Sl×MH×PH):Nat->Option Obj:=sV a.2.2
noncomputable abbrev AH(a:Nat×cR×Sl×MH×PH):Nat->Nat->Option Value:=uQ a.2.2
noncomputable abbrev Kr(a:Nat×cR×VV×Sl×Bool×MH×PH):Bool:=a.2.2.2.2.1
noncomputable abbrev BT(a:Nat×cR×VV×Sl×Bool×MH×PH):Sl:=a.2.2.2.1
noncomputable abbrev LQ(a:Nat×cR×VV×Sl×Bool×MH×PH):cR:=a.2.1
abbrev J7(a b:VV):Prop:=nK 27 a.enc=nK 27 b.enc
noncomputable abbrev Ks(a:Nat×cR×VV×Sl×Bool×MH×PH):Nat->Option Obj:=a.2.2.2.2.2.1
noncomputable abbrev Kt(a:Nat×cR×VV×Sl×Bool×MH×PH):Nat->Nat->Option Value:=a.2.2.2.2.2.2
noncomputable abbrev yE(a:Nat×cR×VV×Sl×Bool×Bool×MH×PH):Sl:=a.2.2.2.1
noncomputable abbrev Gv(a:Nat×cR×VV×Sl×Bool×Bool×MH×PH):cR:=a.2.1
noncomputable abbrev Dk(a:Nat×cR×VV×Sl×Bool×Bool×MH×PH):Nat->Option Obj:=a.2.2.2.2.2.2.1
noncomputable abbrev Dl(a:Nat×cR×VV×Sl×Bool×Bool×MH×PH):Nat->Nat->Option Value:=a.2.2.2.2.2.2.2
attribute [push_cast] j9 pI Gw AG AH Kr BT LQ J7 Ks Kt yE Gv Dk Dl
def TF(v:bX)(t:Int)(s:Sl)(m:MH)(h:PH)(K:dk):Prop:=
  qS (λj n=>∃(u:Int),aA (bD (gV (cD v)) t=bD (gV (cD j)) u) (fR h n j) (mB (vC n u) (K aX m h) (aJ (λb o=>aI (aK (lW v) b o) (0<=t) (t<aF v.tables) (∃(y:cR),aR m h b (cC o t 5) (AF y)/\cK (aF s) (AR y) (K aX m h) (∃(I:Nat×cR×Sl×MH×PH->Prop)(f:Nat×cR×Sl×MH×PH->Nat),(∃(x:Nat×cR×Sl×MH×PH),aA (I x) j9 (aA (eP 9) (bA s (pI x)) (aA (cJ s (pI x)) (aZ x.1) (aA (oQ 87 (gJ y)=oQ 87 (gJ (Gw x))) (m=AG x) (bR h (AH x))))))/\∀(x:Nat×cR×Sl×MH×PH),I x->aW (↑x.1:Int) (aF (pI x)) (aJ (λz A=>aI (aK (pI x).a z A) (0<=(↑x.1:Int)) ((↑x.1:Int)<aF (pI x)) (∃(g:VV),aR (AG x) (AH x) z (bE A x.1 3) g.enc/\∃
 (B:VV),hZ (mW g=mW B) (!(jW B)) (K aX (AG x) (AH x)) (∃(I1:Nat×cR×VV×Sl×Bool×MH×PH->Prop),dD g.kind 2 (∃(d:Nat×cR×VV×Sl×Bool×MH×PH),aA (I1 d) j9 (aA (eP 9) (bV x.1 d.1) (aA (eP 11) (iL (decide ((↑x.1:Int)>=(Gw x).key)) (Kr d)) (aA (bA (pI x) (BT d)) (cJ (pI x) (BT d)) (aA (bV x.1 d.1) (oQ 87 (gJ (Gw x))=oQ 87 (gJ (LQ d))) (aA (J7 g d.2.2.1) (AG x=Ks d) (bR (AH x) (Kt d)))))))) (∃(d:Nat×cR×VV×Sl×Bool×MH×PH),aA (I1 d) j9 (aA (eP 9) (bV x.1 d.1) (aA (eP 11) (wH (Kr d)) (aA (bA (pI x) (BT d)) (cJ (pI x) (BT d)) (aA (bV x.1 d.1) (oQ 87 (gJ (Gw x))=oQ 87 (gJ (LQ d))) (aA (J7 g
 d.2.2.1) (AG x=Ks d) (bR (AH x) (Kt d))))))))/\∀(d:Nat×cR×VV×Sl×Bool×MH×PH),I1 d->∃(I2:Nat×cR×VV×Sl×Bool×Bool×MH×PH->Prop),dD d.2.2.1.kind 1 (∃(c:Nat×cR×VV×Sl×Bool×Bool×MH×PH),aA (I2 c) j9 (aA (eP 9) (bV d.1 c.1) (aA (eP 11) (iL (Kr d) c.2.2.2.2.1) (aA (iL (decide ((↑d.1:Int)>=(LQ d).key)) c.2.2.2.2.2.1) (bA (BT d) (yE c)) (aA (cJ (BT d) (yE c)) (bV d.1 c.1) (aA (oQ 87 (gJ (LQ d))=oQ 87 (gJ (Gv c))) (J7 d.2.2.1 c.2.2.1) (bG (Ks d) (Dk c) (Kt d) (Dl c)))))))) (∃(c:Nat×cR×VV×Sl×Bool×Bool×MH×PH),aA (I2 c) j9 (aA (eP 9) (bV d.1 c.1) (aA (eP 11) (iL (Kr d) c.2.2.2.2.1) (aA (wH c.2.2.2.2.2.1) (bA
 (BT d) (yE c)) (aA (cJ (BT d) (yE c)) (bV d.1 c.1) (aA (oQ 87 (gJ (LQ d))=oQ 87 (gJ (Gv c))) (J7 d.2.2.1 c.2.2.1) (bG (Ks d) (Dk c) (Kt d) (Dl c))))))))/\∀(c:Nat×cR×VV×Sl×Bool×Bool×MH×PH),I2 c->aJ (λC D=>aI (aK (Gv c).columns.a C D) (0<=(↑c.1:Int)) ((↑c.1:Int)<aF (Gv c).columns) (∃(E:Int),aR (Dk c) (Dl c) C (bE D c.1 2+1) (bQ E)/\cK c.2.2.1.kind E (mB c.2.2.2.2.1 (mB c.2.2.2.2.2.1 (K aX (Dk c) (Dl c)) (∃(e:Nat×cR×Sl×MH×PH),aA (I e) (f e<f x) (aA j9 (eP 9) (aA (bA (yE c) (pI e)) (cJ (yE c) (pI e)) (aA (eR (bF ((↑c.1:Int)+1))=bL e.1) (oQ 87 (gJ (Gv c))=oQ 87 (gJ (Gw e)))
 (bG (Dk c) (AG e) (Dl c) (AH e))))))) (∃(e:Nat×cR×Sl×MH×PH),aA (I e) (f e<f x) (aA j9 (eP 9) (aA (bA (yE c) (pI e)) (cJ (yE c) (pI e)) (aA (eR (bF ((↑c.1:Int)+1))=bL e.1) (oQ 87 (gJ (Gv c))=oQ 87 (gJ (Gw e))) (bG (Dk c) (AG e) (Dl c) (AH e))))))) (∃(e:Nat×cR×Sl×MH×PH),aA (I e) (f e<f x) (aA j9 (eP 9) (aA (bA (yE c) (pI e)) (cJ (yE c) (pI e)) (aA (eR (bF ((↑c.1:Int)+1))=bL e.1) (oQ 87 (gJ (Gv c))=oQ 87 (gJ (Gw e))) (bG (Dk c) (AG e) (Dl c) (AH e)))))))))))) (K dR (AG x) (AH x))))))))
def TE(v:bX)(t:Int)(s:Sl)(m:MH)(h:PH)(K:dk):Prop:=
  aW t 0 (K iO m h) (eK t (gE v) (K iO m h) (aJ (λb o=>aI (aK (lW v) b o) (0<=t) (t<aF v.tables) (∃(y:Int),aI (aR m h b (cC o t 5+2) (bQ y)) (0<=ite (pJ s y>0) (pJ s y) 0) (BU (ite (pJ s y>0) (pJ s y) 0) s) (K (CV.val (Value.slice s.a (ite (pJ s y>0) (pJ s y) 0).toNat s.cap)) m h)))))
abbrev Ja(a:Sl->(List dm)->Prop):Prop:=∃(x:Sl)(c:List dm),a x c
noncomputable abbrev oS(a:Nat×Sl×Nat):Sl:=a.2.1
noncomputable abbrev HM(a:Nat×Sl×Nat):Int:=bF ((↑a.2.2:Int)-1)
attribute [push_cast] Ja oS HM
def am(v:bX)(s:Sl)(m:MH)(h:PH)(K:dk):Prop:=
  qS (λA n=>aA (bD (gV (cD v)) 3=bD (gV (cD A)) 3) (fR h n A) (cK (cQ n) 0 (K (fN (cQ n)) m h) (Ja (λB u=>aI (gK (aM s)=gK (aM B)) (Leaves h B u) (nA u.length) (cO (decide (mQ u>512)) (K (fN 2) m h) (aF s !=gE v) (K (fN 80) m h) (j6 (λI x=>aA (I x) j9 (aA bJ (aH s) (aA (aY s) (aZ x) (aA (bP v) (m=m) (bR h h))))) (λI C x=>I x->aW (↑x:Int) (aF s) (aJ (λb o=>aI (aK s.a b o) (0<=(↑x:Int)) ((↑x:Int)<aF s) (∃(y:Sl),aR m h b (bE o x 1) (aM y)/\∃(I1:Nat×Sl×Nat->Prop)(e:Nat×Sl×Nat->Nat),(∃(c:Nat×Sl×Nat),aA (I1 c) j9 (aA bJ (bV x c.1) (aA (bA y (oS c)) (aH s) (aA (aY s) (bV x c.1) (aA (bA y (oS c)) (cJ y (oS
 c)) (aA (aZ c.2.2) (bP v) (bG m m h h)))))))/\∀(c:Nat×Sl×Nat),I1 c->aW (↑c.2.2:Int) (aF (oS c)) (aJ (λD E=>aI (aK (oS c).a D E) (0<=(↑c.2.2:Int)) ((↑c.2.2:Int)<aF (oS c)) (∃(z:Sl),aR m h D (bE E c.2.2 1) (aM z)/\qS (λF G=>∃(t:Int),nB (λH r=>aI (cV (cD v) (fN (↑c.1:Int)::fW z 3)=cV (cD F) (fN t::fW H 3)) (fR h G F) (bT h H r) (mY (!(UG G t r)) (K (fN 80) m h) (↑c.2.2:Int) 0 (aJ (λf g=>aI (aK (oS c).a f g) (0<=HM c) (HM c<aF (oS c)) (∃(j:Sl),aR m h f (cC g (HM c) 1) (aM j)/\qS (λJ L=>∃(M:Int),nB (λO P=>aI (cV (cD v) (fO (↑c.1:Int) (F9 j))=cV (cD J) (fO M (F9 O))) (fR h L
 J) (bT h O P) (∀(Q:Sl),bT h Q (L1 L M P)->bZ h f (cC g (HM c) 1) (aM j)/\qS (λR S=>∃(T:Int),nB (λa U=>aI (cV (cD v) (fO (↑c.1:Int) (F9 z))=cV (cD R) (fO T (F9 a))) (fR h S R) (bT h a U) (∀(V:Sl),bT h V (L1 S T U)->bZ h f (cC g (HM c) 1) (aM j)/\sF Q V h (λW X=>eK (dQ W X) 0 (K (fN 80) m h) (∃(d:Nat×Sl×Nat),aA (I1 d) (e d<e c) (aA j9 bJ (aA (bV c.1 d.1) (bA (oS c) (oS d)) (aA (aH s) (aY s) (aA (bV c.1 d.1) (bA (oS c) (oS d)) (aA (cJ (oS c) (oS d)) (eR (bF ((↑c.2.2:Int)+1))=bL d.2.2) (bS (bP v) m m h h))))))))))))))))) (∃(d:Nat×Sl×Nat),aA (I1 d) (e d<e c) (aA j9 bJ (aA (bV
 c.1 d.1) (bA (oS c) (oS d)) (aA (aH s) (aY s) (aA (bV c.1 d.1) (bA (oS c) (oS d)) (aA (cJ (oS c) (oS d)) (eR (bF ((↑c.2.2:Int)+1))=bL d.2.2) (bS (bP v) m m h h))))))))))))) (∃(d:Nat),aA (I d) (C d<C x) (aA j9 bJ (aA (aH s) (aY s) (aA (eR (bF ((↑c.1:Int)+1))=bL d) (bP v) (bG m m h h)))))))) (K (fN 0) m h))))))))
theorem bT.cut{a:Option Addr}{len c:Nat}{r:dp}(x:bT h ⟨a,len,c⟩ r){n:Nat}(f:n<=r.length):bT h ⟨a,n,c⟩ (r.take n):=by
 obtain⟨⟨d,e,g,j⟩,o⟩:=x;refine⟨⟨d.take n,by rw[map_take];exact cE.cut e n cg,cg,λi x u=>?_⟩,cg⟩
 grind
theorem csJ{v:bX}(d:fR h s v)(c:K (cI (cQ s)) m h):Wp v m h K:=
 ⟨v,s,rfl,d,aB (λ_=>c) (λe=>by rw[show cQ s=0 by simpa using e]at c;exact c)⟩
theorem aOQ:di 99 chZ:=by
 refine fU func99 ?_;rintro c m h K ⟨v,s,rfl,d,e⟩;refine⟨cT [(90,uP)] [] [] [] false,rfl,aE Ih aG,Wp v m h K,bu,?_⟩;exact csJ d e
theorem Leaves.lens{s:Sl}{st:List dm}(c:Leaves h s st){l:dm}(d:l∈st):l.length<=502633886983:=by
 obtain⟨i,e,rfl⟩:=mem_iff_getElem.1 d;obtain⟨_,_,_,_,_,f⟩:=bI.at c (cq e);exact f.len
theorem GP:∀{l:List dm},(∀x∈l,x.length<=502633886983)->0<=mQ l/\mQ l<=(l.length:Int)*502633886983
 |[],_=>by simp[mQ]
 |a::l,h=>by
  have e:=h a (mem_cons_self ..);have c:=GP (l:=l) λx d=>h x (mem_cons_of_mem _ d);simp only[mQ,map_cons,sum_cons,de]at c⊢
  omega
theorem Qx{st:List dm}{l:dm}(h:st[i]? =some l):mQ (st.take (i+1))=mQ (st.take i)+(l.length:Int):=by
 rw[db,h];simp[mQ]
theorem adZ:di 100 aCJ:=by
 refine fU func100 ?_;rintro A m h K ⟨s,c,rfl,f,J,B⟩;refine⟨bBJ s m h,rfl,aG,TG s m h K,bu,?_⟩;dsimp only[TG,push_cast];have g:=bI.slen f;refine⟨λz=>z.1<=c.length/\z.2=mQ (c.take z.1),λz=>c.length-z.1,⟨(0,0),⟨bx,by simp[mQ]⟩,MT⟩,?_⟩;rintro⟨i,n⟩ ⟨C,e⟩;dsimp only at C e⊢
 subst e;refine aD (λj=>?_) (λD=>?_)
 .obtain⟨l,d⟩:=dO g j;obtain⟨b,o,u,E,rd,F⟩:=bI.at f d;have y:=bI.slen F;have G:=GP (l:=c.take (i+1)) λx d=>f.lens (mem_of_mem_take d);have H:=(GP (l:=c.take i) λx d=>f.lens (mem_of_mem_take d)).1;have I:=Qx d;rw[length_take]at G;refine⟨b,o,E,aC,aC,u,.imm rd,(i+1,mQ (c.take (i+1))),⟨aC,rfl⟩,aC,?_⟩;rw[dL aC aC,y, <-I];exact MT
 .rw[cu aC];exact B
theorem Cv{t:A8}{r:dp}:Bh t r=true↔r.length=t.columns.length/\∀i,i<r.length->w7 t.key (t.columns.getD i ⟨⟨#[]⟩,0⟩).kind i (r.getD i zeroV)=true:=by
 simp only[Bh,cz,dc,all_eq_true,mem_range]
theorem PR{t:Int}{r:dp}{c:A8}(d:s.tables[t.toNat]? =some c)(h:vC s t=true):UG s t r=Bh c r:=by
 simp only[UG,h,d,Bool.true_and]
theorem adX:di 101 ciX:=by
 refine fU func101 ?_;rintro a' m h K ⟨v,s,t,L,r,rfl,M,O,C⟩;refine⟨bBZ,rfl,aE Qm (aE Ql aG),TF v t L m h K,bu,?_⟩;dsimp only[TF,push_cast];have a0:=M.tables.slen;have a1:=bI.slen O;refine⟨v,s,t,rfl,M,aB (λe=>?_) (λe=>?_)⟩
 .have e:vC s t=false:=cm e
  simp only[UG,e,Bool.false_and]at C;exact C
 have e:vC s t=true:=cm e
 have Z:=e;simp only[vC,cz,dc]at Z;obtain⟨d,E⟩:∃d,s.tables[t.toNat]? =some d:=⟨_,cq aC⟩
 obtain⟨b,o,y,ea,rd,P⟩:=bI.at M.tables E;rw[PR E e]at C;have a2:=bI.slen P.columns;have hk:=P.key;refine⟨b,o,ea,Z.1,aC,y,.imm rd,aB (λH=>?_) (λH=>?_)⟩
 .have:Bh d r=false:=by
   cases f:Bh d r with
   |false=>rfl
   |true=>
    have:=(Cv.1 f).1
    grind
  rw[this]at C;exact C
 have Q:r.length=d.columns.length:=cg
 have bad:∀i,i<r.length->w7 d.key (d.columns.getD i ⟨⟨#[]⟩,0⟩).kind i (r.getD i zeroV)=false->K (cB false) m h:=λi R F=>by
  have:Bh d r=false:=by
   cases f:Bh d r with
   |false=>rfl
   |true=>rw[(Cv.1 f).2 i R]at F;cases F
  grind
 refine⟨λz=>z.2.1=y/\z.2.2.1=L/\z.2.2.2.1=m/\z.2.2.2.2=h/\z.1<=r.length/\∀j,j<z.1->w7 d.key (d.columns.getD j ⟨⟨#[]⟩,0⟩).kind j (r.getD j zeroV)=true,λz=>r.length-z.1,⟨(0,y,L,m,h),⟨rfl,rfl,rfl,rfl,bx,λj S=>by simp at S⟩,MT⟩,?_⟩;rintro⟨i,n,A,m',h'⟩ ⟨H,f,I,J,R,B⟩;dsimp only at H f I J R B⊢
 subst H f I J;refine aD (λa3=>?_) (λa4=>?_)
 .have T:i<r.length:=by omega
  have hx:r[i]? =some (r.getD i zeroV):=cg
  obtain⟨b2,o2,x,U,G,V⟩:=bI.at O hx;subst V;have hc:d.columns[i]? =some (d.columns.getD i ⟨⟨#[]⟩,0⟩):=cg
  obtain⟨b3,o3,c,W,X,Y⟩:=bI.at P.columns hc;have g:=bad i T
  have u:w7 d.key (d.columns.getD i ⟨⟨#[]⟩,0⟩).kind i (r.getD i zeroV)=true->∀j,j<i+1->w7 d.key (d.columns.getD j ⟨⟨#[]⟩,0⟩).kind j (r.getD j zeroV)=true:=λF j S=>by
   grind
  generalize r.getD i zeroV=x at g u G hx;rw[Y]at g u;have go:w7 d.key c.kind i x=true->∃z:Nat×cR×Sl×MH×PH,(z.2.1=n/\z.2.2.1=A/\z.2.2.2.1=m'/\z.2.2.2.2=h'/\z.1<=r.length/\∀j,j<z.1->w7 d.key (d.columns.getD j ⟨⟨#[]⟩,0⟩).kind j (r.getD j zeroV)=true)/\r.length-z.1<r.length-i/\z=(i+1,n,A,m',h'):=λF=>⟨_,⟨rfl,rfl,rfl,rfl,aC,u F⟩,aC,rfl⟩
  refine⟨b2,o2,U,aC,aC,x,.imm G,x,rfl,aB (λev=>g ?_) (λev=>?_)⟩
  .have ev:jW x=false:=cg
   simp[w7,ev]
  have ev:jW x=true:=cg
  refine⟨λz=>z=(i,n,x,A,(x.kind==2&&decide ((i:Int)>=n.key)),m',h'),aB (λf=>⟨_,rfl,by rw[f];exact MT⟩) (λf=>⟨_,rfl,by rw[f];exact MT⟩),?_⟩;rintro _ rfl;dsimp only;refine⟨λz=>z=(i,n,x,A,(x.kind==2&&decide ((i:Int)>=n.key)),(x.kind==1&&decide ((i:Int)>=n.key)),m',h'),aB (λf=>⟨_,rfl,by rw[f];exact MT⟩) (λf=>⟨_,rfl,by rw[f];exact MT⟩),?_⟩;rintro _ rfl;dsimp only
  have D:w7 d.key c.kind i x=(x.kind==c.kind||((x.kind==2&&decide ((i:Int)>=n.key))||(x.kind==1&&decide ((i:Int)>=n.key)))):=by
   rw[hk];simp only[w7,ev,Bool.true_and,ge_iff_le,Bool.and_or_distrib_right]
  generalize a5:(x.kind==2&&decide ((i:Int)>=n.key))=B1 at D⊢
  generalize a6:(x.kind==1&&decide ((i:Int)>=n.key))=B2 at D⊢
  refine⟨b3,o3,W,aC,aC,c.kind,.imm (bZ.part X 1 1),aB (λI=>aB (λJ=>aB (λe5=>g ?_) (λe5=>?_)) (λJ=>?_)) (λI=>?_)⟩
  .grind
  all_goals
   obtain⟨_,g1,g2,rfl⟩:=go (by rw[D];simp_all);refine⟨_,g1,g2,?_⟩;dsimp only;rw[fD (by have:=bI.len O;omega)];exact MT
 .have:Bh d r=true:=Cv.2 ⟨Q,λj S=>B j aC⟩;rw[this]at C;exact C
theorem adQ:di 103 aAX:=by
 refine fU func103 ?_;rintro C m h K ⟨v,s,t,x,r,rfl,z,n,A⟩;refine⟨cT [] [] [] [] false,rfl,aG,TE v t x m h K,bu,?_⟩;dsimp only[TE,push_cast];have D:=z.tables.slen;have d:=bI.slen n;have c:vC s t=false->K iO m h:=λe=>A ⟨none,0,0⟩ (by simp only[L1,e];exact bI.nil _ _ _ _);refine aD (λE=>c (by simp[vC];omega)) (λE=>aD (λF=>c (by simp[vC];omega)) (λF=>?_));have e:vC s t=true:=by simp[vC];omega
 obtain⟨f,g⟩:∃f,s.tables[t.toNat]? =some f:=⟨_,cq aC⟩
 obtain⟨b,o,y,G,rd,H⟩:=bI.at z.tables g;have L:=H.key;obtain⟨a,len,j⟩:=x;have B:len<=j:=by obtain⟨M,I,_⟩:=n.ex;exact I.cap
 have d:len=r.length:=d
 have u:(if(if(len:Int)<y.key then(len:Int)else y.key)>0 then(if(len:Int)<y.key then(len:Int)else y.key)else 0)=max 0 (min f.key r.length):=by
  omega
 refine⟨b,o,G,aC,aC,y.key,.imm (bZ.part rd 2 1),?_⟩;dsimp only;rw[u];refine⟨aC,aC,A ⟨a,(max 0 (min f.key r.length)).toNat,j⟩ ?_⟩;have J:L1 s t r=r.take (max 0 (min f.key r.length)).toNat:=by simp only[L1,e,if_true,g];rfl
 rw[J];exact n.cut aC
theorem AT{t:Nat}{c:A8}(h:s.tables[t]? =some c)(r:dp):L1 s t r=mP c r:=by
 have:t<s.tables.length:=(cn h);have e:vC s (t:Int)=true:=by simp[vC];omega
 simp only[L1,e,if_true,Int.toNat_natCast,h]
theorem Oz{t:Nat}{c:A8}(h:s.tables[t]? =some c)(r:dp):UG s t r=Bh c r:=by
 have:t<s.tables.length:=(cn h);have e:vC s (t:Int)=true:=by simp[vC];omega
 exact PR cg e
theorem bk:di 58 Nx:=by
 refine fU func58 ?_;rintro a9 m h K ⟨v,s,W,F,rfl,J,X,Y,d⟩;refine⟨f58_ctx v W m h,rfl,aE aOQ (aE adZ (aE adX (aE adQ (aE Cx aG)))),am v W m h K,bu,?_⟩;dsimp only[am,push_cast];have b':=J.tables.slen;have Z:=bI.slen X;unfold jP at d;refine⟨v,s,rfl,J,aB (λe=>?_) (λe=>⟨W,F,rfl,X,Y,aD (λG=>?_) (λG=>aB (λe3=>?_) (λe3=>?_))⟩)⟩
 .rw[if_pos (cm e)]at d;exact d
 all_goals rw[if_neg (cm e)]at d
 .rw[if_pos (by unfold mQ at G;omega)]at d;exact d
 all_goals rw[if_neg (by unfold mQ at G;omega)]at d
 .rw[if_pos cg]at d;exact d
 have L:F.length=s.tables.length:=cg
 rw[if_neg (by simp[L])]at d;have bad:¬IN s F->K (cI 80) m h:=λhb=>cg
 refine⟨λi=>i<=F.length/\∀(j:Nat) t l,j<i->s.tables[j]? =some t->F[j]? =some l->Ry t l,λi=>F.length-i,⟨0,⟨bx,λj t l hj=>by omega⟩,MT⟩,?_⟩;rintro i ⟨hi,M⟩;refine aD (λa'=>?_) (λb0=>?_)
 .obtain⟨l,hx⟩:=dO Z a';obtain⟨b,o,u,ea,rd,H⟩:=bI.at X hx;have a0:=bI.slen H;have b1:=bI.len H;obtain⟨x,c⟩:∃x,s.tables[i]? =some x:=⟨_,cq aC⟩
  have y:¬Ry x l->K (cI 80) m h:=λhb=>bad λf=>hb (f i x l c hx);refine⟨b,o,ea,aC,aC,u,.imm rd,λz=>z.1=i/\z.2.1=u/\z.2.2<=l.length/\(∀k r,k<z.2.2->l[k]? =some r->Bh x r=true)/\∀k r I,k+1<z.2.2->l[k]? =some r->l[k+1]? =some I->dQ (mP x r) (mP x I)<0,λz=>l.length-z.2.2,⟨(i,u,0),⟨rfl,rfl,bx,λk r C=>by simp at C,λk r I C=>by simp at C⟩,MT⟩,?_⟩;rintro⟨D,u',j⟩ ⟨e1,G,hj,A,B⟩;dsimp only at e1 G hj A B⊢
  subst e1 G;refine aD (λO=>?_) (λa8=>?_)
  .obtain⟨r,P⟩:=dO a0 O;obtain⟨b2,o2,w,a1,a2,hv⟩:=bI.at H P;refine⟨b2,o2,a1,aC,aC,w,.imm a2,v,s,D,w,r,rfl,J,hv,aB (λU=>y λf=>?_) (λU=>?_)⟩
   .rw[Oz c,f.1 r (cr P)]at U;cases U
   have hf:Bh x r=true:=by rw[Oz c]at U;grind
   have g:∀k r,k<j+1->l[k]? =some r->Bh x r=true:=λk I C b4=>by
    grind
   refine aD (λa3=>?_) (λa3=>?_)
   .have hw:IntKind.i64.wrap ((j:Int)-1)=((j-1:Nat):Int):=by rw[dL aC aC];omega
    obtain⟨V,Q⟩:∃V,l[j-1]? =some V:=⟨_,cq aC⟩
    obtain⟨b3,o3,w3,a4,E,a5⟩:=bI.at H Q;rw[hw];refine⟨b3,o3,a4,aC,aC,w3,.imm E,v,s,D,w3,V,rfl,J,a5,λs1 a6=>⟨E,v,s,D,w,r,rfl,J,hv,λs2 a7=>⟨E,s1,s2,_,_,rfl,a6,a7,aD (λhc=>y λf=>?_) (λhc=>?_)⟩⟩⟩
    .rw[AT c,AT c]at hc;have:=f.2 (j-1) V r Q cg;omega
    .rw[AT c,AT c]at hc;refine⟨(D,u',j+1),⟨rfl,rfl,cg,g,λk r1 r2 C R S=>?_⟩,cg,?_⟩
     .grind
     .dsimp only;rw[fD aC];exact MT
   .refine⟨(D,u',j+1),⟨rfl,rfl,cg,g,λk r1 r2 C R S=>cg⟩,cg,?_⟩;dsimp only;rw[fD aC];exact MT
  .refine⟨D+1,⟨aC,λk t l' C ht T=>?_⟩,aC,?_⟩
   .by_cases e5:k=D
    .subst e5;rw[c]at ht;cases ht;rw[hx]at T;cases T;refine⟨λr H=>?_,λk r I R S=>B k r I ?_ R S⟩
     .obtain⟨n,Y,rfl⟩:=mem_iff_getElem.1 H;exact A n _ aC (cq Y)
     grind
    grind
   .rw[fD aC];exact MT
 .rw[if_pos]at d
  .exact d
  .exactλj t l R S=>M j t l cg R S
structure GW(h:PH)(sl:Sl)(st:List dm):Prop where
 lea:Leaves h sl st
 len:st.length<=1000
 val:Vj st
theorem GW.mono{sl:Sl}{st:List dm}(x:GW h sl st)(le:PH.le h h'):GW h' sl st:=⟨bI.mono x.lea le λl s c=>bI.mono c le λr t d=>bT.mono d le,x.len,x.val⟩
noncomputable def sT(st:List dm)(ts:dv):List dm:=(List.range ts.length).map λi=>nX st (bB ts i)
structure AZ(s:lL)(st:List dm)(ts:dv):Prop where
 ar:∀(i:Nat) t,ts[i]? =some t->0<=arity t.op
 fit:∀(i:Nat) t,ts[i]? =some t->nW i t
 kinds:∀i,i<ts.length->(bM s [] (bB ts i)).2=0
 bnd:∃c,1<=c/\(∀l∈st,l.length<=c)/\∀i,i<ts.length->gW c (bB ts i)<=8000000
def cEZ:Vc.Spec:=λd m h K=>∃sc e p r s c ts rs,d=[aS sc,XJ e,aPl p r]/\fR h s sc/\GW h e c/\jV h p r ts rs/\gS m/\(eE s ts rs=0->jP s c=0->AZ s c ts)/\
 (eE s ts rs≠0->K (.tup [iO,cI (eE s ts rs)]) m h)/\(eE s ts rs=0->jP s c≠0->K (.tup [iO,cI (jP s c)]) m h)/\(eE s ts rs=0->jP s c=0->∀f h',PH.le h h'->Leaves h' f (sT c ts)->K (.tup [cS f,cI 0]) m h')
noncomputable def b5X(sl p:Sl):Ctx:=cT [(38,FU),(58,Nx),(68,XN),(69,TZ)] [(9,{A:=Nat×dn×MH×PH,st:=λ⟨i,c,m,h⟩=>bO 85 88 [(4,.at (.ptr 4 0)),(11,.at (.lst 34)),(36,sv p),(37,iv p.len),(38,iv i)] [(4,.cells 25 [.val (.slice sl.a sl.len sl.cap)]),(34,.lst 53 1 (c.map eS))] m h}),
 (16,{A:=Nat×Nat×dn×MH×PH,st:=λ⟨i,n,c,m,h⟩=>bO 85 88 [(11,.at (.lst 34)),(71,.at (.lst 34)),(72,iv n),(73,iv i)] [(34,.lst 53 1 (c.map eS))] m h})] [] [] false
abbrev Pq(a:dv->dl->Prop):Prop:=∃(x:dv)(c:dl),a x c
abbrev mK(a:Sl):Prop:=eQ (oQ 25 (kM (jR a)))
abbrev J8(a:List dj)(b:dn×MH×PH):Prop:=bW 53 1 a=bW 53 1 (List.map eS b.1)
noncomputable abbrev AI(a:Nat×dn×MH×PH):Nat->Option Obj:=a.2.2.1
noncomputable abbrev vW(a:Nat×dn×MH×PH):Nat->Nat->Option Value:=a.2.2.2
noncomputable abbrev vV(a:Nat×dn×MH×PH):List dj:=iA a.2.1
attribute [push_cast] Pq mK J8 AI vW vV
def Qe(sc:bX)(sl p r:Sl)(m:MH)(h:PH)(K:dk):Prop:=
  ∃(s:bX),gQ (λH J=>∃(D:lL),Pq (λt E=>aI (fY (cD sc) (kP p r)=fY (cD s) (kP H J)) (fR h D s) (jV h H J t E) (∀(_:Sl),cK (eE D t E) 0 (K (CV.tup (bD iO (eE D t E))) m h) (qS (λv F=>Ja (λL A=>aA (cV (cD sc) (fO 3 (gV (aM sl)))=cV (cD v) (fO 3 (gV (aM L)))) (fR h F v) (aA (Leaves h L A) (nA A.length) (cK (jP F A) 0 (K (CV.tup (bD iO (jP F A))) m h) (aA (bY (aF p)) (aF p<=aF p) (aA (sK p 24) (qU (aF p)) (∃(I:Nat×dn×MH×PH->Prop)(B:Nat×dn×MH×PH->Nat),(∃(x:Nat×dn×MH×PH),aA (I x) fI (aA (eL 34) (aH p) (aA (aY p) (aZ x.1) (aA (mK sl) (J8 (xH (aF p) lV) x.2) (bG m (AI x) h (vW
 x))))))/\∀(x:Nat×dn×MH×PH),I x->aW (↑x.1:Int) (aF p) (aJ (λb o=>aI (aK p.a b o) (0<=(↑x.1:Int)) ((↑x.1:Int)<aF p) (∃(y:gA),aR (AI x) (vW x) b (bE o x.1 22) y.enc/\dD y.op 1 (aJ (λM O=>aI (aK sl.a M O) (0<=y.table) (y.table<aF sl) (∃(u:Sl),aI (aR (AI x) (vW x) M (cC O y.table 1) (aM u)) (0<=(↑x.1:Int)) ((↑x.1:Int)<j7 (vV x)) (∃(e:dj),aA (jZ (vV x) (↑x.1:Int) e) (wF 0 e) (∃(c:Nat×dn×MH×PH),aA (I c) (B c<B x) (aA fI (eL 34) (aA (aH p) (aY p) (aA (eR (bF ((↑x.1:Int)+1))=bL c.1) (mK sl) (bS (J8 (xL (vV x) (↑x.1:Int) (tA (iI u) 1 e)) c.2) (AI x) (AI c) (vW x) (vW c)))))))))) (oT y.left (vV x) (λe=>
 jZ (vV x) y.left e/\∃(u:Sl),aI (List.take 1 (List.drop 0 e)=aM u) (0<=y.right) (y.right<j7 (vV x)) (∃(n:dj),jZ (vV x) y.right n/\∃(P:Sl),List.take 1 (List.drop 0 n)=aM P/\LS (λQ f=>gQ (λg z=>∃(l C:dm),aA (cV y.enc (dK u P)=cV Q.enc (dK g z)) (kW (vW x) f Q) (aA (Rows (vW x) g l) (Rows (vW x) z C) (aA (gS (AI x)) (2<=f.op) (aA (f.op<=10) (LM f.op (KC f) [l,C]) (aA (mZ l) (mZ C) (fT (λR d=>dN (vW x) d (Rows d R (Q8 f.op (KC f) [l,C])) (oT (↑x.1:Int) (vV x) (λG=>aA (jZ (vV x) (↑x.1:Int) G) (wF 0 G) (∃(c:Nat×dn×MH×PH),aA (I c) (B c<B x) (aA fI (eL 34) (aA (aH p) (aY p) (aA (eR (bF
 ((↑x.1:Int)+1))=bL c.1) (mK sl) (bS (J8 (xL (vV x) (↑x.1:Int) (tA (iI R) 1 G)) c.2) (AI x) (AI c) d (vW c)))))))))))))))))))))) (∃(I1:Nat×Nat×dn×MH×PH->Prop)(S:Nat×Nat×dn×MH×PH->Nat),(∃(c:Nat×Nat×dn×MH×PH),aA (I1 c) (eL 34) (aA (eL 34) (bV (vV x).length c.2.1) (aA (aZ c.1) (bW 53 1 (List.map eS x.2.1)=bW 53 1 (List.map eS c.2.2.1)) (aA (AI x=c.2.2.2.1) (vW x=c.2.2.2.2) True))))/\∀(c:Nat×Nat×dn×MH×PH),I1 c->aW (↑c.1:Int) (↑c.2.1:Int) (oT (↑c.1:Int) (iA c.2.2.1) (λe=>jZ (iA c.2.2.1) (↑c.1:Int) e/\∃(y:Sl),List.take 1 (List.drop 0 e)=aM y/\Fq (λg l=>aA (eY y=eY g) (Rows c.2.2.2.2 g l) (aA (mZ l) (∀(T:dp),List.Mem T l
 ->Co T) (fT (λz d=>dN c.2.2.2.2 d (Rows d z l) (oT (↑c.1:Int) (iA c.2.2.1) (λn=>aA (jZ (iA c.2.2.1) (↑c.1:Int) n) (wF 0 n) (∃(j:Nat×Nat×dn×MH×PH),aA (I1 j) (S j<S c) (aA (eL 34) (eL 34) (aA (bV c.2.1 j.2.1) (eR (bF ((↑c.1:Int)+1))=bL j.1) (aA (J8 (xL (iA c.2.2.1) (↑c.1:Int) (tA (iI z) 1 n)) j.2.2) (c.2.2.2.1=j.2.2.2.1) (bR d j.2.2.2.2))))))))))))) (bU c.2.2.2.2 1 (iA c.2.2.1) (λg d=>hJ K g c.2.2.2.1 d))))))))))))))
theorem Ha(st:List dm):∀l,JE st l=l.map (nX st)
 |[]=>by simp[JE]
 |q::l=>by rw[JE,Ha st l];rfl
theorem baJ{op o:Int}{on:dq}{args:ds}{ls:List dm}:Q8 op (.mk o ta w co on gr od li args) ls=Q8 op (.mk o ta w co on gr od li []) ls:=rfl
theorem Hd{op o:Int}{on:dq}{args:ds}{ls:List dm}:LM op (.mk o ta w co on gr od li args) ls=LM op (.mk o ta w co on gr od li []) ls:=rfl
theorem Vy{st:List dm}{ts:dv}(ok:nH ts){i:Nat}{t:Step}(c:ts[i]? =some t)(d:t.op≠1):nX st (bB ts i)=Q8 t.op t.query ((kV t).map λa=>nX st (bB ts a.toNat)):=by
 rw[iC ok c,nX,if_neg d,Ha,rJ,map_map];exact baJ
theorem V2{st:List dm}{op:Int}{on:dq}{args:ds}{ks:dl}{c:Nat}(e:jP s st=0)(g:Vj st)(n:∀l∈st,l.length<=c)(o:1<=c)(f:bM s ps (.mk op ta w co on gr od li args)=(ks,0))(u:gW c (.mk op ta w co on gr od li args)<=8000000)(d:op≠1):
 LM op (.mk op ta w co on gr od li args) (JE st args):=by
 have x:=(Ya e g n o f u).1;rw[okQ,if_neg d]at x;obtain⟨z,A,_,_⟩:=Cs f;have B:nN (.mk op ta w co on gr od li args)=lM args:=by simp[nN,d]
 have y:=Jm (st:=st) (ls:=sQ st (.mk op ta w co on gr od li args)) (k:=0) A ⟨λj t h=>by
  rw[getD_eq_getElem?_getD,Nat.zero_add,sQ,B,getElem?_map,h];rfl⟩
 grind
theorem aoX{c d:dm}(h:arity t.op=1):Q8 t.op t.query [c,d]=Q8 t.op t.query [c]:=by
 obtain⟨op,ta,w,co,on,gr,od,li,a,b⟩:=t;have h:arity op=1:=h
 have:op=2\/op=3\/op=9:=by
  unfold arity at h
  grind
 rcases this with rfl|rfl|rfl<;>rfl
theorem V1{d e:dm}(h:arity t.op=1)(x:LM t.op t.query [d])(f:∃w,gT w e):LM t.op t.query [d,e]:=by
 obtain⟨op,ta,w,co,on,gr,od,li,a,b⟩:=t;have h:arity op=1:=h
 have:op=2\/op=3\/op=9:=by
  unfold arity at h
  grind
 rcases this with rfl|rfl|rfl
 .obtain⟨_,c⟩:=x;refine⟨bx,λl g=>?_⟩
  grind
 .obtain⟨_,c⟩:=x;exact⟨bx,c⟩
 .obtain⟨_,c⟩:=x;exact⟨bx,c⟩
theorem VZ{op:Int}(h:0<arity op):2<=op/\op<=10:=by
 unfold arity at h
 grind
theorem cuJ{sl p:Sl}{st:List dm}(hs:fR h s sc)(C:GW h sl st)(x:jV h p r ts rs)(hT:gS m)(hb:eE s ts rs=0->jP s st=0->AZ s st ts)
 (k1:eE s ts rs≠0->K (.tup [iO,cI (eE s ts rs)]) m h)(k2:eE s ts rs=0->jP s st≠0->K (.tup [iO,cI (jP s st)]) m h)(k3:eE s ts rs=0->jP s st=0->∀A h',PH.le h h'->Leaves h' A (sT st ts)->K (.tup [cS A,cI 0]) m h'):Qe sc sl p r m h K:=by
 dsimp only[Qe,push_cast];obtain⟨a7,_⟩:=x.slen;have b8:=x.len;refine⟨sc,p,r,s,ts,rs,rfl,hs,x,λkk=>aB (λe=>k1 (cm e)) (λe=>?_)⟩;have e1:eE s ts rs=0:=cm e
 refine⟨sc,s,sl,st,rfl,hs,C.lea,C.len,aB (λe=>k2 e1 (cm e)) (λe=>?_)⟩;have V:jP s st=0:=cm e
 have B:=hb e1 V;obtain⟨c,W,X,Y⟩:=B.bnd;have ok:nH ts:=λi t e=>⟨B.ar i t e,GM (B.ar i t e) (B.fit i t e)⟩
 have kq:∀j,j<ts.length->bM s [] (bB ts j)=((bM s [] (bB ts j)).1,0):=λj D=>Prod.ext rfl (B.kinds j D);have R:∀j,j<ts.length->∃w,gT w (nX st (bB ts j)):=λj D=>⟨_,(Ya V C.val X W (kq j D) (Y j D)).2.2.1⟩
 refine⟨aC,aC,aC,aC,λx=>x.1<=ts.length/\x.2.2.1=m/\PH.le h x.2.2.2/\∃G:dn,G.length=x.1/\x.2.1=G++replicate (ts.length-x.1) ⟨none,0,0⟩/\∀j,j<x.1->∃u,G[j]? =some u/\Rows x.2.2.2 u (nX st (bB ts j)),λx=>ts.length-x.1,⟨(0,replicate ts.length ⟨none,0,0⟩,m,h),⟨Nat.zero_le _,rfl,.refl _,[],rfl,bx,λj D=>by omega⟩,?_⟩,?_⟩
 .dsimp only;rw[map_replicate,show((p.len:Int)).toNat=ts.length by omega];exact MT
 rintro⟨i,vs,mx,hx⟩ ⟨hi,Z,le,G,H,hv,g⟩;dsimp only at hi Z le H hv g⊢
 subst Z hv;refine aD (λa'=>?_) (λa8=>?_)
 .obtain⟨t,f⟩:=dO a7 a';obtain⟨b,o,y,ea,rd,U⟩:=x.at f;have P:i<ts.length:=by omega
  have nx:∀(A:Sl)(h':PH),PH.le hx h'->Rows h' A (nX st (bB ts i))->∃e,((G++replicate (ts.length-i) (⟨none,0,0⟩:Sl)).map eS)[((i:Nat):Int).toNat]? =some e/\0<e.length/\∃E:dn,(((G++replicate (ts.length-i) (⟨none,0,0⟩:Sl)).map eS).set ((i:Nat):Int).toNat (iI A::List.drop 1 e))=List.map eS E/\∃Q:dn,Q.length=i+1/\E=Q++replicate (ts.length-(i+1)) ⟨none,0,0⟩/\∀j,j<i+1->∃u,Q[j]? =some u/\Rows h' u (nX st (bB ts j)):=λA h' d L=>by
   refine⟨[sC],?_,bx,(G++[A])++replicate (ts.length-(i+1)) ⟨none,0,0⟩,?_,G++[A],by simp[H],rfl,λj D=>?_⟩
   .rw[getElem?_map,Int.toNat_natCast,getElem?_append_right aC,getElem?_replicate,if_pos aC];rfl
   .rw[Int.toNat_natCast,show ts.length-i=(ts.length-(i+1))+1 by omega,replicate_succ,cv,set_append,if_neg (by simp[H]),cv,cv,append_assoc];simp[H,eS]
   .by_cases a0:j<i
    .obtain⟨u,S,J⟩:=g j a0;exact⟨u,cg,bI.mono J d (λ_ _ h=>bT.mono h d)⟩
    grind
  have a1:((List.map eS (G++replicate (ts.length-i) (⟨none,0,0⟩:Sl))).length:Int)=ts.length:=cg
  rw[a1,fD aC];refine⟨b,o,ea,aC,aC,y,.imm (rd.mono le),aB (λe=>?_) (λe=>?_)⟩
  .have F:t.op=1:=by rw[<-U.op_];grind
   have hq:=kq i P;rw[iC ok f]at hq;have a9:=Gn hq t.table (by rw[nN,if_pos F];simp);have b9:=bI.slen C.lea;have b7:=(OO V).2.1;have a2:st[t.table.toNat]? =some (st.getD t.table.toNat []):=cg
   obtain⟨b2,o2,u,b',b0,hu⟩:=bI.at C.lea a2;have hF:nX st (bB ts i)=st.getD t.table.toNat []:=by rw[iC ok f,nX,if_pos F]
   obtain⟨e,S,J,E,h3,h4⟩:=nx u hx (.refl _) (by rw[hF];exact bI.mono hu le (λ_ _ h=>bT.mono h le));rw[U.table_];exact⟨b2,o2,b',a9.1,aC,u,.imm (b0.mono le),aC,aC,e,S,J,(i+1,E,mx,hx),⟨aC,rfl,le,h4⟩,aC,cg⟩
  .have F:t.op≠1:=by rw[<-U.op_];grind
   have h0:=B.ar i t f;have J:=vO t.op;have c':arity t.op≠0:=λe=>F (wM e);have M:=VZ (op:=t.op) aC;have a3:=(ok i t f).2;have hA:arity t.op=1\/arity t.op=2:=by omega
   have hL:0<=t.left/\t.left<i:=a3 _ (by rcases hA with e|e<;>simp[kV,e])
   have hR:0<=t.right/\t.right<i:=by
    rcases hA with e|e
    .have:=(PQ (B.fit i t f)).2 aC;omega
    .exact a3 _ (by simp[kV,e])
   obtain⟨u1,b1,b3⟩:=g t.left.toNat aC;obtain⟨u2,b4,b5⟩:=g t.right.toNat aC
   have I:∀{j:Nat}{u:Sl},G[j]? =some u->((G++replicate (ts.length-i) (⟨none,0,0⟩:Sl)).map eS)[j]? =some (eS u):=fun{j u} h=>by
    grind
   have len:∀{j},j<ts.length->(nX st (bB ts j)).length<=8000000:=fun{j} D=>(R j D).elim λ_ h=>h.len;have hq:=kq i P;have a4:=Y i P;rw[iC ok f]at hq a4;have x1:=V2 V C.val X W hq a4 F;rw[Ha,rJ,map_map]at x1;have x2:=Vy (st:=st) ok f F
   have x3:LM t.op t.query [nX st (bB ts t.left.toNat),nX st (bB ts t.right.toNat)]/\nX st (bB ts i)=Q8 t.op t.query [nX st (bB ts t.left.toNat),nX st (bB ts t.right.toNat)]:=by
    rcases hA with e|e
    .rw[show kV t=[t.left]by simp[kV,e]]at x1 x2;exact⟨V1 e (Hd▸x1) (R _ aC),by rw[x2,aoX e];rfl⟩
    .rw[show kV t=[t.left,t.right]by simp[kV,e]]at x1 x2;exact⟨Hd▸x1,x2⟩
   rw[U.left_,U.right_];refine⟨hL.1,aC,eS u1,I b1,u1,rfl,hR.1,aC,eS u2,I b4,u2,rfl,y,t,u1,u2,_,_,rfl,U.mono le,b3,b5,hT,M.1,M.2,x3.1,len aC,len aC,λA h' d L=>?_⟩;obtain⟨e,S,J,E,h3,h4⟩:=nx A h' d (by rw[x3.2];exact L);exact⟨aC,aC,e,S,J,(i+1,E,mx,h'),⟨aC,rfl,le.trans d,h4⟩,aC,cg⟩
 .have:i=ts.length:=by omega
  subst this;rw[Nat.sub_self,replicate_zero,append_nil];refine⟨λx=>x.1<=ts.length/\x.2.1=ts.length/\x.2.2.2.1=mx/\PH.le h x.2.2.2.2/\x.2.2.1.length=ts.length/\∀j,j<ts.length->∃u,x.2.2.1[j]? =some u/\Rows x.2.2.2.2 u (nX st (bB ts j)),λx=>ts.length-x.1,⟨(0,ts.length,G,mx,hx),⟨Nat.zero_le _,rfl,rfl,le,H,g⟩,cg⟩,?_⟩;rintro⟨i,n,vs,my,hy⟩ ⟨hi,Z,e4,le,T,L⟩;dsimp only at hi Z e4 le T L⊢
  subst Z e4;refine aD (λa'=>?_) (λa8=>?_)
  .obtain⟨u,hu,g⟩:=L i aC;obtain⟨w,O⟩:=R i aC;have I:(vs.map eS)[((i:Nat):Int).toNat]? =some (eS u):=cg
   rw[length_map,T,fD aC];refine⟨aC,aC,eS u,I,u,rfl,u,_,rfl,g,O.len,λr L=>by have:=(O.row r L).len;omega,λA h' d c0=>⟨aC,aC,eS u,I,by simp[eS],(i+1,ts.length,vs.set i A,my,h'),⟨aC,rfl,rfl,le.trans d,cg,λj D=>?_⟩,aC,?_⟩⟩
   .dsimp only;rw[getElem?_set];by_cases a0:i=j
    .grind
    .obtain⟨u',S,J⟩:=L j D;exact⟨u',cg,bI.mono J d (λ_ _ h=>bT.mono h d)⟩
   .dsimp only;rw[map_set,Int.toNat_natCast];exact MT
  .refineλA h' d b6=>k3 e1 V A h' (le.trans d) ⟨⟨vs,b6,by simp[sT,T],λj z hz=>?_⟩,by simp[sT];omega⟩
   unfold sT at hz;rw[getElem?_map]at hz;cases D:(List.range ts.length)[j]? with
   |none=>grind
   |some k=>
    rw[D]at hz;obtain⟨a5,a6⟩:=List.getElem?_eq_some_iff.1 D;rw[length_range]at a5;rw[getElem_range]at a6;subst a6;have hz:nX st (bB ts j)=z:=cg
    subst hz;obtain⟨u,S,J⟩:=L j a5;exact⟨u,S,bI.mono J d (λ_ _ h=>bT.mono h d)⟩
theorem aUX:di 25 cEZ:=by
 refine fU func25 ?_;rintro e m h K ⟨sc,d,p,r,s,y,ts,rs,rfl,f,c,g,j,n,o,u,x⟩;refine⟨b5X d p,rfl,aE aTQ (aE bk (aE aRQ (aE aQJ aG))),Qe sc d p r m h K,bu,?_⟩;exact cuJ f c g j n o u x
theorem tF(j:0<=arity t.op):(t.op=1/\kV t=[])\/(t.op≠1/\t.op≠4/\arity t.op=1/\kV t=[t.left])\/(t.op≠1/\arity t.op=2/\kV t=[t.left,t.right]):=by
 have n:=vO t.op;by_cases d:arity t.op=0
 .exact .inl ⟨wM d,by unfold kV;rw[d];rfl⟩
 have f:t.op≠1:=λe=>d (by rw[e];rfl);by_cases c:arity t.op=1
 .exact .inr (.inl ⟨f,λe=>by rw[e]at c;exact absurd c bz,c,by unfold kV;rw[c];rfl⟩)
 .have g:arity t.op=2:=by omega
  exact .inr (.inr ⟨f,g,by unfold kV;rw[g];rfl⟩)
theorem bEQ(c:0<=arity t.op):((kV t).length:Int)=arity t.op:=by
 rcases tF c with⟨e,h⟩|⟨_,_,e,h⟩|⟨_,e,h⟩
 .rw[h,e];rfl
 .rw[h,e];rfl
 .rw[h,e];rfl
theorem aGZ(ok:nH ts)(n:ts[i]? =some t)(y:∀j,j<i->(bM s [] (bB ts j)).2=0)(h:(sD s ((List.range i).map λj=>(bM s [] (bB ts j)).1) t).2=0):
 (bM s [] (bB ts i)).2=0/\nW i t/\(sD s ((List.range i).map λj=>(bM s [] (bB ts j)).1) t).1=(bM s [] (bB ts i)).1:=by
 obtain⟨o,c⟩:=ok i t n;have z:((List.range i).map λj=>(bM s [] (bB ts j)).1).length=i:=bx
 have u:uM ((List.range i).map λj=>(bM s [] (bB ts j)).1) t.left (decide (arity t.op>0))=((rJ ts t).map λq=>(bM s [] q).1).getD 0 []/\uM ((List.range i).map λj=>(bM s [] (bB ts j)).1) t.right (decide (arity t.op>1))=((rJ ts t).map λq=>(bM s [] q).1).getD 1 []:=by
  unfold rJ;rcases tF o with⟨e,h⟩|⟨_,_,e,h⟩|⟨_,e,h⟩
  .rw[h,e];exact⟨rfl,rfl⟩
  .rw[h]at c⊢
   rw[e];have d:=c t.left bx;exact⟨QJ d.1 d.2,rfl⟩
  .rw[h]at c⊢
   rw[e];have d:=c t.left bx;have x:=c t.right bx;exact⟨QJ d.1 d.2,QJ x.1 x.2⟩
 have A:eO s [] (rJ ts t)=((rJ ts t).map λq=>(bM s [] q).1,0):=wK (by
  rw[map_map];refine map_congr_left λq B=>Prod.ext rfl ?_;obtain⟨a,C,rfl⟩:=mem_map.1 B;have:=c a C;exact y a.toNat aC)
 have f:bM s [] (bB ts i)=eU s [] t.query (uM ((List.range i).map λj=>(bM s [] (bB ts j)).1) t.left (decide (arity t.op>0))) (uM ((List.range i).map λj=>(bM s [] (bB ts j)).1) t.right (decide (arity t.op>1))):=by
  rw[iC ok n];simp only[bM,A,if_true];rw[if_pos (by rw[length_map];unfold rJ;rw[length_map];exact bEQ o),u.1,u.2,Yo];rfl
 unfold sD at h⊢
 rw[z]at h⊢
 split at h
 .simp[eN]at h
 .rename_i g;split at h
  .simp[eN]at h
  .rename_i D;rw[if_neg g,if_neg D,f];refine⟨h,⟨?_,?_⟩,rfl⟩
   .cases e:oI t.left (decide (arity t.op>0)) i with
    |true=>rfl
    |false=>exact absurd (.inr (.inl e)) g
   .cases e:oI t.right (decide (arity t.op>1)) i with
    |true=>rfl
    |false=>exact absurd (.inr (.inr e)) g
theorem MR{s:lL}{ts:dv}(ok:nH ts)(h:(rR s [] ts).2=0):∀i,i<=ts.length->(rR s ((List.range i).map λj=>(bM s [] (bB ts j)).1) (ts.drop i)).2=0/\∀j,j<i->(bM s [] (bB ts j)).2=0/\∀t,ts[j]? =some t->nW j t
 |0,_=>⟨cm h,λj g=>by omega⟩
 |i+1,A=>by
  obtain⟨c,n⟩:=MR ok h i aC;have d:ts[i]? =some ts[i]:=cq aC;generalize ts[i]=t at d;rw[Gl d]at c;by_cases f:(sD s ((List.range i).map λj=>(bM s [] (bB ts j)).1) t).2=0
  .rw[if_pos f]at c;obtain⟨x,y,z⟩:=aGZ ok d (λj g=>(n j g).1) f;rw[z]at c;refine⟨by rwa [range_succ,cv],λj g=>?_⟩;by_cases e:j=i
   .subst e;exact⟨x,λu o=>by rw[d]at o;cases o;exact y⟩
   .exact n j aC
  .rw[if_neg f]at c;exact absurd c f
structure Ls(s:lL)(q:Query):Prop where
 kinds:(bM s [] q).2=0
 small:uT q=true
 ints:QI q
 lf:FZ q<=4
 jl:jlQ q
theorem bdZ:∀{l:ds}{a:Query},a∈l->FZ a<=Bg l
 |x::l,a,h=>by
  simp only[Bg];rcases mem_cons.1 h with rfl|h
  .omega
  .have:=bdZ h;omega
theorem Ls.arg{op:Int}{on:dq}{args:ds}(g:Ls s (.mk op ta w co on gr od li args)){a:Query}(c:a∈args):Ls s a:=by
 refine⟨(B5 g.kinds).1 a c,?_,(O2.1 g.ints).2 a c,?_,PE.1 g.jl.2 a c⟩
 .have d:=LA.1 g.small;have e:=Vw c;simp only[NQ,dpQ]at d;exact LA.2 ⟨aC,aC⟩
 .have d:=g.lf;have e:=bdZ c;simp only[FZ]at d;omega
structure Jt(s:lL)(ts:dv):Prop where
 ar:∀(i:Nat) t,ts[i]? =some t->0<=arity t.op
 fit:∀(i:Nat) t,ts[i]? =some t->nW i t
 nodup:(ts.map keyOf).Nodup
 good:∀i,i<ts.length->Ls s (bB ts i)
theorem Jt.ok(v:Jt s ts):nH ts:=λi t e=>⟨v.ar i t e,GM (v.ar i t e) (v.fit i t e)⟩
theorem RC(v:Jt s ts)(c:ts[i]? =some t):F3 t:=by
 have d:=(cn c);have g:=(v.good i d).ints;rw[iC v.ok c,O2]at g;obtain⟨e,f,j,n,o⟩:=g.1;exact⟨e,f,j,n,o⟩
theorem PI{s:lL}{ts c:dv}{t:Step}{k:Nat}{q:Query}(v:Jt s ts)(H:0<=arity t.op)(I:nW ts.length t)(g:Ls s q)(A:q= .mk t.op t.table t.wher t.columns t.on t.group t.order t.limit (rJ ts t))(h:Rr t ts c k):
 Jt s c/\ts<+:c/\k<c.length/\bB c k=q:=by
 have L:F3 t:=by
  have:=g.ints;rw[A,O2]at this;obtain⟨M,O,P,Q,R⟩:=this.1;exact⟨M,O,P,Q,R⟩
 rcases h with⟨x,y,e,rfl⟩|⟨B,rfl,rfl⟩
 .have C:x=t:=key_inj (RC v y) L e;subst C;exact⟨v,prefix_refl _,(cn y),by rw[iC v.ok y,A]⟩
 .have d:∀(i:Nat) u,(ts++[t])[i]? =some u->ts[i]? =some u\/(i=ts.length/\u=t):=λi u e=>by
   by_cases D:i<ts.length
   .rw[getElem?_append_left D]at e;exact .inl e
   .rw[getElem?_append_right aC]at e;have E:=(cn e);simp at E;have:i=ts.length:=by omega
    subst this;simp at e;exact .inr ⟨rfl,e.symm⟩
  have n:∀(i:Nat) u,(ts++[t])[i]? =some u->0<=arity u.op:=λi u e=>by
   rcases d i u e with e|⟨_,rfl⟩
   .exact v.ar i u e
   .exact H
  have j:∀(i:Nat) u,(ts++[t])[i]? =some u->nW i u:=λi u e=>by
   rcases d i u e with e|⟨rfl,rfl⟩
   .exact v.fit i u e
   .exact I
  have o:nH (ts++[t]):=λi u e=>⟨n i u e,GM (n i u e) (j i u e)⟩
  have F:ts<+:ts++[t]:=prefix_append _ _
  have f:bB (ts++[t]) ts.length=q:=by
   rw[iC o (t:=t) bx,A]
   have:rJ (ts++[t]) t=rJ ts t:=map_congr_left λa G=>by
    have:=GM H I a G;exact AV F o a.toNat aC
   rw[this]
  refine⟨⟨n,j,?_,λi D=>?_⟩,F,bx,f⟩
  .rw[cv,nodup_append];refine⟨v.nodup,bx,λa G b J=>?_⟩;obtain⟨x,y,rfl⟩:=mem_map.1 G;simp at J;rw[J];exact B x y
  .by_cases z:i<ts.length
   .rw[AV F o i z];exact v.good i z
   .have:i=ts.length:=by simp at D;omega
    rw[this,f];exact g
theorem PS{a e:Int}(c:0<=a)(d:a<e):oI a true e=true:=by unfold oI;rw[if_pos rfl];simp[c,d]
theorem FC{s:lL}:∀(q:Query){ts j:dv}{k:Nat},Ls s q->Jt s ts->Bo q ts j k->Jt s j/\ts<+:j/\k<j.length/\bB j k=q
 |.mk op ta w co on gr od li args,ts,j,k,g,v,h=>by
  rw[vP]at h;obtain⟨H,l,y,r,u,x,z⟩:=h;have d:=(B5 g.kinds).2.1;have F:=vO op
  match args,g,u,x,d with
  |[],g,u,x,d=>
   obtain⟨rfl,rfl⟩:=u;obtain⟨rfl,rfl⟩:=x;simp at d;refine PI (t:=⟨op,ta,w,co,on,gr,od,li,0,0⟩) v (by show 0<=arity op;omega) ⟨?_,?_⟩ g ?_ z
   .show oI 0 (decide (arity op>0)) _=true;rw[decide_eq_false aC];rfl
   .show oI 0 (decide (arity op>1)) _=true;rw[decide_eq_false aC];rfl
   .have:kV ⟨op,ta,w,co,on,gr,od,li,0,0⟩=[]:=by unfold kV;rw[<-d];rfl
    unfold rJ;rw[this];rfl
  |[a],g,u,x,d=>
   obtain⟨rfl,rfl⟩:=x;simp at d;obtain⟨A,B,C,D⟩:=FC a (g.arg bx) v u;have:kV ⟨op,ta,w,co,on,gr,od,li,(l:Nat),0⟩=[(l:Int)]:=by unfold kV;rw[<-d];rfl
   have e:=λn o=>PI (t:=⟨op,ta,w,co,on,gr,od,li,(l:Nat),0⟩) (q:=.mk op ta w co on gr od li [a]) A (by show 0<=arity op;omega) n g o z;have f:=λn o=>(⟨(e n o).1,B.trans (e n o).2.1,(e n o).2.2⟩:_/\_/\_)
   refine f ⟨?_,?_⟩ ?_
   .show oI l (decide (arity op>0)) _=true;rw[decide_eq_true aC];exact PS aC aC
   .show oI 0 (decide (arity op>1)) _=true;rw[decide_eq_false aC];rfl
   .unfold rJ;rw[this,map_cons,map_nil,Int.toNat_natCast,D]
  |[a,b],g,u,x,d=>
   simp at d;obtain⟨A,B,C,D⟩:=FC a (g.arg bx) v u;obtain⟨G,E,L,I⟩:=FC b (g.arg bx) A x;have J:l<y.length:=dh C E.length_le;have:kV ⟨op,ta,w,co,on,gr,od,li,(l:Nat),(r:Nat)⟩=[(l:Int),(r:Int)]:=by unfold kV;rw[<-d];rfl
   have e:=λn o=>PI (t:=⟨op,ta,w,co,on,gr,od,li,(l:Nat),(r:Nat)⟩) (q:=.mk op ta w co on gr od li [a,b]) G (by show 0<=arity op;omega) n g o z;have f:=λn o=>(⟨(e n o).1,(B.trans E).trans (e n o).2.1,(e n o).2.2⟩:_/\_/\_)
   refine f ⟨?_,?_⟩ ?_
   .show oI l (decide (arity op>0)) _=true;rw[decide_eq_true aC];exact PS aC aC
   .show oI r (decide (arity op>1)) _=true;rw[decide_eq_true aC];exact PS aC aC
   .unfold rJ;rw[this,map_cons,map_cons,map_nil,Int.toNat_natCast,Int.toNat_natCast,AV E G.ok l C,D,I]
  |a::b::c::rest,_,_,_,d=>simp at d;omega
theorem beJ(s:lL):Jt s []:=⟨λi t e=>by simp at e,λi t e=>by simp at e,bx,λi c=>by simp at c⟩
theorem Wc{s:lL}:∀{g:ds}{ts c:dv}{ks:ed},(∀q∈g,Ls s q)->Jt s ts->y9 g ts c ks->Jt s c/\ts<+:c/\ks.length=g.length/\∀(i:Nat) q k,g[i]? =some q->ks[i]? =some k->k<c.length/\bB c k=q
 |[],ts,c,ks,_,v,h=>by
  obtain⟨rfl,rfl⟩:=h;exact⟨v,prefix_refl _,rfl,λi q k e=>by simp at e⟩
 |q::g,ts,c,ks,n,v,h=>by
  obtain⟨y,k,z,A,B,rfl⟩:=h;obtain⟨C,D,o,E⟩:=FC q (n q bx) v A;obtain⟨u,j,F,G⟩:=Wc (λx f=>n x (by simp[f])) C B;refine⟨u,D.trans j,by simp[F],λi x H f d=>?_⟩;cases i with
  |zero=>
   simp at f d;subst f d;exact⟨dh o j.length_le,by rw[AV j u.ok k o,E]⟩
  |succ i=>
   simp at f d;exact G i x H f d
theorem VL(h:(eF s [] q).2=0)(w:QW q)(f:NO 2 q):Ls s q:=by
 obtain⟨_,_,d,c⟩:=CO h;refine⟨c,d,bUQ bx q c w,Decidable.byContradiction λe=>?_,f.jl aC⟩;have g:4^FZ q<=256:=f.b;have j:4^5<=4^FZ q:=Nat.pow_le_pow_right bz aC;omega
theorem QL:∀{d:ds}{ts c:dv}{ks:ed},y9 d ts c ks->(∀q∈d,NQ q<=24)->c.length<=ts.length+24*d.length
 |[],ts,c,ks,h,_=>by obtain⟨rfl,rfl⟩:=h;simp
 |q::d,ts,c,ks,h,e=>by
  obtain⟨f,k,g,j,n,rfl⟩:=h;have:=yY q j;have:=QL n λx o=>e x (by simp[o]);have:=e q bx;simp;omega
def bN(c:Nat)(t:Step)(x:Nat->Nat):Nat:=if t.op=1 then c else if t.op=4 then x t.left.toNat*x t.right.toNat else if arity t.op=1 then x t.left.toNat else x t.left.toNat+x t.right.toNat
def lN(t:Step)(x:Nat->Nat):Nat:=if t.op=1 then 1 else if arity t.op=1 then x t.left.toNat else x t.left.toNat+x t.right.toNat
theorem vM{c:Nat}{ts:dv}(ok:nH ts){i:Nat}{t:Step}(f:ts[i]? =some t):gW c (bB ts i)=bN c t λj=>gW c (bB ts j):=by
 rw[iC ok f];simp only[gW,bN,rJ];rcases tF (ok i t f).1 with⟨e,h⟩|⟨d,g,e,h⟩|⟨d,e,h⟩
 .rw[if_pos e,if_pos e]
 .rw[if_neg d,if_neg d,if_neg g,if_neg g,if_pos e,h];simp[Bp]
 .rw[if_neg d,if_neg d,h];split
  .simp[zK]
  .rw[if_neg aC];simp[Bp]
theorem Ou(ok:nH ts)(d:ts[i]? =some t):FZ (bB ts i)=lN t λj=>FZ (bB ts j):=by
 rw[iC ok d];simp only[FZ,lN,rJ];have f:=Gz (bB ts t.left.toNat);have g:=Gz (bB ts t.right.toNat);rcases tF (ok i t d).1 with⟨e,h⟩|⟨c,n,e,h⟩|⟨c,e,h⟩
 .rw[if_pos e,h];rfl
 .rw[if_neg c,if_pos e,h];simp only[map_cons,map_nil,Bg];omega
 .rw[if_neg c,if_neg aC,h];simp only[map_cons,map_nil,Bg];omega
theorem tJ(ok:nH ts)(d:ts[i]? =some t):(t.op≠1->t.left.toNat<i)/\(arity t.op=2->t.right.toNat<i):=by
 have c:=(ok i t d).2;rcases tF (ok i t d).1 with⟨e,h⟩|⟨f,g,e,h⟩|⟨f,e,h⟩
 .exact⟨λh=>absurd e h,λh=>by rw[e]at h;exact absurd h bz⟩
 .have:=c t.left (by rw[h];simp);exact⟨λ_=>by omega,λh=>by omega⟩
 .have:=c t.left (by rw[h];simp);have:=c t.right (by rw[h];simp);exact⟨λ_=>by omega,λ_=>by omega⟩
theorem QH(e:t.op=4):arity t.op=2:=by rw[e];rfl
theorem ccZ{c:Nat}(o:1<=c)(ok:nH ts):∀i,i<ts.length->1<=gW c (bB ts i):=by
 intro i
 induction i using Nat.strongRecOn with
 |_ i e=>
  intro u;have d:ts[i]? =some ts[i]:=cq u;generalize ts[i]=t at d;obtain⟨f,g⟩:=tJ ok d;rw[vM ok d];unfold bN;dsimp only;split
  .exact o
  .rename_i j;have l:=e _ (f j) (by have:=f j;omega);split
   .rename_i n;have r:=e _ (g (QH n)) (by have:=g (QH n);omega);exact Nat.mul_le_mul l r
   .split<;>omega
theorem coX{E:dv}(ok:nH ts)(f:nH E)(T:∀(i:Nat) t,ts[i]? =some t->nW i t)(X:∀i,i<ts.length->FZ (bB ts i)<=4)
 (hj:∀(i:Nat) t,ts[i]? =some t->t.op=4->∃u,ts[t.right.toNat]? =some u/\u.op=1)(sp:aiQ ts E):∀i,i<E.length->gW 6 (bB E i)<=8000000:=by
 have g:∀i,i<ts.length->gW 6 (bB ts i)<=1296:=λi y=>by
  have h1:=afZ (c:=6) bz (bB ts i);have h2:6^FZ (bB ts i)<=6^4:=Nat.pow_le_pow_right bz (X i y);omega
 rcases sp with rfl|⟨k,t,d,C,rfl,L⟩
 .intro i y;have:=g i y;omega
 have M:=(cn C);have len:(ts.set k d).length=ts.length:=bx
 have O:(ts.set k d)[k]? =some d:=getElem?_set_self M;have P:∀i,i≠k->(ts.set k d)[i]? =ts[i]? :=λi h=>getElem?_set_ne (Ne.symm h);by_cases A:t.op=1
 ·
  have Y:=PQ (T k t C);have U:arity t.op=0:=by rw[A];rfl
  have first:∀u,(ts.set k d)[0]? =some u->FZ (bB (ts.set k d) 0)=1:=λu H=>by
   obtain⟨z,_⟩:=tJ f H;rw[Ou f H];unfold lN;split
   .rfl
   .rename_i n;have:=z n;omega
  have two:∀i,i<ts.length->FZ (bB (ts.set k d) i)<=2*FZ (bB ts i):=by
   intro i
   induction i using Nat.strongRecOn with
   |_ i F=>
    intro y;have hp:=Gz (bB ts i);by_cases e:i=k
    .subst e;obtain⟨z,B⟩:=tJ f O;rw[Ou f O];unfold lN;dsimp only;split
     .omega
     .rename_i n;rcases L with⟨e,_⟩|⟨e,_⟩|⟨e,I⟩
      .rw[A]at e;exact absurd e n
      .rw[A]at e;exact absurd e n
      have Z:d.left=0:=by rw[e];exact Y.1 U
      have r0:d.right=0:=by rw[I];exact Y.2 aC
      have x:=z n;rw[Z]at x;have:(0:Int).toNat=0:=rfl;rw[this]at x;have g0:(ts.set i d)[0]? =some ts[0]:=by rw[P 0 aC];exact cq aC
      have f0:=first _ g0
      rw[Z,r0,this];split<;>omega
    .have o:ts[i]? =some ts[i]:=cq y;generalize ts[i]=u at o;have H:(ts.set k d)[i]? =some u:=by rw[P i e];exact o
     obtain⟨z,B⟩:=tJ ok o;rw[Ou f H,Ou ok o];unfold lN;dsimp only;split
     .omega
     .rename_i n;have l:=F _ (z n) (by have:=z n;omega);split
      .exact l
      .rename_i n2;have n3:=(ok i u o).1;have G:=vO u.op;have n5:arity u.op≠0:=λe=>n (wM e);have r:=F _ (B aC) (by have:=B aC;omega);omega
  intro i y;rw[len]at y;have h1:=afZ (c:=6) bz (bB (ts.set k d) i);have h2:6^FZ (bB (ts.set k d) i)<=6^8:=Nat.pow_le_pow_right bz (by have:=two i y;have:=X i y;omega);omega
 ·
  have x:∀i,i<ts.length->1<=gW 6 (bB ts i):=ccZ bz ok
  have D:∀i,i<k->gW 6 (bB (ts.set k d) i)=gW 6 (bB ts i):=by
   intro i
   induction i using Nat.strongRecOn with
   |_ i F=>
    intro y;have o:ts[i]? =some ts[i]:=cq aC;generalize ts[i]=u at o;have H:(ts.set k d)[i]? =some u:=by rw[P i aC];exact o
    obtain⟨z,B⟩:=tJ ok o;rw[vM f H,vM ok o];unfold bN;dsimp only;split
    .rfl
    .rename_i n;have l:=F _ (z n) (by have:=z n;omega);split
     .rename_i G;have r:=F _ (B (QH G)) (by have:=B (QH G);omega);rw[l,r]
     .split
      .exact l
      .rename_i n2;have n3:=(ok i u o).1;have G:=vO u.op;have n5:arity u.op≠0:=λe=>n (wM e);have r:=F _ (B aC) (by have:=B aC;omega);rw[l,r]
  have V:gW 6 (bB (ts.set k d) k)<=1297*gW 6 (bB ts k):=by
   have R:=x k M;obtain⟨z,B⟩:=tJ ok C;obtain⟨b1,b2⟩:=tJ f O;rw[vM f O];have c0:=f k d O;rcases tF c0.1 with⟨e,_⟩|⟨n,G,e,_⟩|⟨n,e,_⟩
   .unfold bN;rw[if_pos e];omega
   .unfold bN;rw[if_neg n,if_neg G,if_pos e];dsimp only;have l:=b1 n;rw[D _ l];have:=g _ (show d.left.toNat<ts.length by omega);omega
   .have l:=b1 n;have r:=b2 e;have sl:=g _ (show d.left.toNat<ts.length by omega);have sr:=g _ (show d.right.toNat<ts.length by omega);have pl:=x _ (show d.left.toNat<ts.length by omega);have pr:=x _ (show d.right.toNat<ts.length by omega);have q1:gW 6 (bB ts d.left.toNat)*gW 6 (bB ts d.right.toNat)<=1296*gW 6 (bB ts d.right.toNat):=Nat.mul_le_mul_right _ sl;have q2:gW 6 (bB ts d.left.toNat)*gW 6 (bB ts d.right.toNat)<=gW 6 (bB ts d.left.toNat)*1296:=Nat.mul_le_mul_left _ sr
    have hB:(if d.op=4 then gW 6 (bB ts d.left.toNat)*gW 6 (bB ts d.right.toNat)else gW 6 (bB ts d.left.toNat)+gW 6 (bB ts d.right.toNat))=bN 6 d λj=>gW 6 (bB (ts.set k d) j):=by
     unfold bN;rw[if_neg n];dsimp only;rw[D _ l,D _ r];split
     .rfl
     .rw[if_neg aC]
    rw[<-hB];rw[vM ok C]at R⊢
    unfold bN at R⊢
    rw[if_neg A]at R⊢
    dsimp only at R⊢
    have al:=z A;have tl:=x _ (show t.left.toNat<ts.length by omega);rcases L with⟨Q,I⟩|⟨Q,I⟩|⟨Q,I⟩
    ·
     rw[Q]at e⊢
     rw[<-I];have q3:1*gW 6 (bB ts d.right.toNat)<=gW 6 (bB ts t.left.toNat)*gW 6 (bB ts d.right.toNat):=Nat.mul_le_mul_right _ tl;split
     .omega
     .rw[if_neg aC];omega
    .rw[Q]at e⊢
     rw[<-I];have tr:=x _ (show t.right.toNat<ts.length by have:=B e;omega);have q3:gW 6 (bB ts d.left.toNat)*1<=gW 6 (bB ts d.left.toNat)*gW 6 (bB ts t.right.toNat):=Nat.mul_le_mul_left _ tr;split
     .omega
     .rw[if_neg aC];omega
    .rw[Q]at l sl pl q1 q2⊢
     rw[I]at r sr pr q1 q2⊢
     have q3:gW 6 (bB ts t.left.toNat)*1<=gW 6 (bB ts t.left.toNat)*gW 6 (bB ts t.right.toNat):=Nat.mul_le_mul_left _ pr;have q4:1*gW 6 (bB ts t.right.toNat)<=gW 6 (bB ts t.left.toNat)*gW 6 (bB ts t.right.toNat):=Nat.mul_le_mul_right _ pl;split<;>split<;>(try split)<;>omega
  have all:∀i,i<ts.length->gW 6 (bB (ts.set k d) i)<=1297*gW 6 (bB ts i):=by
   intro i
   induction i using Nat.strongRecOn with
   |_ i F=>
    intro y;by_cases e:i=k
    .subst e;exact V
    have o:ts[i]? =some ts[i]:=cq y;generalize ts[i]=u at o;have H:(ts.set k d)[i]? =some u:=by rw[P i e];exact o
    obtain⟨z,B⟩:=tJ ok o;rw[vM f H,vM ok o];unfold bN;dsimp only;split
    .omega
    .rename_i n;have l:=F _ (z n) (by have:=z n;omega);split
     .rename_i G;obtain⟨w,S,J⟩:=hj i u o G;have ne:u.right.toNat≠k:=λe=>by rw[e,C]at S;cases S;exact A J
      have W:(ts.set k d)[u.right.toNat]? =some w:=by rw[P _ ne];exact S
      have r1:gW 6 (bB (ts.set k d) u.right.toNat)=6:=by rw[vM f W];unfold bN;rw[if_pos J]
      have r2:gW 6 (bB ts u.right.toNat)=6:=by rw[vM ok S];unfold bN;rw[if_pos J]
      rw[r1,r2];omega
     .split
      .exact l
      .rename_i n2;have n3:=(ok i u o).1;have G:=vO u.op;have n5:arity u.op≠0:=λe=>n (wM e);have r:=F _ (B aC) (by have:=B aC;omega);omega
  intro i y;rw[len]at y;have:=all i y;have:=g i y;omega
theorem Jt.bnd{y:lL}{c:dv}(v:Jt s ts)(E:aiQ ts c)(h:eE y c rs=0){st:List dm}(n:∀l∈st,l.length<=6):AZ y st c:=by
 have d:=bSX h;obtain⟨_,_,_,F,_⟩:=Ei h;have z:=(MR d F c.length (Nat.le_refl _)).2;refine⟨λi t e=>(d i t e).1,λi t e=>(z i (cn e)).2 t e,λi f=>(z i f).1,6,bz,n,coX v.ok d v.fit (λi f=>(v.good i f).lf) (λi t e o=>?_) E⟩;have f:=(cn e);have A:=(v.good i f).jl;rw[iC v.ok e]at A;have B:=A.1 o;have H:=(tJ v.ok e).2 (QH o);have j:ts[t.right.toNat]? =some ts[t.right.toNat]:=cq aC;generalize ts[t.right.toNat]=u at j;refine⟨u,j,?_⟩
 have G:rJ ts t=[bB ts t.left.toNat,bB ts t.right.toNat]:=by
  unfold rJ;rcases tF (v.ar i t e)with⟨e,h⟩|⟨x,C,e,h⟩|⟨x,e,h⟩
  .omega
  .exact absurd o C
  .rw[h];rfl
 rw[G]at B;have D:=B (bB ts t.right.toNat) bx;rw[iC v.ok j]at D;have g:rJ ts u=[]:=D;unfold rJ at g;rcases tF (v.ar _ u j)with⟨e,h⟩|⟨x,C,e,h⟩|⟨x,e,h⟩
 .exact e
 .rw[h]at g;cases g
 .rw[h]at g;cases g
def Vf:Vc.Spec:=λc m h K=>∃s r,c=[cS s]/\bT h s r/\r.length<=1000/\∀d h',PH.le h h'->bT h' d r->K (cS d) m h'
def aCX:Vc.Spec:=λc m h K=>∃v s t d r,c=[aS v,cI t,cS d]/\fR h s v/\bT h d r/\r.length<=1000/\∀e h',PH.le h h'->bT h' e (L1 s t r)->K (cS e) m h'
def Vd(key:Int)(ks:dl)(r:dp):Prop:=r.length=ks.length/\(∀v∈r,NJ v)/\∀(i:Nat) v k,r[i]? =some v->ks[i]? =some k->w7 key k i v=true
def a4Z(m:MH)(d:Nat)(us:dn):Prop:=∃c:Array Value,m d=some (.cells c 53 (0,0))/\us.length<=c.size/\c.toList.take us.length=us.map Sl.val
def cFX:Vc.Spec:=λf m h K=>∃v s c n d e u,∃t:Nat,∃tab rs g j o row,f=[aS v,XJ ⟨some ⟨c,0,none⟩,n,d⟩,cI t,cS g,cS o]/\fR h s v/\s.tables[t]? =some tab/\a4Z m c e/\n=e.length/\e[t]? =some u/\Rows h u rs/\rs.length<=1000/\(∀r∈rs,r.length<=1000)/\bT h g j/\bT h o row/\0<row.length/\row.length<=1000/\
 ∀x m' h',PH.le h h'->Rows h' x (Ch tab j row false rs)->a4Z m' c (e.set t x)->bK m m' c->K (XJ ⟨some ⟨c,0,none⟩,n,d⟩) m' h'
noncomputable def b1X(v:bX)(sl:Sl)(t:Nat)(f g:Sl)(m:MH):Ctx:=cT [(48,aCX),(65,DF),(55,Vf)] [(4,{A:=Nat×dn×Bool×Sl×PH,st:=λ⟨i,e,d,u,h⟩=>bO 66 71 [(2,iv t),(3,sv f),(4,sv g),(5,.at (.ptr 5 0)),(6,.at (.ptr 6 0)),(10,.at (.ptr 10 0)),(11,.at (.lst 45)),(12,bv d),(23,sv u),(24,iv u.len),(25,iv i)] [(5,.cells 43 (v.enc.map .val)),(6,.cells 25 [.val sl.val]),(10,.cells 25 [.val cG.val]),(45,.lst 94 1 (e.map eS))] m h})] [(9,{A:=Nat×dn×Bool×Sl×Sl×Int×PH,st:=λ⟨i,e,d,u,r,c,h⟩=>bO 66 71 [(2,iv t),(3,sv f),(4,sv g),(5,.at (.ptr 5 0)),(6,.at (.ptr 6 0)),(10,.at (.ptr 10 0)),(11,.at (.lst 45)),(12,bv d),(14,sv r),(15,iv c),(23,sv u),(24,iv u.len),(25,iv i)] [(5,.cells 43 (v.enc.map .val)),(6,.cells 25 [.val sl.val]),(10,.cells 25 [.val cG.val]),(45,.lst 94 1 (e.map eS))] m h}),
 (14,{A:=dn×PH,st:=λ⟨e,h⟩=>bO 66 71 [(2,iv t),(6,.at (.ptr 6 0)),(10,.at (.ptr 10 0)),(11,.at (.lst 45))] [(6,.cells 25 [.val sl.val]),(10,.cells 25 [.val cG.val]),(45,.lst 94 1 (e.map eS))] m h})] [] false
def an(s:Sl)(m:MH)(h:PH)(K:dk):Prop:=
  Ka 3 h s 32 (λy=>bU h 3 y (λc d=>K (F9 c) m d))
def WD(v:bX)(t:Int)(s:Sl)(m:MH)(h:PH)(K:dk):Prop:=
  aW t 0 (K iO m h) (eK t (gE v) (K iO m h) (aJ (λb o=>aI (aK (lW v) b o) (0<=t) (t<aF v.tables) (∃(y:Int),aI (aR m h b (cC o t 5+2) (bQ y)) (0<=ite (pJ s y>0) (pJ s y) 0) (BU (ite (pJ s y>0) (pJ s y) 0) s) (nB (λd r=>aI (w6 (CV.val (Value.slice s.a (ite (pJ s y>0) (pJ s y) 0).toNat s.cap))=eY d) (bT h d r) (Co r) (fT (λe c=>dN h c (bT c e r) (K (F9 e) m c)))))))))
noncomputable abbrev Dm(a:Nat×dn×Bool×Sl×PH):Bool:=a.2.2.1
noncomputable abbrev pK(a:Nat×dn×Bool×Sl×PH):Sl:=a.2.2.2.1
abbrev BA(a b c:Nat):Prop:=eQ (oQ 25 (kM (At.val (Value.slice (xW a) b c))))
abbrev pW:Prop:=eQ (oQ 25 (kM Q9))
noncomputable abbrev B0(a:Nat×dn×Bool×Sl×PH):Nat->Nat->Option Value:=a.2.2.2.2
abbrev Kh(a:bX)(b:Nat)(c:Sl)(d:PH)(e:Sl->PH->Prop):Prop:=qS (λx j=>∃(n:Int),nB (λo f=>aA (cV (cD a) (fO (↑b:Int) (F9 c))=cV (cD x) (fO n (F9 o))) (fR d j x) (aA (bT d o f) (Co f) (fT (λu g=>dN d g (bT g u (L1 j n f)) (e u g))))))
abbrev Of(a:(Nat×dn×Bool×Sl×Sl×Int×PH)->Prop)(b:Nat)(c d:Sl)(e:(Nat×dn×Bool×Sl×Sl×Int×PH)->Prop):Prop:=∃(x:Nat×dn×Bool×Sl×Sl×Int×PH),aA (a x) (eQ (bL b)) (aA (aH c) (aH d) (aA dM gO (aA mF (eL 45) (e x))))
noncomputable abbrev Ku(a:Nat×dn×Bool×Sl×Sl×Int×PH):Sl:=a.2.2.2.2.1
noncomputable abbrev AJ(a:Nat×dn×Bool×Sl×Sl×Int×PH):Int×PH:=a.2.2.2.2.2
noncomputable abbrev yF(a:Nat×dn×Bool×Sl×Sl×Int×PH):Sl:=a.2.2.2.1
attribute [push_cast] Dm pK BA pW B0 Kh Of Ku AJ yF
def WE(v:bX)(g n e t:Nat)(z u:Sl)(m:MH)(h:PH)(K:dk):Prop:=
  aJ (λb o=>aI (aK (xW g) b o) (0<=(↑t:Int)) ((↑t:Int)<(↑n:Int)) (∃(y:Sl),aR m h b (bE o t 1) (aM y)/\∃(I:Nat×dn×Bool×Sl×PH->Prop)(D:Nat×dn×Bool×Sl×PH->Nat),(∃(x:Nat×dn×Bool×Sl×PH),aA (I x) (eQ (bL t)) (aA (aH z) (aH u) (aA dM gO (aA mF (eL 45) (aA (iL (aF u==0) (Dm x)) (bA y (pK x)) (aA (cJ y (pK x)) (aZ x.1) (aA (bP v) (BA g n e) (aA pW (pE x.2.1) (bG m m h (B0 x))))))))))/\∀(x:Nat×dn×Bool×Sl×PH),I x->aW (↑x.1:Int) (aF (pK x)) (aJ (λA B=>aI (aK (pK x).a A B) (0<=(↑x.1:Int)) ((↑x.1:Int)<aF (pK x)) (∃(C:Sl),aR m (B0 x) A (bE B x.1 1) (aM C)/\Kh v t C (B0 x) (λs j=>sF s z j
 (λa F=>∃(I1:Nat×dn×Bool×Sl×Sl×Int×PH->Prop),eK (dQ a F) 0 (mB (Dm x) (EJ u j (λr=>fT (λH G=>dN j G (bT G H r) (iY (iA x.2.1) 24 (Of (λd=>I1 d) t z u (λd=>aA (xN d.2.2.1) (bA C (Ku d)) (aA (dA (dQ a F) (AJ d).1) (bA (pK x) (yF d)) (aA (cJ (pK x) (yF d)) (bV x.1 d.1) (aA (bP v) (BA g n e) (aA pW (jS (iA x.2.1) H d.2.1) (aA (m=m) (G=(AJ d).2) True))))))))))) (Of (λd=>I1 d) t z u (λd=>aA (iL (Dm x) d.2.2.1) (bA C (Ku d)) (aA (dA (dQ a F) (AJ d).1) (bA (pK x) (yF d)) (aA (cJ (pK x) (yF d)) (bV x.1 d.1) (aA (bP v) (BA g n e) (aA pW (rY x.2.1 d.2.1) (aA (m=m) (j
 =(AJ d).2) True)))))))) (Of (λd=>I1 d) t z u (λd=>aA (iL (Dm x) d.2.2.1) (bA C (Ku d)) (aA (dA (dQ a F) (AJ d).1) (bA (pK x) (yF d)) (aA (cJ (pK x) (yF d)) (bV x.1 d.1) (aA (bP v) (BA g n e) (aA pW (rY x.2.1 d.2.1) (aA (m=m) (j=(AJ d).2) True)))))))/\∀(d:Nat×dn×Bool×Sl×Sl×Int×PH),I1 d->cK (AJ d).1 0 (iY (iA d.2.1) 24 (∃(f:Nat×dn×Bool×Sl×PH),aA (I f) (D f<D x) (aA (eQ (bL t)) (aH z) (aA (aH u) dM (aA gO mF (aA (eL 45) (iL d.2.2.1 (Dm f)) (aA (bA (yF d) (pK f)) (cJ (yF d) (pK f)) (aA (eR (bF ((↑d.1:Int)+1))=bL f.1) (bP v) (aA (BA g n e) pW (bS (jS (iA d.2.1)
 (Ku d) f.2.1) m m (AJ d).2 (B0 f))))))))))) (∃(f:Nat×dn×Bool×Sl×PH),aA (I f) (D f<D x) (aA (eQ (bL t)) (aH z) (aA (aH u) dM (aA gO mF (aA (eL 45) (iL d.2.2.1 (Dm f)) (aA (bA (yF d) (pK f)) (cJ (yF d) (pK f)) (aA (eR (bF ((↑d.1:Int)+1))=bL f.1) (bP v) (aA (BA g n e) pW (bS (rY d.2.1 f.2.1) m m (AJ d).2 (B0 f))))))))))))))) (∃(I1:dn×PH->Prop),mB (Dm x) (EJ u (B0 x) (λr=>fT (λs j=>dN (B0 x) j (bT j s r) (iY (iA x.2.1) 24 (∃(d:dn×PH),aA (I1 d) (eQ (bL t)) (aA gO mF (aA (eL 45) (BA g n e) (aA pW (jS (iA x.2.1) s d.1) (bG m m j d.2))))))))) (∃(d:dn×PH),aA (I1 d) (eQ (bL t)) (aA
 gO mF (aA (eL 45) (BA g n e) (aA pW (rY x.2.1 d.1) (bG m m (B0 x) d.2)))))/\∀(d:dn×PH),I1 d->aJ (λA B=>aI (aK (xW g) A B) (0<=(↑t:Int)) ((↑t:Int)<(↑n:Int)) (bU d.2 1 (iA d.1) (λs j=>kS (λc E=>aA (Gc m A (lF c E 0)) (nR (bE B t 1) c) (∀(J:MH),oX m J A c (bE B t 1) (aM s) E->K (gV (kH (Value.slice (xW g) n e))) J j))))))))
theorem ae:di 55 Vf:=by
 refine fU func55 ?_;rintro e m h K ⟨s,r,rfl,f,y,g⟩;refine⟨cT [] [] [] [] false,rfl,aG,an s m h K,bu,?_⟩;dsimp only[an,push_cast];obtain⟨⟨c,j,n,o⟩,u⟩:=f;exact⟨c.map VV.enc,Cf c,j,cg,cg,λx h' le d=>g x h' le ⟨⟨c,d,n,o⟩,u⟩⟩
theorem L6:di 48 aCX:=by
 refine fU func48 ?_;rintro C m h K ⟨v,s,t,z,r,rfl,A,n,L,u⟩;refine⟨cT [(55,Vf)] [] [] [] false,rfl,aE ae aG,WD v t z m h K,bu,?_⟩;dsimp only[WD,push_cast];have D:=A.tables.slen;have d:=bI.slen n;have c:vC s t=false->K iO m h:=λe=>u ⟨none,0,0⟩ h (.refl _) (by simp only[L1,e];exact bI.nil _ _ _ _);refine aD (λE=>c (by simp[vC];omega)) (λE=>aD (λF=>c (by simp[vC];omega)) (λF=>?_));have e:vC s t=true:=by simp[vC];omega
 obtain⟨f,g⟩:∃f,s.tables[t.toNat]? =some f:=⟨_,cq aC⟩
 obtain⟨b,o,y,G,rd,H⟩:=bI.at A.tables g;have M:=H.key;obtain⟨a,len,j⟩:=z;have B:len<=j:=by obtain⟨O,I,_⟩:=n.ex;exact I.cap
 have d:len=r.length:=d
 have x:(if(if(len:Int)<y.key then(len:Int)else y.key)>0 then(if(len:Int)<y.key then(len:Int)else y.key)else 0)=max 0 (min f.key r.length):=by
  omega
 refine⟨b,o,G,aC,aC,y.key,.imm (bZ.part rd 2 1),?_⟩;dsimp only;rw[x];have J:L1 s t r=r.take (max 0 (min f.key r.length)).toNat:=by simp only[L1,e,if_true,g];rfl
 rw[J]at u;exact⟨aC,aC,⟨a,(max 0 (min f.key r.length)).toNat,j⟩,_,rfl,n.cut aC,cg,u⟩
theorem Vd.snoc{key:Int}{ks:dl}{l:dp}{k:Int}{v:VV}(x:Vd key (ks.take i) l)(c:ks[i]? =some k)(f:NJ v)(g:w7 key k i v=true):Vd key (ks.take (i+1)) (l++[v]):=by
 obtain⟨n,o,y⟩:=x;have z:=(cn c);have A:l.length=i:=cg
 refine⟨cg,λu d=>?_,λj u B d e=>?_⟩
 .grind
 grind
theorem Wn{key k c:Int}(d:c=1\/c=2)(e:(i:Int)>=key):w7 key k i ⟨c,0,⟨#[]⟩⟩=true:=by
 rcases d with rfl|rfl<;>simp[w7,jW,I6]<;>omega
theorem aNX{key k:Int}{v:VV}(c:KOk k)(d:aBJ k v):w7 key k i v=true:=by
 obtain⟨e,f⟩:=d c;simp[w7,e,f]
theorem Vr(c:Int):NJ ⟨c,0,⟨#[]⟩⟩:=⟨⟨bx,bx⟩,by show(ByteArray.mk #[]).size<=64;decide⟩
theorem eD.at{us:dn}{rs:dm}(x:eD h us rs){r:dp}(c:rs[i]? =some r):∃u,us[i]? =some u/\bT h u r:=x.at_ i r c
theorem aRJ:di 47 cFX:=by
 refine fU func47 ?_;rintro b' m h K ⟨v,s,Z,n,R,us,u,t,tab,rs,sk,H,S,row,rfl,hs,T,hT,hn,hu,U,b0,a',a0,A,h0,h1,hK⟩;refine⟨b1X v ⟨some ⟨Z,0,none⟩,n,R⟩ t sk S m,rfl,aE L6 (aE Aa (aE ae aG)),WE v Z n R t sk S m h K,bu,?_⟩;dsimp only[WE,push_cast];obtain⟨x,I,b1,a1⟩:=hT;have b2:t<us.length:=(cn hu);have a2:=bI.slen U;have a9:=bI.slen A;have b3:((S.len:Int)==0)=false:=ce
 have a3:(x.toList.drop (0+t*1)).take [iI u].length=[iI u]:=by
  have B:x.toList[t]? =some (Sl.val u):=by
   have e:(x.toList.take us.length)[t]? =some (Sl.val u):=cg
   grind
  have L:=(cn B);rw[Nat.zero_add,Nat.mul_one,drop_eq_getElem_cons L,(List.getElem?_eq_some_iff.1 B).2];rfl
 refine⟨Z,0,rfl,aC,aC,u,.lent x 53 (0,0) I a3,λz=>z.2.2.2.1=u/\z.1<=rs.length/\PH.le h z.2.2.2.2/\∃out,eD z.2.2.2.2 z.2.1 out/\out.length<=2*z.1/\out++Ch tab H row z.2.2.1 (rs.drop z.1)=Ch tab H row false rs,λz=>rs.length-z.1,⟨(0,[],false,u,h),⟨rfl,bx,.refl _,[],eD.nil _,bx,bx⟩,cg⟩,?_⟩;rintro⟨i,D,d,u',hx⟩ ⟨e1,hi,g,out,j,E,oZ⟩;dsimp only at e1 hi g j E oZ⊢
 subst e1;have V:=j.len;refine aD (λL=>?_) (λb4=>?_)
 .obtain⟨r,F⟩:=dO a2 L;have a4:=(cn F);obtain⟨b,o,w,ea,rd,hv⟩:=bI.at U F;have M:rs.drop i=r::rs.drop (i+1):=by rw[drop_eq_getElem_cons a4,(List.getElem?_eq_some_iff.1 F).2]
  rw[M,Ch]at oZ;refine⟨b,o,ea,aC,aC,w,.imm (rd.mono g),v,s,t,w,r,rfl,hs.mono g,bT.mono hv g,a' r (cr F),λs' h2 y a5=>⟨s',sk,_,H,rfl,a5,bT.mono a0 (g.trans y),?_⟩⟩;rw[AT T];generalize hc:dQ (mP tab r) H=c at oZ⊢
  refine⟨λz=>z.1=i/\z.2.2.2.1=u'/\z.2.2.2.2.1=w/\z.2.2.2.2.2.1=c/\PH.le hx z.2.2.2.2.2.2/\∃out,eD z.2.2.2.2.2.2 z.2.1 out/\out.length<=2*i+1/\out++((if c≠0 then[r]else[])++Ch tab H row z.2.2.1 (rs.drop (i+1)))=Ch tab H row false rs,aD (λO=>aB (λC=>?_) (λC=>?_)) (λO=>?_),?_⟩
  .have C:d=false:=cg
   subst C;rw[if_pos ⟨O,rfl⟩,show(false||decide (0<=c))=true by simp;omega]at oZ;refine⟨S,row,rfl,bT.mono A (g.trans y),h1,λG P f Q=>⟨cg,cg,(i,D++[G],true,u',w,c,P),⟨rfl,rfl,rfl,rfl,y.trans f,out++[row],(j.mono (y.trans f)).snoc Q,cg,?_⟩,?_⟩⟩
   .grind
   .rw[cv];exact MT
  .have C:d=true:=cg
   subst C;rw[if_neg bx,Bool.true_or,nil_append]at oZ;exact⟨(i,D,true,u',w,c,h2),⟨rfl,rfl,rfl,rfl,y,out,j.mono y,aC,oZ⟩,MT⟩
  .rw[if_neg (λh=>O h.1),show(d||decide (0<=c))=d by grind,nil_append]at oZ;exact⟨(i,D,d,u',w,c,h2),⟨rfl,rfl,rfl,rfl,y,out,j.mono y,aC,oZ⟩,MT⟩
  clear oZ j E V out D;rintro⟨i',D,d,u2,w2,c2,P⟩ ⟨e2,e3,e4,e5,f,out,j,E,oZ⟩;dsimp only at e2 e3 e4 e5 f j E oZ⊢
  subst e2 e3 e4 e5;have V:=j.len;have hw:IntKind.i64.wrap ((i':Int)+1)=((i'+1:Nat):Int):=fD aC;refine aB (λa6=>?_) (λa6=>?_)
  .rw[if_pos cg]at oZ;refine⟨cg,cg,(i'+1,D++[w2],d,u2,P),⟨rfl,aC,g.trans f,out++[r],j.snoc (bT.mono hv (g.trans f)),cg,cg⟩,aC,?_⟩;rw[hw,cv];exact MT
  .rw[if_neg cg,nil_append]at oZ;refine⟨(i'+1,D,d,u2,P),⟨rfl,aC,g.trans f,out,j,aC,oZ⟩,aC,?_⟩
   grind
 .have a7:i=rs.length:=by omega
  rw[a7,drop_length,Ch]at oZ;refine⟨λz=>PH.le h z.2/\eD z.2 z.1 (Ch tab H row false rs),aB (λC=>?_) (λC=>?_),?_⟩
  .have C:d=false:=cg
   rw[C,if_neg bx]at oZ;refine⟨S,row,rfl,bT.mono A g,h1,λG P f Q=>⟨cg,cg,(D++[G],P),⟨g.trans f,by rw[<-oZ];exact(j.mono f).snoc Q⟩,?_⟩⟩;rw[cv];exact MT
  .have C:d=true:=cg
   rw[C,if_pos rfl,append_nil]at oZ;exact⟨(D,hx),⟨g,cg⟩,MT⟩
  rintro⟨b5,P⟩ ⟨f,J⟩;dsimp only at f J⊢
  have b6:=NU (t:=tab) (key:=H) (row:=row) (l:=rs) (d:=false);refine⟨Z,0,rfl,aC,aC,λG h4 W a8=>⟨x,53,⟨I⟩,?_,λm' X=>hK G m' h4 (f.trans W) ((J.mono W).rows a8 cg) ⟨_,X.at_,?_,?_⟩ ⟨λb hb=>(X.other b hb).symm▸rfl⟩⟩⟩
  .omega
  .have Y:splice x.toList (0+((t:Int)).toNat*1) [iI G]=x.toList.set t (Sl.val G):=by
    rw[set_eq_take_append_cons_drop,if_pos cg];simp only[splice,Int.toNat_natCast,Nat.zero_add,Nat.mul_one,length_singleton,append_assoc];rfl
   grind
  .have Y:splice x.toList (0+((t:Int)).toNat*1) [iI G]=x.toList.set t (Sl.val G):=by
    rw[set_eq_take_append_cons_drop,if_pos cg];simp only[splice,Int.toNat_natCast,Nat.zero_add,Nat.mul_one,length_singleton,append_assoc];rfl
   rw[Y,length_set,map_set, <-a1,take_set]
def Q3{α:Type}(T:List α->α->Prop):List α->List α->Prop
 |_,[]=>True
 |pre,x::r=>T pre x/\Q3 T (pre++[x]) r
theorem Wk{α:Type}{T:List α->α->Prop}:∀{l c:List α},Q3 T c l->∀(j:Nat) x,l[j]? =some x->T (c++l.take j) x
 |[],_,_,j,x,e=>by simp at e
 |y::r,c,h,0,x,e=>by simp at e;subst e;simpa using h.1
 |y::r,c,h,j+1,x,e=>by
  have:=Wk h.2 j x (cm e)
  grind
theorem FF{α:Type}{T:List α->α->Prop}{l:List α}(h:Q3 T [] l):Good T l:=λj x e=>cm (Wk h j x e)
theorem aMJ{α:Type}{T:List α->α->Prop}{l:List α}(h:Good T l)(n:Nat):Good T (l.take n):=λj x e=>by
 rw[getElem?_take]at e;split at e
 .rename_i c;rw[take_take,Nat.min_eq_left aC];exact h j x e
 .cases e
theorem a7X(u:s.tables.length<=8)(g:∀t∈s.tables,t.columns.length<=8/\t.refs=[]/\t.checks=[])(y:0<=s.version)(z:s.version<=1000)(A:Good D7 s.tables):cQ s=0:=by
 have c:CD s:=⟨u,λj t e=>by
  obtain⟨n,d,o⟩:=g t (cr e);exact⟨n,by simp[d],by simp[o]⟩⟩
 have ok:Ny s:=⟨y,z,A,λj t e=>by
  obtain⟨n,d,o⟩:=g t (cr e);unfold F5;rw[d];intro i x B;simp at B⟩
 rw[LC c ok];refine vJ _ λe f=>?_;obtain⟨i,_,f⟩:=mem_flatMap.1 f;unfold xB at f
 grind
theorem Yg{id:Int}(h:id=4\/id=5):Good D7 (tK id):=by
 have c:eH id=true:=by rcases h with rfl|rfl<;>rfl
 refine FF ⟨⟨?_,?_,?_,?_,FF ⟨⟨?_,?_,?_⟩,⟨?_,?_,?_⟩,trivial⟩⟩,⟨?_,?_,?_,?_,FF ⟨⟨?_,?_,?_⟩,⟨?_,?_,?_⟩,⟨?_,?_,?_⟩,⟨?_,?_,?_⟩,trivial⟩⟩,⟨?_,?_,?_,?_,FF ⟨⟨?_,?_,?_⟩,⟨?_,?_,?_⟩,trivial⟩⟩,⟨?_,?_,?_,?_,FF ⟨⟨?_,?_,?_⟩,trivial⟩⟩,trivial⟩
 all_goals first|exact c|rfl|(simp;done)|decide
theorem VO(h:D8 s):cQ s=0/\s.tables≠[]:=by
 obtain⟨f,n,id,g,j,o,u,c,rfl⟩:=h.ex;refine⟨a7X cg (λt d=>?_) g cg (aMJ (Yg c) n),λe=>?_⟩
 .have d:=mem_of_mem_take d;simp only[tK,mem_cons,not_mem_nil,or_false]at d
  grind
 .have:=congrArg List.length e;simp[tK]at this;omega
theorem RP(h:D8 s){t:A8}(d:t∈s.tables):1<=t.key/\1<=t.columns.length/\t.columns.length<=4/\∀c∈t.columns,KOk c.kind:=by
 obtain⟨g,n,id,o,u,x,y,f,rfl⟩:=h.ex;have j:KOk id:=by rcases f with rfl|rfl;exact .inr (.inl rfl);exact .inr (.inr rfl)
 have d:=mem_of_mem_take d;simp only[tK,mem_cons,not_mem_nil,or_false]at d;rcases d with rfl|rfl|rfl|rfl
 all_goals
  refine⟨bx,bx,bx,λc e=>?_⟩;simp only[mem_cons,not_mem_nil,or_false]at e
 .rcases e with rfl|rfl<;>exact .inr (.inl rfl)
 .rcases e with rfl|rfl|rfl|rfl
  .exact j
  .exact .inr (.inl rfl)
  .exact .inr (.inr rfl)
  .exact .inl rfl
 .rcases e with rfl|rfl<;>exact .inr (.inl rfl)
 grind
structure ahJ(s:lL)(st:List dm):Prop where
 len:st.length=s.tables.length
 few:∀l∈st,l.length<=4
 ok:IN s st
 val:Vj st
theorem fJ.iceB{u:MH}{f:PH}{r:CV}{g:Nat}{d:Array Value}{E:TypeId}(j:u g=some (.cells d E (0,0)))(le:PH.le h f)(z:∀y,PH.le f y->(∀i,y g i=d[i]?)->K r (λb=>if b=g then none else u b) y):fJ h K r u f:=by
 intro n;have A:∀i,f g i=none:=n g _ j
 have c:PH.le f (λx i=>if x=g then d[i]? else f x i):=⟨λx i v e=>by
  grind⟩
 refine⟨_,_,λb o e=>?_,le.trans c,λx i v e=>?_,z _ c (λi=>bx)⟩
 .grind
 grind
structure TSt(h:PH)(s:lL)(m:MH)(tb:Nat)(us:dn)(st:List dm):Prop where
 tbl:a4Z m tb us
 ulen:us.length=s.tables.length
 slen:st.length=s.tables.length
 rows:∀(j:Nat) u l,us[j]? =some u->st[j]? =some l->Rows h u l
 ok:IN s st
 val:Vj st
 few:∀l∈st,l.length<=4
theorem TSt.mono{c:Nat}{us:dn}{st:List dm}(x:TSt h s m c us st)(le:PH.le h h')(e:m' c=m c):TSt h' s m' c us st:=by
 obtain⟨d,o,f,g⟩:=x.tbl;exact⟨⟨d,cg,f,g⟩,x.ulen,x.slen,λj u l a b=>bI.mono (x.rows j u l a b) le λr t n=>bT.mono n le,x.ok,x.val,x.few⟩
theorem bVX{t:A8}{r:dp}(h:Vd t.key (t.columns.map pB.kind) r):Bh t r=true:=by
 obtain⟨c,_,d⟩:=h;rw[length_map]at c;refine Cv.2 ⟨c,λi e=>?_⟩
 grind
theorem bgQ{key k:Int}{v:VV}(h:w7 key k i v=true)(c:NJ v):l8 v.kind/\l8 v.int:=by
 simp only[w7,cz]at h;have:=MU h.1;exact⟨⟨aC,aC⟩,c.int_⟩
theorem TSt.put{A t:Nat}{us:dn}{st:List dm}{u':Sl}{tab:A8}{l:dm}{row:dp}(x:TSt h s m A us st)(le:PH.le h h')(G:s.tables[t]? =some tab)(B:st[t]? =some l)(J:a4Z m' A (us.set t u'))(f:Rows h' u' (Ch tab (mP tab row) row false l))(z:Vd tab.key (tab.columns.map pB.kind) row)(Q:l.length<=3):
 TSt h' s m' A (us.set t u') (st.set t (Ch tab (mP tab row) row false l)):=by
 have C:=bVX z;have D:=(cn B);have o:=x.ok t tab l G B;refine⟨J,by rw[length_set];exact x.ulen,by rw[length_set];exact x.slen,λj u g H c=>?_,λj L g n c=>?_,λg c=>?_,λg c=>?_⟩
 .by_cases e:t=j
  .grind
  .rw[getElem?_set_ne e]at H c;exact bI.mono (x.rows j u g H c) le λr t y=>bT.mono y le
 .by_cases e:t=j
  .subst e;rw[getElem?_set_self D]at c;rw[G]at n;cases c;cases n;refine⟨λr f=>?_,λi r M O P=>(O4 (Rp.of o.2)).adj i r M O P⟩;rcases NT f with rfl|f
   .exact C
   .exact o.1 r f
  .rw[getElem?_set_ne e]at c;exact x.ok j L g n c
 .rcases mem_or_eq_of_mem_set c with E|rfl
  .exact x.val g E
  .intro r f v y;rcases NT f with rfl|f
   .obtain⟨i,I,rfl⟩:=mem_iff_getElem.1 y;have F:i<(tab.columns.map pB.kind).length:=by rw[<-z.1];exact I
    exact bgQ (z.2.2 i _ _ (cq I) (cq F)) (z.2.1 _ y)
   .exact x.val l (cr B) r f v y
 .rcases mem_or_eq_of_mem_set c with E|rfl
  .exact x.few g E
  .have:=NU (t:=tab) (key:=mP tab row) (row:=row) (l:=l) (d:=false)
   grind
def aFQ:Vc.Spec:=λc m h K=>c=[]/\gS m/\K (cB true) m h
def pS:lL:=⟨0,[⟨⟨⟨[116]⟩⟩,[⟨⟨⟨[105,100]⟩⟩,4⟩],1,[],[]⟩]⟩
def Bq:Query:=.mk 1 0 gM [] [] [] [] 0 []
def VS:Pred:=.mk 1 0 dG dG []
def pF:Query:=.mk 2 0 VS [] [] [] [] 0 [Bq]
def pU:Query:=.mk 6 0 gM [] [] [] [] 0 [pF,pF]
theorem baQ:cQ pS=0:=a7X bz (λt c=>by simp[pS]at c;subst c;exact⟨bx,rfl,rfl⟩) bz bz (by
 refine FF ⟨⟨?_,?_,?_,?_,FF ⟨⟨?_,?_,?_⟩,trivial⟩⟩,trivial⟩
 all_goals first|rfl|(simp;done)|decide)
theorem aHZ{op:Int}(d:op=6\/op=7\/op=8)(h:(bM s ps q).2=0):(bM s ps (.mk op 0 gM [] [] [] [] 0 [q,q])).2=0:=by
 have f:=z7 s ps q;have e:bM s ps q=((bM s ps q).1,0):=Prod.ext rfl h;have g:eO s ps [q,q]=([(bM s ps q).1,(bM s ps q).1],0):=wK (by simp;exact e);simp only[bM,g,if_true];have c:((2:Nat):Int)=arity op:=by rcases d with rfl|rfl|rfl<;>decide
 simp only[de,length_nil];rw[if_pos c];unfold eU;dsimp only;rw[if_neg (by rw[<-c];simp[dU])];rw[if_neg aC,if_neg aC,if_neg aC,if_neg aC,if_neg aC,if_neg aC,if_neg aC,if_pos bx];simp only[getD_cons_zero];unfold nI;rw[if_pos f]
theorem czX:(eF pS [] pU).2=0:=by
 have d:(eF pS [] Bq).2=0:=Ui baQ bz bz bz;have f:=(CO d).2.2.2
 have g:(bM pS [] pF).2=0:=by
  have z:=z7 pS [] Bq;have e:bM pS [] Bq=((bM pS [] Bq).1,0):=Prod.ext rfl f;have c:eO pS [] [Bq]=([(bM pS [] Bq).1],0):=wK (by simp;exact e)
  have j:bM pS [] pF=eU pS [] pF (bM pS [] Bq).1 []:=by
   show bM pS [] (.mk 2 0 VS [] [] [] [] 0 [Bq])=_;simp only[bM,c,if_true];rw[if_pos bz];rfl
  have n:(bM pS [] Bq).1=[4]:=by
   have o:bM pS [] Bq=eU pS [] Bq [] []:=by
    show bM pS [] (.mk 1 0 gM [] [] [] [] 0 [])=_;simp only[bM,eO,if_true];rfl
   rw[o];unfold eU Bq;dsimp only;rw[if_neg (by simp[dU,arity]),if_pos rfl,if_pos bz];rfl
  have u:fH [4] [] VS=0:=by
   have x:iP [4] [] VS=true:=by
    have:X3 dG dG=true:=rB.2 rfl;simp[VS,iP,Ej,this]
   unfold fH;rw[x,if_neg bz,if_neg bz];rfl
  rw[j,n];unfold eU pF;dsimp only;rw[if_neg (by simp[dU,arity]),if_neg bz,if_pos rfl,if_pos u];rfl
 have y:=aHZ (.inl rfl) g;have c:uT pU=true:=by rfl
 unfold eF;rw[if_pos baQ,if_pos bz,if_pos c];exact y
theorem bSJ{ks:ed}(h:y9 [pU] [] ts ks):ks=[2]/\ts.length=3/\∃t,ts[2]? =some t/\t.left=1/\t.right=1:=by
 obtain⟨E,u,_,n,⟨rfl,rfl⟩,rfl⟩:=h;unfold pU at n;rw[vP]at n;obtain⟨y,l,F,r,d,z,A⟩:=n;have o:(([]:dv).map keyOf).Nodup:=bx
 have d:Bo pF [] y l:=d;have B:=(wN pF o d).1;obtain⟨rfl,rfl⟩:=again pF o d (prefix_refl _) B z;unfold pF at d;rw[vP]at d;obtain⟨G,C,D,H,j,⟨rfl,rfl⟩,f⟩:=d;have j:Bo Bq [] D C:=j;unfold Bq at j;rw[vP]at j;obtain⟨I,J,L,M,⟨rfl,rfl⟩,⟨rfl,rfl⟩,g⟩:=j;rcases g with⟨x,c,_⟩|⟨_,rfl,rfl⟩
 .simp at c
 rcases f with⟨x,c,e,_⟩|⟨_,rfl,rfl⟩
 .exfalso;have:=(RZ e).1;cases r with
  |zero=>simp at c;subst c;simp at this
  |succ i=>simp at c
 rcases A with⟨x,c,e,_⟩|⟨_,rfl,rfl⟩
 .exfalso;have:=(RZ e).1
  match u,c with
  |0,c=>simp at c;subst c;simp at this
  |1,c=>simp at c;subst c;simp at this
  |i+2,c=>simp at c
 exact⟨rfl,rfl,_,rfl,rfl,rfl⟩
theorem avX{c:ds}(e:c.length<=32)(d:cQ s=0):oK s c=kB (c.map λq=>(eF s [] q).2):=by
 unfold oK;rw[if_neg aC,if_neg (by simp[d])]
theorem aIX{h:PH}{s:Sl}{v:QV}{q:Query}(r:cE h s 21 [QV.enc v,QV.enc v])(c:dZ h q v):wV h s [q,q]:=⟨⟨[v,v],r,rfl,λi x e=>by
 match i,e with
 |0,e=>simp at e;subst e;exact⟨v,rfl,c⟩
 |1,e=>simp at e;subst e;exact⟨v,rfl,c⟩
 |i+2,e=>simp at e⟩,bx⟩
theorem Steps.at{p:Sl}{vs:List gA}(r:cE h p 22 (vs.map gA.enc))(s:Steps h vs ts)(c:ts[i]? =some t):∃b o v,p.a=some ⟨b,o,none⟩/\bZ h b (o+i*22) (gA.enc v)/\kW h t v:=by
 obtain⟨v,d,f⟩:=s.2 i t c;obtain⟨b,o,e,k⟩:=r.get (i:=i) (e:=gA.enc v) (by simp[d]);exact⟨b,o,v,e,k,f⟩
theorem Steps.slen{p:Sl}{vs:List gA}(r:cE h p 22 (vs.map gA.enc))(s:Steps h vs ts):p.len=ts.length:=by
 have:=r.len;simp at this;rw[this,s.1]
theorem aTJ:di 27 aFQ:=by
 refine DS func27 ?_;rintro S m h K ⟨rfl,T,U⟩;refine⟨cT [(72,XX)] [] [] [] false,rfl,aE aQQ aG,Qa m h (jF h K),bu,?_⟩;show Qa m h (jF h K);dsimp only[Qa,push_cast];intro H h1 z V I h2 o W J h3 j X L h4 f Y Z c d r5;have rs:dZ c Bq ⟨1,0,iJ,cG,cG,cG,cG,0,cG⟩:=Gp c 0;have rf:dZ c pF ⟨2,0,⟨1,0,dG,dG,cG⟩,cG,cG,cG,cG,0,I⟩:=FK (KT rfl) (zI (v:=⟨1,0,iJ,cG,cG,cG,cG,0,cG⟩) (W.mono ((j.trans f).trans d)) rs);have ru:dZ c pU ⟨6,0,iJ,cG,cG,cG,cG,0,J⟩:=nS.rep ⟨rfl,rfl,G7 c,rH c,wR c,rH c,zE c,rfl,aIX (v:=⟨2,0,⟨1,0,dG,dG,cG⟩,cG,cG,cG,cG,0,I⟩) (X.mono (f.trans d)) rf⟩;have rt:MM c ⟨⟨⟨[116]⟩⟩,[⟨⟨⟨[105,100]⟩⟩,4⟩],1,[],[]⟩ ⟨⟨⟨[116]⟩⟩,H,1,cG,cG⟩:=⟨rfl,Lg (l:=[⟨_,_⟩]) (V.mono (((o.trans j).trans f).trans d)) bx,rfl,bI.nil _ _ _ _,bI.nil _ _ _ _⟩
 have rS:fR c pS ⟨0,L⟩:=⟨rfl,⟨⟨[⟨⟨⟨[116]⟩⟩,H,1,cG,cG⟩],Y.mono d,rfl,λi x e=>by
  match i,e with
  |0,e=>simp[pS]at e;subst e;exact⟨_,rfl,rt⟩
  |i+1,e=>simp[pS]at e⟩,by simp[pS]⟩⟩
 have A:oK pS [pU]=0:=by
  rw[avX bz baQ];simp[kB,czX]
 refine⟨⟨0,L⟩,Z,pS,[pU],rfl,rS,zI (v:=⟨6,0,iJ,cG,cG,cG,cG,0,J⟩) r5 ru,T,λq _ hq=>aJZ hq,λhn=>(hn A).elim,λ_ p r ts ks h6 B u C=>?_⟩;obtain⟨rfl,D,t,E,tl,tr⟩:=bSJ u;obtain⟨vs,g,y⟩:=C.steps;have F:=Steps.slen g y;have n:=C.roots.slen;obtain⟨b1,o1,e1,q1⟩:=C.roots.at (i:=0) (x:=2) rfl;obtain⟨M,O,v,P,Q,R⟩:=Steps.at g y E;have G:=((((z.trans o).trans j).trans f).trans d).trans B;have n:r.len=1:=cm n
 rw[F,D,n];refine aB (λ_=>aB (λ_=>⟨b1,o1,e1,aC,aC,2,.imm q1,aB (λ_=>⟨M,O,P,aC,aC,v.left,.imm (bZ.part Q 20 1),aB (λ_=>⟨M,O,P,aC,aC,v.right,.imm (bZ.part Q 21 1),?_⟩) (λe=>?_)⟩) (λe=>?_)⟩) (λe=>?_)) (λe=>?_)
 .rw[R.right_,tr];exact .out (Sub.refl m) G U
 .rw[R.left_,tl]at e;cases e
 .cases e
 .cases e
 .cases e
abbrev Rel:=dm
theorem bUJ{l:Rel}{x:dp}:Lu l x=false↔x∉l:=by
 rw[<-Ox];grind
structure CC(l k:dm):Prop where
 mem:∀x,x∈k↔x∈l
 len:k.length=l.length
 srt:k.Pairwise λx y=>dQ x y<=0
def U2(N:Nat):Vc.Spec:=λc m h K=>∃s l,c=[cS s]/\Rows h s l/\l.length<N/\l.length<=8000000/\∀d h' k,PH.le h h'->Rows h' d k->CC l k->K (cS d) m h'
def ayQ:Vc.Spec:=λc m h K=>∃s l,c=[cS s]/\Rows h s l/\l.length<=8000000/\(∀r∈l,r.length<=1000)/\∀d h',PH.le h h'->Rows h' d (Bb l)->K (cS d) m h'
noncomputable def bpZ(N:Nat)(s:Sl)(m:MH):Ctx:=
 cT [(65,DF),(200,U2 N)] [(5,{A:=Sl×Sl×dn×PH,st:=λ⟨a,b,c,h⟩=>bO 63 64 [(3,sv a),(4,sv b),(5,.at (.lst 25))] [(25,.lst 94 1 (c.map eS))] m h})] [(4,{A:=Sl×Sl×PH,st:=λ⟨a,b,h⟩=>bO 63 64 [(0,sv s),(3,sv a),(4,sv b)] [] m h})] [] false
noncomputable def byZ(m:MH):Ctx:=
 cT [(65,DF),(55,Vf),(200,U2 8000001)] [(3,{A:=Nat×Sl×dn×PH,st:=λ⟨i,t,c,h⟩=>bO 34 35 [(3,.at (.lst 31)),(7,sv t),(8,iv t.len),(9,iv i)] [(31,.lst 94 1 (c.map eS))] m h})] [] [] false
noncomputable abbrev nZ(a:Sl):Int:=bF (Int.tdiv (aF a) 2)
abbrev CY(a:eb)(b:PH)(c:Nat)(d:dm->Sl->PH->dm->Prop):Prop:=Fq (λx e=>aA (a=eY x) (Rows b x e) (aA (e.length<c) (mZ e) (fT (λg f=>∀(j:dm),dN b f (Rows f g j) (d e g f j)))))
abbrev BZ(a:Sl):Prop:=a.len<=a.cap
noncomputable abbrev kG(a:Sl×Sl×dn×PH):Sl:=a.2.1
noncomputable abbrev lH(a:Sl×Sl×dn×PH):Nat->Nat->Option Value:=a.2.2.2
abbrev tO(a:Sl×Sl×dn×PH)(b c:Nat)(d:Sl):Prop:=bZ (lH a) b (c+0) (aM d)
noncomputable abbrev lT(a:Sl×Sl×dn×PH):List dj:=iA a.2.2.1
attribute [push_cast] nZ CY BZ kG lH tO lT
def SM(N:Nat)(s:Sl)(m:MH)(h:PH)(K:dk):Prop:=
  aW (aF s) 2 (Ka 1 h s 24 (λy=>nD h y K m)) (∃(I:Sl×Sl×PH->Prop),aA (uW ((2:Int)=0)) (uW ((2:Int)=0)) (aA (aA (bY (nZ s)) (BU (nZ s) s) (aA (CY (w6 (CV.val (Value.slice s.a (nZ s).toNat s.cap))) h N (λl e A k=>CC l k->aI (bY (nZ s)) (nZ s<=aF s) (BZ s) (∀(z:Sl),zC 1 (cX s) (nZ s).toNat z->CY (eY z) A N (λB C D E=>CC B E->∃(x:Sl×Sl×PH),aA (I x) (aH s) (aA (bA e x.1) (bA C x.2.1) (bG m m D x.2.2)))))) (bY (nZ s)) (aA (nZ s<=aF s) (BZ s) (∀(e:Sl),zC 1 (cX s) (nZ s).toNat e->CY (w6 (CV.val (Value.slice s.a (nZ s).toNat s.cap))) h N (λl z A k=>CC l k->CY (eY e) A N (λB C D E=>CC B E->∃(x:Sl×Sl
 ×PH),aA (I x) (aH s) (aA (bA z x.1) (bA C x.2.1) (bG m m D x.2.2)))))))) (bY (nZ s)) (aA (nZ s<=aF s) (BZ s) (∀(e:Sl),zC 1 (cX s) (nZ s).toNat e->aA (bY (nZ s)) (BU (nZ s) s) (CY (w6 (CV.val (Value.slice s.a (nZ s).toNat s.cap))) h N (λl z A k=>CC l k->CY (eY e) A N (λB C D E=>CC B E->∃(x:Sl×Sl×PH),aA (I x) (aH s) (aA (bA z x.1) (bA C x.2.1) (bG m m D x.2.2))))))))/\∀(x:Sl×Sl×PH),I x->aA (bY 0) (bY (aF s)) (aA (sK s 24) (qU (aF s)) (∃(I1:Sl×Sl×dn×PH->Prop)(u:Sl×Sl×dn×PH->Nat),(∃(c:Sl×Sl×dn×PH),aA (I1 c) (bA x.1 c.1) (aA (bA x.2.1 (kG c)) (eL 25) (bS (pE c.2.2.1) m m x.2.2 (lH c))))/\∀(c:Sl×Sl×
 dn×PH),I1 c->fA (aF c.1) 0 (fA (aF (kG c)) 0 (aJ (λb o=>aI (aK c.1.a b o) ((0:Int)<=0) (0<aF c.1) (∃(y:Sl),aR m (lH c) b (o+0) (aM y)/\aJ (λF G=>aI (aK (kG c).a F G) ((0:Int)<=0) (0<aF (kG c)) (∃(n:Sl),aR m (lH c) F (G+0) (aM n)/\sF y n (lH c) (λa H=>Gt (dQ a H) 0 (aJ (λg j=>aI (aK c.1.a g j) ((0:Int)<=0) (0<aF c.1) (∃(f:Sl),aA (aR m (lH c) g (j+0) (aM f)) (aA (aA (tO c g j f) (j4 (nY (lT c) 1*24)) (aA (zY (lT c)) (tO c g j f) (aI (bY 1) (1<=aF c.1) (BZ c.1) (∀(e:Sl),zC 1 (cX c.1) 1 e->∃(d:Sl×Sl×dn×PH),aA (I1 d) (u d<u c) (aA (bA e d.1) (bA (kG c) (kG d)) (aA
 (eL 25) (jS (lT c) f d.2.2.1) (aA (m=m) (lH c=lH d) True))))))) (tO c g j f) (aA (bY 1) (1<=aF c.1) (c.1.len<=c.1.cap/\∀(e:Sl),zC 1 (cX c.1) 1 e->nQ (tO c g j f) (lT c) 24 (∃(d:Sl×Sl×dn×PH),aA (I1 d) (u d<u c) (aA (bA e d.1) (bA (kG c) (kG d)) (aA (eL 25) (jS (lT c) f d.2.2.1) (aA (m=m) (lH c=lH d) True))))))) (aA (tO c g j f) (bY 1) (aA (1<=aF c.1) (BZ c.1) (∀(e:Sl),zC 1 (cX c.1) 1 e->nQ (tO c g j f) (lT c) 24 (∃(d:Sl×Sl×dn×PH),aA (I1 d) (u d<u c) (aA (bA e d.1) (bA (kG c) (kG d)) (aA (eL 25) (jS (lT c) f d.2.2.1) (aA (m=m) (lH c=lH d) True)))))))))) (aJ (λg j=>aI (aK
 (kG c).a g j) ((0:Int)<=0) (0<aF (kG c)) (∃(f:Sl),aA (aR m (lH c) g (j+0) (aM f)) (aA (aA (tO c g j f) (j4 (nY (lT c) 1*24)) (aA (zY (lT c)) (tO c g j f) (aI (bY 1) (1<=aF (kG c)) (BZ (kG c)) (∀(e:Sl),zC 1 (cX (kG c)) 1 e->∃(d:Sl×Sl×dn×PH),aA (I1 d) (u d<u c) (aA (bA c.1 d.1) (bA e (kG d)) (aA (eL 25) (jS (lT c) f d.2.2.1) (aA (m=m) (lH c=lH d) True))))))) (tO c g j f) (aA (bY 1) (1<=aF (kG c)) ((kG c).len<=(kG c).cap/\∀(e:Sl),zC 1 (cX (kG c)) 1 e->nQ (tO c g j f) (lT c) 24 (∃(d:Sl×Sl×dn×PH),aA (I1 d) (u d<u c) (aA (bA c.1 d.1) (bA e (kG d)) (aA (eL 25) (jS
 (lT c) f d.2.2.1) (aA (m=m) (lH c=lH d) True))))))) (aA (tO c g j f) (bY 1) (aA (1<=aF (kG c)) (BZ (kG c)) (∀(e:Sl),zC 1 (cX (kG c)) 1 e->nQ (tO c g j f) (lT c) 24 (∃(d:Sl×Sl×dn×PH),aA (I1 d) (u d<u c) (aA (bA c.1 d.1) (bA e (kG d)) (aA (eL 25) (jS (lT c) f d.2.2.1) (aA (m=m) (lH c=lH d) True)))))))))))))))) (∃(y:List dj),aA (cZ 1 y) (cE (lH c) (cX c.1) 1 y) (aA (mI (lT c) y 24) (mC (lT c) y) (∃(n:List dj),aA (cZ 1 n) (cE (lH c) (cX (kG c)) 1 n) (aA (mI (lT c++y) n 24) (mC (lT c++y) n) (nD (lH c) (lT c++y++n) K m)))))) (∃(y:List dj),aA (cZ 1 y) (cE (lH c)
 (cX c.1) 1 y) (aA (mI (lT c) y 24) (mC (lT c) y) (∃(n:List dj),aA (cZ 1 n) (cE (lH c) (cX (kG c)) 1 n) (aA (mI (lT c++y) n 24) (mC (lT c++y) n) (nD (lH c) (lT c++y++n) K m))))))))
noncomputable abbrev nF(a:Nat×Sl×dn×PH):Sl:=a.2.1
noncomputable abbrev uB(a:Nat×Sl×dn×PH):Nat->Nat->Option Value:=a.2.2.2
noncomputable abbrev yL(a:Nat×Sl×dn×PH):List dj:=iA a.2.2.1
attribute [push_cast] nF uB yL
def Ts(s:Sl)(m:MH)(h:PH)(K:dk):Prop:=
  CY (eY s) h 8000001 (λl j u k=>CC l k->∃(I:Nat×Sl×dn×PH->Prop)(f:Nat×Sl×dn×PH->Nat),(∃(x:Nat×Sl×dn×PH),aA (I x) (eL 31) (aA (bA j (nF x)) (cJ j (nF x)) (aA (aZ x.1) (pE x.2.2.1) (aA (m=m) (u=uB x) True))))/\∀(x:Nat×Sl×dn×PH),I x->aW (↑x.1:Int) (aF (nF x)) (aJ (λb o=>aI (aK (nF x).a b o) (0<=(↑x.1:Int)) ((↑x.1:Int)<aF (nF x)) (∃(y:Sl),aR m (uB x) b (bE o x.1 1) (aM y)/\dD (j7 (yL x)) 0 (EJ y (uB x) (λr=>fT (λg d=>dN (uB x) d (bT d g r) (iY (yL x) 24 (∃(c:Nat×Sl×dn×PH),aA (I c) (f c<f x) (aA (eL 31) (bA (nF x) (nF c)) (aA (cJ (nF x) (nF c)) (eR (bF ((↑x.1:Int)+1))=
 bL c.1) (aA (jS (yL x) g c.2.2.1) (m=m) (bR d (uB c)))))))))) (oT (kY (j7 (yL x))) (yL x) (λe=>jZ (yL x) (kY (j7 (yL x))) e/\∃(n:Sl),List.take 1 (List.drop 0 e)=aM n/\sF n y (uB x) (λa z=>cK (dQ a z) 0 (EJ y (uB x) (λr=>fT (λg d=>dN (uB x) d (bT d g r) (iY (yL x) 24 (∃(c:Nat×Sl×dn×PH),aA (I c) (f c<f x) (aA (eL 31) (bA (nF x) (nF c)) (aA (cJ (nF x) (nF c)) (eR (bF ((↑x.1:Int)+1))=bL c.1) (aA (jS (yL x) g c.2.2.1) (m=m) (bR d (uB c)))))))))) (∃(c:Nat×Sl×dn×PH),aA (I c) (f c<f x) (aA (eL 31) (bA (nF x) (nF c)) (aA (cJ (nF x) (nF c)) (eR (bF ((↑x.1:Int)+1))=bL c.1)
 (aA (rY x.2.2.1 c.2.2.1) (m=m) (bR (uB x) (uB c)))))))))))) (nD (uB x) (yL x) K m))
theorem cE.low{s d:Sl}(r:cE h s sz xs)(c:zC sz ⟨s.a,s.len,s.cap⟩ i d)(x:i<=xs.length):cE h d sz (xs.drop i):=by
 have f:=r.len;have y:=r.cap;refine⟨by rw[c.len,length_drop, <-f],?_,by rw[c.len,c.cap];grind⟩;rcases r.row with e|⟨b,o,g,k⟩
 .grind
 .by_cases n:s.cap=i
  .grind
  .right;refine⟨b,o+i*sz,by rw[c.a_,if_neg n,g];by_cases u:i*sz=0<;>simp[Addr.add,u],λj e z=>?_⟩
   grind
theorem OX{s:Sl}{l:dm}(x:Rows h s l):s.len<=s.cap:=by
 obtain⟨⟨d,c,_⟩,_⟩:=x;exact c.cap
theorem RM{s:Sl}{l:dm}(x:Rows h s l){n:Nat}(g:n<=l.length):Rows h ⟨s.a,n,s.cap⟩ (l.take n):=by
 obtain⟨⟨c,d,f,j⟩,o⟩:=x;refine⟨⟨c.take n,by rw[map_take];exact cE.cut d n cg,by simp[f],λi y e=>?_⟩,ce⟩
 grind
theorem Hb{s c:Sl}{l:dm}(x:Rows h s l){n:Nat}(d:zC 1 ⟨s.a,s.len,s.cap⟩ n c)(o:n<=l.length):Rows h c (l.drop n):=by
 obtain⟨⟨f,g,j,u⟩,z⟩:=x;refine⟨⟨f.drop n,by rw[map_drop];exact cE.low g d cg,by simp[j],λi y e=>?_⟩,ce⟩
 grind
structure DU(l o a b:dm):Prop where
 mem:∀x,(x∈o\/x∈a\/x∈b)↔x∈l
 len:o.length+a.length+b.length=l.length
 so:o.Pairwise λx y=>dQ x y<=0
 sa:a.Pairwise λx y=>dQ x y<=0
 sb:b.Pairwise λx y=>dQ x y<=0
 oa:∀x∈o,∀y∈a,dQ x y<=0
 ob:∀x∈o,∀y∈b,dQ x y<=0
theorem DU.swap{l o a b:dm}(m:DU l o a b):DU l o b a:=⟨λx=>by rw[or_comm (a:=x∈b)];exact m.mem x,by have:=m.len;omega,m.so,m.sb,m.sa,m.ob,m.oa⟩
theorem DU.left{l o a b:dm}{x y:dp}(m:DU l o (x::a) b)(g:b=[]\/∃f,b=y::f/\dQ x y<=0):DU l (o++[x]) a b:=by
 have j:=pairwise_cons.1 m.sa;refine⟨λz=>?_,by have:=m.len;grind,?_,j.2,m.sb,λz c w d=>?_,λz c w d=>?_⟩
 .rw[<-m.mem z,mem_append,mem_singleton,mem_cons,or_assoc,or_assoc]
 .rw[pairwise_append];exact⟨m.so,bx,λz c w d=>by rw[mem_singleton.1 d];exact m.oa z c x bx⟩
 .rcases mem_append.1 c with c|c
  .exact m.oa z c w (by simp[d])
  grind
 .rcases mem_append.1 c with c|c
  .exact m.ob z c w d
  .rw[mem_singleton.1 c];rcases g with e|⟨f,e,h⟩
   .grind
   .subst e;have n:=pairwise_cons.1 m.sb;rcases mem_cons.1 d with rfl|d
    .exact h
    .exact Ac _ _ _ h (n.1 w d)
theorem DU.done{l o a b:dm}(m:DU l o a b)(h:a=[]\/b=[]):CC l (o++a++b):=by
 refine⟨λx=>?_,by have:=m.len;simp;omega,?_⟩
 .rw[<-m.mem x];grind
 .rcases h with rfl|rfl
  .rw[append_nil,pairwise_append];exact⟨m.so,m.sb,m.ob⟩
  .rw[append_nil,pairwise_append];exact⟨m.so,m.sa,m.oa⟩
theorem W4:∀N,di 200 (U2 N)
 |0=>by
  refine eA (fn:=Tryz.f200) (c:=cM Tryz.f200) func200 rfl bz ?_;rintro a' m h K ⟨s,l,rfl,_,hN,_⟩;omega
 |N+1=>by
  refine fU func200 ?_;rintro a' m h K ⟨s,l,rfl,Q,hN,hl,hK⟩;refine⟨bpZ N s m,rfl,aE Aa (aE (W4 N) aG),SM N s m h K,bu,?_⟩;dsimp only[SM,push_cast];have T:=bI.slen Q;have a1:=OX Q;refine aD (λh2=>?_) (λh2=>?_)
  .obtain⟨E,hr,h3,h4⟩:=Q.1;have a0:=Q.2;refine⟨E.map eS,vE E,hr,cg,cg,λY h' le J=>hK Y h' l le ⟨⟨E,J,h3,λi x e=>?_⟩,a0⟩ ⟨λx=>Iff.rfl,rfl,?_⟩⟩
   .obtain⟨u,e1,e2⟩:=h4 i x e;exact⟨u,e1,bT.mono e2 le⟩
   .match l,T with
    |[],_=>simp
    |[x],_=>simp
    |x::y::r,T=>grind
  .obtain⟨n,hn⟩:∃n,n=l.length/2:=⟨_,rfl⟩
   have hw:IntKind.i64.wrap ((s.len:Int).tdiv 2)=((n:Nat):Int):=by
    rw[Int.tdiv_eq_ediv_of_nonneg aC,T];have:((l.length:Int)/2)=((n:Nat):Int):=by omega
    rw[this];exact dL aC aC
   rw[hw];have R:∀{U},PH.le h U->Rows U s l:=fun{U} le=>bI.mono Q le λr t Z=>bT.mono Z le;refine⟨λz=>∃f g,PH.le h z.2.2/\Rows z.2.2 z.1 f/\Rows z.2.2 z.2.1 g/\CC (l.take n) f/\CC (l.drop n) g,?_,?_⟩
   .repeat' first
     |refine And.intro ?_ ?_
     |exact fun(e:(2:Int)=0)=>absurd e bz
     |omega
     |refine fun(d:Sl)(j:zC 1 _ _ d)=>?_
     |refine⟨⟨s.a,n,s.cap⟩,l.take n,rfl,(by first|exact RM Q aC|exact RM (R l2) aC),by rw[length_take];omega,by rw[length_take];omega,λV ha f l1 C pa=>?_⟩
     |refine⟨d,l.drop n,rfl,(by first|exact Hb Q j aC|exact Hb (R l1) j aC),by rw[length_drop];omega,by rw[length_drop];omega,λW hb g l2 D pb=>?_⟩
     |exact⟨(V,W,hb),⟨f,g,l1.trans l2,bI.mono C l2 λr t Z=>bT.mono Z l2,D,pa,pb⟩,MT⟩
     |exact⟨(V,W,ha),⟨f,g,l2.trans l1,C,bI.mono D l1 λr t Z=>bT.mono Z l1,pa,pb⟩,MT⟩
     |fail
   .rintro⟨a,b,U⟩ ⟨f,g,lex,C,D,V,W⟩;dsimp only at lex C D⊢
    have start:DU l [] f g:=⟨λx=>by rw[V.mem,W.mem];simp only[not_mem_nil,false_or];rw[<-mem_append,take_append_drop],by have h1:=V.len;have h2:=W.len;grind,bx,V.srt,W.srt,bx,bx⟩
    refine⟨aC,aC,aC,aC,λz=>∃o f g,PH.le U z.2.2.2/\Rows z.2.2.2 z.1 f/\Rows z.2.2.2 z.2.1 g/\eD z.2.2.2 z.2.2.1 o/\DU l o f g,λz=>z.1.len+z.2.1.len,⟨(a,b,[],U),⟨[],f,g,.refl _,C,D,eD.nil U,start⟩,MT⟩,?_⟩;clear start V W C D f g;rintro⟨a,b,E,F⟩ ⟨o,f,g,L,C,D,ru,M⟩;dsimp only at L C D ru⊢
    have a2:=bI.slen C;have a3:=bI.slen D;have a4:=OX C;have a5:=OX D;have a6:=ru.len;have a7:=M.len
    have fin:f=[]\/g=[]->∃X,cZ 1 X/\cE F ⟨a.a,a.len,a.cap⟩ 1 X/\((E.map eS).length+X.length)*24<=140737488355328/\(E.map eS).length+X.length<=140737488355328/\∃G,cZ 1 G/\cE F ⟨b.a,b.len,b.cap⟩ 1 G/\((E.map eS++X).length+G.length)*24<=140737488355328/\(E.map eS++X).length+G.length<=140737488355328/\∀Y h',PH.le F h'->cE h' Y 1 (E.map eS++X++G)->K (cS Y) m h':=λhe=>by
     obtain⟨⟨ua,q1,q2,q3⟩,q4⟩:=C;obtain⟨⟨ub,p1,p2,p3⟩,p4⟩:=D;refine⟨ua.map eS,vE ua,q1,ce,ce,ub.map eS,vE ub,p1,ce,ce,λY h' le J=>?_⟩;rw[<-cv, <-cv]at J;have A:eD F ua f:=⟨q2.symm,q3⟩
     have B:eD F ub g:=⟨p2.symm,p3⟩
     have S:=M.done he;exact hK Y h' _ (lex.trans (L.trans le)) ((((ru.app A).app B).mono le).rows J cg) S
    refine aD (λh1=>aD (λh2=>?_) (λh2=>?_)) (λh1=>?_)
    .obtain⟨x,O,rfl⟩:∃x r,f=x::r:=by
      cases f with
      |nil=>grind
      |cons x r=>grind
     obtain⟨y,P,rfl⟩:∃x r,g=x::r:=by
      cases g with
      |nil=>grind
      |cons x r=>grind
     obtain⟨b1,o1,ux,e1,H,v1⟩:=bI.at C (i:=0) rfl;obtain⟨b2,o2,uy,e2,I,v2⟩:=bI.at D (i:=0) rfl;have H:bZ F b1 (o1+0) [iI ux]:=by simpa[eS]using H
     have I:bZ F b2 (o2+0) [iI uy]:=by simpa[eS]using I
     have big:((E.map eS).length+1)*24<=140737488355328/\(E.map eS).length<140737488355328:=by
      grind
     refine⟨b1,o1,e1,aC,aC,ux,.imm H,b2,o2,e2,aC,aC,uy,.imm I,ux,uy,x,y,rfl,v1,v2,aD (λh3=>⟨b1,o1,e1,aC,aC,ux,.imm H,?_⟩) (λh3=>⟨b2,o2,e2,aC,aC,uy,.imm I,?_⟩)⟩
     .have nx:∀d,zC 1 ⟨a.a,a.len,a.cap⟩ 1 d->Rows F d O/\d.len+b.len<a.len+b.len:=λd j=>⟨Hb C j bx,by have:=j.len;grind⟩
      have M2:=M.left (.inr ⟨P,rfl,h3⟩)
      repeat' first
       |refine And.intro ?_ ?_
       |exact big.1
       |exact big.2
       |exact H
       |omega
       |refine fun(d:Sl)(j:zC 1 _ _ d)=>?_
       |exact⟨(d,b,E++[ux],F),⟨o++[x],O,y::P,L,(nx d j).1,D,ru.snoc v1,M2⟩,(nx d j).2,by rw[cv];exact MT⟩
       |fail
     .have nx:∀d,zC 1 ⟨b.a,b.len,b.cap⟩ 1 d->Rows F d P/\a.len+d.len<a.len+b.len:=λd j=>⟨Hb D j bx,by have:=j.len;grind⟩
      have M2:=(M.swap.left (.inr ⟨O,rfl,by have:=lQ x y;omega⟩)).swap
      repeat' first
       |refine And.intro ?_ ?_
       |exact big.1
       |exact big.2
       |exact I
       |omega
       |refine fun(d:Sl)(j:zC 1 _ _ d)=>?_
       |exact⟨(a,d,E++[uy],F),⟨o++[y],x::O,P,L,C,(nx d j).1,ru.snoc v2,M2⟩,(nx d j).2,by rw[cv];exact MT⟩
       |fail
    .exact fin (.inr (eq_nil_of_length_eq_zero aC))
    .exact fin (.inl (eq_nil_of_length_eq_zero aC))
structure cHQ(k o:dm)(i:Nat):Prop where
 mem:∀x,x∈o↔x∈k.take i
 srt:jU o
 len:o.length<=i
theorem Jg:di 132 ayQ:=by
 refine fU func132 ?_;rintro a3 m h K ⟨s,l,rfl,hs,hl,hr,hK⟩;refine⟨byZ m,rfl,aE Aa (aE ae (aE (W4 8000001) aG)),Ts s m h K,bu,?_⟩;dsimp only[Ts,push_cast];refine⟨s,l,rfl,hs,aC,hl,λt A k M rk S=>?_⟩;have O:=bI.slen rk;have a4:=S.len;refine⟨λz=>z.1<=k.length/\z.2.1=t/\PH.le A z.2.2.2/\∃o,eD z.2.2.2 z.2.2.1 o/\cHQ k o z.1,λz=>k.length-z.1,⟨(0,t,[],A),⟨bx,rfl,.refl _,[],eD.nil A,⟨bx,List.Pairwise.nil,bx⟩⟩,MT⟩,?_⟩;rintro⟨i,P,F,hx⟩ ⟨hi,e,lex,o,G,D⟩;dsimp only at hi e lex G D⊢
 subst e;have a5:=G.len;have a6:=D.len;refine aD (λQ=>?_) (λa7=>?_)
 .obtain⟨x,c⟩:=dO O Q;obtain⟨b,off,u,ea,rd,H⟩:=bI.at rk c;have H:=bT.mono H lex;have I:x.length<=1000:=hr x ((S.mem x).1 (cr c));have B:=(cn c);have tk:k.take (i+1)=k.take i++[x]:=by rw[db,c];rfl
  have d:∀y∈k.take i,dQ y x<=0:=λy R=>by
   have hp:=S.srt;rw[<-take_append_drop i k,pairwise_append]at hp;refine hp.2.2 y R x ?_;obtain⟨T,e⟩:=List.getElem?_eq_some_iff.1 c;rw[drop_eq_getElem_cons T,e];simp
  have J:x∉o->∀g h',PH.le hx h'->bT h' g x->((F.map eS).length+1)*24<=140737488355328/\(F.map eS).length<140737488355328/\∃z:Nat×Sl×dn×PH,(z.1<=k.length/\z.2.1=P/\PH.le A z.2.2.2/\∃o,eD z.2.2.2 z.2.2.1 o/\cHQ k o z.1)/\k.length-z.1<k.length-i/\z=(i+1,P,F++[g],h'):=λL g h' le f=>by
   refine⟨cg,cg,_,⟨aC,rfl,lex.trans le,o++[x],(G.mono le).snoc f,⟨λy=>?_,?_,ce⟩⟩,aC,rfl⟩
   .rw[tk,mem_append,mem_append,D.mem y]
   .refine pairwise_append.2 ⟨D.srt,bx,λy R z hz=>?_⟩;rw[mem_singleton.1 hz];have A:=d y ((D.mem y).1 R);rcases Int.lt_or_eq_of_le A with h|h
    .exact h
    .rw[iH]at h
     grind
  have hw:IntKind.i64.wrap ((i:Int)+1)=((i+1:Nat):Int):=fD aC;rw[hw];have a8:i<k.length:=B;refine⟨b,off,ea,aC,aC,u,.imm (rd.mono lex),aB (λC=>⟨u,x,rfl,H,I,λg h' le f=>?_⟩) (λC=>?_)⟩
  .have C:=eq_of_beq C;rw[length_map]at C;have:o=[]:=eq_nil_of_length_eq_zero aC;obtain⟨U,V,z,W,X,rfl⟩:=J cg g h' le f;exact⟨U,V,_,W,X,by rw[cv];exact MT⟩
  .have C:=ne_of_beq_false C;rw[length_map]at C;have a2:0<o.length:=by omega
   have Y:IntKind.i64.wrap (((F.map eS).length:Int)-1)=((o.length-1:Nat):Int):=by
    rw[length_map,show((F.length:Int)-1)=((o.length-1:Nat):Int)by omega];exact dL aC aC
   rw[Y];have E:o[o.length-1]? =some (o[o.length-1]'(by omega)):=cq _;obtain⟨Z,a9,a'⟩:=G.at E;refine⟨aC,cg,eS Z,cg,Z,rfl,Z,u,_,x,rfl,a',H,aB (λe1=>⟨u,x,rfl,H,I,λg h' le f=>?_⟩) (λe1=>?_)⟩
   .have L:x∉o:=λhm=>by
     have A:=d _ ((D.mem _).1 (getElem_mem (l:=o) (n:=o.length-1) aC));obtain⟨j,T,e⟩:=mem_iff_getElem.1 hm;by_cases a0:j=o.length-1
     .subst a0;rw[e,iH.2 rfl]at e1;simp at e1
     .have h2:=pairwise_iff_getElem.1 D.srt j (o.length-1) T aC aC;rw[e]at h2;have:=lQ x (o[o.length-1]'(by omega));omega
    obtain⟨U,V,z,W,X,rfl⟩:=J L g h' le f;exact⟨U,V,_,W,X,by rw[cv];exact MT⟩
   .have hz:o[o.length-1]'(by omega)=x:=by
     have:dQ (o[o.length-1]'(by omega)) x=0:=cg
     exact iH.1 this
    refine⟨(i+1,P,F,hx),⟨aC,rfl,lex,o,G,⟨λy=>?_,D.srt,aC⟩⟩,aC,MT⟩;rw[tk,mem_append,mem_singleton, <-D.mem y]
    grind
 .intro g h' le a1;have B:i=k.length:=by omega
  subst B;have e:o=Bb l:=IQ D.srt (CM l) λx=>by rw[D.mem x,take_length,S.mem x,Gm]
  exact hK g h' (M.trans (lex.trans le)) (by rw[<-e];exact(G.mono le).rows a1 aC)
theorem cAZ(h:PH):Ints h cG []:=⟨cE.nil _ _,bx⟩
variable{cN:Nat}
variable{cN:Nat}
variable{cN:Nat}
variable{cN:Nat}
noncomputable def wC(s:lL)(ts:dv)(rs:dl)(st:List dm):Int:=if eE s ts rs≠0 then eE s ts rs else jP s st
theorem aHQ{P:Program}{f:FuncId}{S S':Vc.Spec}(x:Sound P f S)(d:∀c m h K,S' c m h K->S c m h K):Sound P f S':=⟨x.1,λc e m h w K g=>x.2 c e m h w K (d _ _ _ _ g)⟩
def cFJ:Vc.Spec:=λc m h K=>∃s t l r,c=[cS s,cS t]/\Rows h s l/\bT h t r/\jU l/\K (cB (Lu l r)) m h
def bPJ:Vc.Spec:=λc m h K=>∃s t i l k,c=[cS s,cS t,cB i]/\Rows h s l/\Rows h t k/\jU k/\l.length<=8000000/\∀d h',PH.le h h'->Rows h' d (l.filter λx=>Lu k x==i)->K (cS d) m h'
noncomputable def bnX(s t:Sl)(m:MH)(h:PH):Ctx:=
 cT [(65,DF)] [(2,{A:=Nat×Nat,st:=λ⟨c,d⟩=>bO 42 44 [(0,sv s),(1,sv t),(5,iv c),(6,iv d)] [] m h})] [] [] false
noncomputable def boX(s t:Sl)(i:Bool)(m:MH)(h:PH):Ctx:=
 cT [(209,cFJ)] [(3,{A:=Nat×dn,st:=λ⟨j,c⟩=>bO 27 30 [(1,sv t),(2,bv i),(7,.at (.lst 24)),(10,sv s),(11,iv s.len),(12,iv j)] [(24,.lst 94 1 (c.map eS))] m h})] [] [] false
noncomputable abbrev Hi(a:Nat×Nat):Int:=bF ((↑a.1:Int)+bF (Int.tdiv (bF ((↑a.2:Int)-(↑a.1:Int))) 2))
attribute [push_cast] Hi
def SE(s t:Sl)(m:MH)(h:PH)(K:dk):Prop:=
  HN (λI x=>aA (I x) (aH s) (aA (aH t) (aZ x.1) (bS (bL s.len=bL x.2) m m h h))) (λI d x=>I x->aW (↑x.1:Int) (↑x.2:Int) (uW ((2:Int)=0)/\aJ (λb o=>aI (aK s.a b o) (0<=Hi x) (Hi x<aF s) (∃(y:Sl),aR m h b (cC o (Hi x) 1) (aM y)/\sF y t h (λa e=>aW (dQ a e) 0 (∃(c:Nat×Nat),aA (I c) (d c<d x) (aA (aH s) (aH t) (aA (SV.at (At.val (fE (bF (Hi x+1))))=bL c.1) (bV x.2 c.2) (aA (m=m) (h=h) True)))) (∃(c:Nat×Nat),aA (I c) (d c<d x) (aA (aH s) (aH t) (aA (bV x.1 c.1) (SV.at (At.val (fE (Hi x)))=bL c.2) (aA (m=m) (h=h) True)))))))) (aW (↑x.1:Int) (aF s) (aJ (λb o=>aI (aK s.a b o) (0<=(↑x.1:Int)) ((↑x.1:Int)<aF s) (∃(y:Sl),aR m h b (bE o
 x.1 1) (aM y)/\sF y t h (λa e=>K (vD (dQ a e==0)) m h)))) (K aX m h)))
abbrev Ff(a:Nat)(b:Nat×dn):Prop:=eR (bF ((↑a:Int)+1))=bL b.1
attribute [push_cast] Ff
def SH(s t:Sl)(i:Bool)(m:MH)(h:PH)(K:dk):Prop:=
  Fg (λI x=>aA (I x) (aH t) (aA (eQ (sQb i)) (eL 24) (aA (aH s) (aY s) (aA (aZ x.1) (pE x.2) (bG m m h h))))) (λI d x=>I x->aW (↑x.1:Int) (aF s) (aJ (λb o=>aI (aK s.a b o) (0<=(↑x.1:Int)) ((↑x.1:Int)<aF s) (∃(y:Sl),aR m h b (bE o x.1 1) (aM y)/\LP (λe f l r=>aA (dK t y=dK e f) (Rows h e l) (aA (bT h f r) (jU l) (branch (Lu l r==i) (Hz x (λc=>aA (I c) (d c<d x) (aA (aH t) (eQ (sQb i)) (aA (eL 24) (aH s) (aA (aY s) (Ff x.1 c) (bS (jS (uV x) y c.2) m m h h)))))) (∃(c:Nat×dn),aA (I c) (d c<d x) (aA (aH t) (eQ (sQb i)) (aA (eL 24) (aH s) (aA (aY s) (Ff x.1 c) (bS (AP x c) m m h h))))))))))) (nD h (uV x) K m))
theorem Zi:di 209 cFJ:=by
 refine fU func209 ?_;rintro T m h K ⟨s,t,l,r,rfl,C,O,U,E⟩;refine⟨bnX s t m h,rfl,aE Aa aG,SE s t m h K,bu,?_⟩;dsimp only[SE,push_cast];have V:=bI.slen C;have W:=C.len;refine⟨λx=>x.1<=x.2/\x.2<=l.length/\(∀(j:Nat) y,j<x.1->l[j]? =some y->dQ y r<0)/\(∀(j:Nat) y,x.2<=j->l[j]? =some y->0<=dQ y r),λx=>x.2-x.1,⟨(0,l.length),⟨bx,bx,λj y g=>by simp at g,λj y g n=>cg⟩,cg⟩,?_⟩;rintro⟨c,d⟩ ⟨X,P,Q,R⟩;dsimp only at X P Q R⊢
 have S:∀{i j:Nat}{x y},l[i]? =some x->l[j]? =some y->i<j->dQ x y<0:=fun{i j x y} Y n F=>by
  obtain⟨G,rfl⟩:=List.getElem?_eq_some_iff.1 Y;obtain⟨H,rfl⟩:=List.getElem?_eq_some_iff.1 n;exact pairwise_iff_getElem.1 U i j G H F
 refine aD (λZ=>?_) (λa'=>?_)
 .have e1:IntKind.i64.wrap ((d:Int)-(c:Int))=((d-c:Nat):Int):=by
   rw[show(d:Int)-(c:Int)=((d-c:Nat):Int)by omega];exact dL aC aC
  have A:(((d-c:Nat):Int)).tdiv 2=(((d-c)/2:Nat):Int):=by
   grind
  have e3:IntKind.i64.wrap ((((d-c)/2:Nat):Int))=(((d-c)/2:Nat):Int):=dL aC aC
  have e4:IntKind.i64.wrap ((c:Int)+(((d-c)/2:Nat):Int))=((c+(d-c)/2:Nat):Int):=by
   rw[show(c:Int)+(((d-c)/2:Nat):Int)=((c+(d-c)/2:Nat):Int)by omega];exact dL aC aC
  rw[e1,A,e3,e4];generalize D:c+(d-c)/2=k;have I:c<=k:=by omega
  have a0:k<d:=by omega
  rw[fD aC];have f:k<l.length:=by omega
  obtain⟨b,o,u,J,rd,L⟩:=bI.at C (cq f);refine⟨bz,b,o,J,aC,aC,u,.imm rd,u,t,l[k],r,rfl,L,O,aD (λz=>?_) (λz=>?_)⟩
  .refine⟨(k+1,d),⟨aC,P,λj y g n=>?_,R⟩,aC,MT⟩;by_cases M:j=k
   .grind
   .exact FO (S n (cq f) aC) z
  .refine⟨(c,k),⟨I,aC,Q,λj y g n=>?_⟩,aC,MT⟩;by_cases M:j=k
   .grind
   .have h6:=S (cq f) n aC;refine Int.not_lt.1 λh7=>?_;exact z (FO h6 h7)
 .have e:c=d:=by omega
  subst e;refine aD (λz=>?_) (λz=>?_)
  .have B:c<l.length:=by omega
   obtain⟨b,o,u,J,rd,L⟩:=bI.at C (cq B);refine⟨b,o,J,aC,z,u,.imm rd,u,t,l[c],r,rfl,L,O,?_⟩
   have A:(dQ l[c] r==0)=Lu l r:=by
    rw[Bool.eq_iff_iff,beq_iff_eq,Ox,iH];refine⟨λe=>e▸getElem_mem B,λD=>?_⟩;obtain⟨j,g⟩:=getElem?_of_mem D;have hz:dQ r r=0:=iH.2 rfl
    grind
   rw[A];exact E
  .have A:Lu l r=false:=by
    rw[bUJ];intro D;obtain⟨j,g⟩:=getElem?_of_mem D;have hz:dQ r r=0:=iH.2 rfl
    grind
   rw[A]at E;exact E
theorem Zm:di 205 bPJ:=by
 refine fU func205 ?_;rintro E m h K ⟨s,t,i,l,k,rfl,A,F,G,M,H⟩;refine⟨boX s t i m h,rfl,aE Zi aG,SH s t i m h K,bu,?_⟩;dsimp only[SH,push_cast];have f:=bI.slen A;refine⟨λx=>x.1<=l.length/\x.2.length<=x.1/\eD h x.2 ((l.take x.1).filter λx=>Lu k x==i),λx=>l.length-x.1,⟨(0,[]),⟨bx,bx,cm (eD.nil h)⟩,MT⟩,?_⟩;rintro⟨j,B⟩ ⟨I,g,d⟩;dsimp only at I g d⊢
 refine aD (λc=>?_) (λJ=>?_)
 .obtain⟨r,C⟩:=dO f c;obtain⟨b,o,u,e,rd,D⟩:=bI.at A C;have n:=wU (λx=>Lu k x==i) C;rw[fD aC];refine⟨b,o,e,aC,c,u,.imm rd,t,u,k,r,rfl,F,D,G,aB (λy=>?_) (λy=>?_)⟩
  .rw[if_pos y]at n;exact⟨cg,cg,(j+1,B++[u]),⟨aC,ce,by rw[n];exact d.snoc D⟩,aC,by rw[cv];exact MT⟩
  .rw[if_neg (by rw[y];simp),append_nil]at n;exact⟨(j+1,B),⟨aC,cg,cg⟩,aC,MT⟩
 .rw[cu aC]at d
  exactλL h' le z=>H L h' le ((d.mono le).rows z cg)
variable{cN:Nat}
variable{cN:Nat}
section
variable{ta:Int}{w:Pred}{co:dl}{on:dq}{gr:dl}{od:dr}{li:Int}{zs:ds}{A B:Rel}{x:dp}
end
variable{cN:Nat}
variable{cN:Nat}
variable{cN:Nat}
variable{cN:Nat}
def aEJ:Vc.Spec:=λd m h K=>∃s t r c,d=[cS s,cS t]/\bT h s r/\Ints h t c/\fS r.length c/\∀e h',PH.le h h'->bT h' e (pick r c)->K (cS e) m h'
def Vh:Vc.Spec:=λd m h K=>∃o s t on a b c,d=[cS o,cS s,cS t,cB c]/\jA h o on/\bT h s a/\bT h t b/\fS a.length (gH on)/\fS b.length (fV on)/\K (cB (agree on a b&&(!c||kE (gH on) a))) m h
def XV:Vc.Spec:=λc m h K=>∃g s t gr a b,c=[cS g,cS s,cS t]/\Ints h g gr/\bT h s a/\bT h t b/\fS a.length gr/\fS b.length gr/\K (cB (rG gr a b)) m h
def bHJ:Vc.Spec:=λc m h K=>∃o s t on a b,c=[cS o,cS s,cS t]/\jA h o on/\Rows h s a/\Rows h t b/\(∀x∈a,fS x.length (gH on))/\(∀y∈b,fS y.length (fV on))/\a.length<=8000000/\b.length<=8000000/\∀d h',PH.le h h'->Rows h' d (a.filter λx=>b.any λy=>agree on x y)->K (cS d) m h'
def XP:Vc.Spec:=λc m h K=>∃v s t gr od a b,c=[aQ v,cS s,cS t]/\Ints h v.group gr/\iV h v.order od/\Rows h s a/\Rows h t b/\(∀x∈a,fS x.length gr)/\(∀y∈b,fS y.length gr)/\a.length<=8000000/\b.length<=8000000/\∀d h',PH.le h h'->Rows h' d (z8 gr od v.limit a b)->K (cS d) m h'
def TU:Vc.Spec:=λd m h K=>∃s t l c,d=[cS s,cS t]/\Rows h s l/\Ints h t c/\(∀r∈l,fS r.length c)/\c.length<=1000/\l.length<=8000000/\∀e h',PH.le h h'->Rows h' e (Bb (l.map λr=>pick r c))->K (cS e) m h'
noncomputable def bnQ(s t:Sl)(m:MH)(h:PH):Ctx:=cT [] [(3,{A:=Nat×dp,st:=λ⟨i,r⟩=>bO 24 26 [(0,sv s),(5,.at (.lst 8)),(9,sv t),(10,iv t.len),(11,iv i)] [(8,.lst 27 3 (r.map VV.enc))] m h})] [] [] false
noncomputable def boJ(o s t:Sl)(b:Bool)(m:MH)(h:PH):Ctx:=cT [(259,NA)] [(2,{A:=Nat,st:=λi=>bO 41 45 [(1,sv s),(2,sv t),(3,bv b),(11,sv o),(12,iv o.len),(13,iv i)] [] m h})] [] [] false
noncomputable def blQ(g s t:Sl)(m:MH)(h:PH):Ctx:=
 cT [] [(2,{A:=Nat,st:=λi=>bO 25 28 [(1,sv s),(2,sv t),(9,sv g),(10,iv g.len),(11,iv i)] [] m h})] [] [] false
noncomputable def bkJ(o s t:Sl)(m:MH)(h:PH):Ctx:=
 cT [(109,NB),(65,DF)] [(2,{A:=Nat,st:=λi=>bO 55 58 [(1,sv s),(2,sv t),(10,sv o),(11,iv o.len),(12,iv i)] [] m h})] [] [] false
noncomputable def boZ(o s t:Sl)(m:MH)(h:PH):Ctx:=cT [(203,Vh)] [(3,{A:=Nat×dn,st:=λ⟨i,c⟩=>bO 35 38 [(0,sv o),(2,sv t),(7,.at (.lst 31)),(12,sv s),(13,iv s.len),(14,iv i)] [(31,.lst 94 1 (c.map eS))] m h}),
 (6,{A:=Nat×Sl×Nat×dn,st:=λ⟨j,x,i,c⟩=>bO 35 38 [(0,sv o),(2,sv t),(7,.at (.lst 31)),(9,sv x),(12,sv s),(13,iv s.len),(14,iv i),(18,sv t),(19,iv t.len),(20,iv j)] [(31,.lst 94 1 (c.map eS))] m h})] [] [] false
noncomputable def boQ(v:QV)(s t:Sl)(m:MH)(h:PH):Ctx:=cT [(260,XV),(261,G4)] [(3,{A:=Nat×dn,st:=λ⟨i,c⟩=>bO 57 60 [(2,sv t),(3,.at (.ptr 3 0)),(7,.at (.lst 54)),(13,sv s),(14,iv s.len),(15,iv i)] [(3,.cells 38 (v.enc.map .val)),(54,.lst 94 1 (c.map eS))] m h}),
 (7,{A:=Nat×Nat×Sl×Nat×dn,st:=λ⟨j,n,x,i,c⟩=>bO 57 60 [(2,sv t),(3,.at (.ptr 3 0)),(7,.at (.lst 54)),(9,sv x),(10,iv n),(13,sv s),(14,iv s.len),(15,iv i),(19,sv t),(20,iv t.len),(21,iv j)] [(3,.cells 38 (v.enc.map .val)),(54,.lst 94 1 (c.map eS))] m h})] [] [] false
noncomputable def bpQ(s t:Sl)(m:MH):Ctx:=cT [(210,aEJ),(132,ayQ)] [(3,{A:=Nat×dn×PH,st:=λ⟨i,c,h⟩=>bO 23 25 [(1,sv t),(5,.at (.lst 19)),(8,sv s),(9,iv s.len),(10,iv i)] [(19,.lst 94 1 (c.map eS))] m h})] [] [] false
def SD(s t:Sl)(m:MH)(h:PH)(K:dk):Prop:=
  ∃(I:Nat×dp->Prop)(d:Nat×dp->Nat),(∃(x:Nat×dp),aA (I x) (aH s) (aA (eL 8) (aH t) (aA (aY t) (aZ x.1) (aA (u9 27 3 (kR x.2)) (m=m) (bR h h)))))/\∀(x:Nat×dp),I x->aW (↑x.1:Int) (aF t) (aJ (λb o=>aI (aK t.a b o) (0<=(↑x.1:Int)) ((↑x.1:Int)<aF t) (∃(y:Int),aR m h b (bE o x.1 1) (bQ y)/\aJ (λe f=>aI (aK s.a e f) (0<=y) (y<aF s) (∃(g:VV),nQ (aR m h e (cC f y 3) g.enc) (kR x.2) 32 (∃(c:Nat×dp),aA (I c) (d c<d x) (aA (aH s) (eL 8) (aA (aH t) (aY t) (aA (eR (bF ((↑x.1:Int)+1))=bL c.1) (bW 27 3 (eG (kR x.2) g.enc)=bW 27 3 (kR c.2)) (bG m m h h)))))))))) (bU h 3 (kR x.2) (λj n=>K (F9 j) m n))
def SJ(o s t:Sl)(b:Bool)(m:MH)(h:PH)(K:dk):Prop:=
  j6 (λI x=>aA (I x) (aH s) (aA (aH t) (eQ (sQb b)) (aA (aH o) (aY o) (aA (aZ x) (m=m) (bR h h))))) (λI u x=>I x->aW (↑x:Int) (aF o) (aJ (λz C=>aI (aK o.a z C) (0<=(↑x:Int)) ((↑x:Int)<aF o) (∃(y:Int×Int),aI (aR m h z (bE C x 2) (oD y)) ((0:Int)<=0) ((0:Int)<2) (aJ (λd e=>aI (aK s.a d e) (0<=y.1) (y.1<aF s) (∃(f:VV),aI (aR m h d (cC e y.1 3) f.enc) ((0:Int)<=1) ((1:Int)<2) (aJ (λg j=>aI (aK t.a g j) (0<=y.2) (y.2<aF t) (∃(n:VV),aR m h g (cC j y.2 3) n.enc/\∃(r:Bool),wE 27 f.enc n.enc r/\cO (!r) (aA (bZ h d (cC e y.1 3) f.enc) (bZ h g (cC j y.2 3) n.enc) (K aX m h)) b (aA (bY 0) ((0:Int)<2) (aJ (λD E=>aI (aK s.a D E) (0<=
 y.1) (y.1<aF s) (∃(F:VV),aI (aR m h D (cC E y.1 3) F.enc) (bZ h d (cC e y.1 3) f.enc) (bZ h g (cC j y.2 3) n.enc) (∃(v:VV),yG (mW F=mW v) (jH v) K m h (λc=>aA (I c) (u c<u x) (aA (aH s) (aH t) (aA (eQ (sQb b)) (aH o) (aA (aY o) (eR (bF ((↑x:Int)+1))=bL c) (bG m m h h)))))))))) (aA (bZ h d (cC e y.1 3) f.enc) (bZ h g (cC j y.2 3) n.enc) (∃(c:Nat),aA (I c) (u c<u x) (aA (aH s) (aH t) (aA (eQ (sQb b)) (aH o) (aA (aY o) (eR (bF ((↑x:Int)+1))=bL c) (bG m m h h))))))))))))))) (K dR m h))
def Sp(g s t:Sl)(m:MH)(h:PH)(K:dk):Prop:=
  j6 (λI x=>aA (I x) (aH s) (aA (aH t) (aH g) (aA (aY g) (aZ x) (aA (m=m) (h=h) True)))) (λI d x=>I x->aW (↑x:Int) (aF g) (aJ (λb o=>aI (aK g.a b o) (0<=(↑x:Int)) ((↑x:Int)<aF g) (∃(y:Int),aR m h b (bE o x 1) (bQ y)/\aJ (λe f=>aI (aK s.a e f) (0<=y) (y<aF s) (∃(j:VV),aR m h e (cC f y 3) j.enc/\aJ (λn u=>aI (aK t.a n u) (0<=y) (y<aF t) (∃(z:VV),aR m h n (cC u y 3) z.enc/\∃(r:Bool),yG (wE 27 j.enc z.enc r) r K m h (λc=>aA (I c) (d c<d x) (aA (aH s) (aH t) (aA (aH g) (aY g) (aA (eR (bF ((↑x:Int)+1))=bL c) (m=m) (bR h h)))))))))))) (K dR m h))
def Sn(o s t:Sl)(m:MH)(h:PH)(K:dk):Prop:=
  j6 (λI x=>aA (I x) (aH s) (aA (aH t) (aH o) (aA (aY o) (aZ x) (aA (m=m) (h=h) True)))) (λI c x=>I x->aW (↑x:Int) (aF o) (aJ (λb f=>aI (aK o.a b f) (0<=(↑x:Int)) ((↑x:Int)<aF o) (∃(y:Int×Bool),aR m h b (bE f x 2) (qX y)/\aW y.1 0 (Al I c x s t o m h) (cO (decide (y.1>=aF s)) (Al I c x s t o m h) (decide (y.1>=aF t)) (Al I c x s t o m h) (aJ (λg j=>aI (aK s.a g j) (0<=y.1) (y.1<aF s) (∃(n:VV),aR m h g (cC j y.1 3) n.enc/\aJ (λu z=>aI (aK t.a u z) (0<=y.1) (y.1<aF t) (∃(C:VV),aR m h u (cC z y.1 3) C.enc/\∃(a d:VV),xK n C=xK a d/\cO y.2 (cK (bF (0-jO a d)) 0 (K (fN (bF (0-jO a d))) m h) (∃(e:Nat),aA (I e) (c e<c x) (aA (aH
 s) (aH t) (aA (aH o) (aY o) (aA (eR (bF ((↑x:Int)+1))=bL e) (m=m) (bR h h)))))) (jO a d !=0) (K (fN (jO a d)) m h) (Al I c x s t o m h)))))))))) (sF s t h (λa b=>K (fN (dQ a b)) m h)))
noncomputable abbrev mX(a:Nat×Sl×Nat×dn):Nat×dn:=a.2.2
attribute [push_cast] mX
def SI(o s t:Sl)(m:MH)(h:PH)(K:dk):Prop:=
  Fg (λI x=>aA (I x) (aH o) (aA (aH t) (eL 31) (aA (aH s) (aY s) (aA (aZ x.1) (pE x.2) (bG m m h h))))) (λI f x=>I x->aW (↑x.1:Int) (aF s) (aJ (λb j=>aI (aK s.a b j) (0<=(↑x.1:Int)) ((↑x.1:Int)<aF s) (∃(y:Sl),aR m h b (bE j x.1 1) (aM y)/\∃(I1:Nat×Sl×Nat×dn->Prop)(n:Nat×Sl×Nat×dn->Nat),(∃(c:Nat×Sl×Nat×dn),aA (I1 c) (aH o) (aA (aH t) (eL 31) (aA (bA y c.2.1) (aH s) (aA (aY s) (bV x.1 (mX c).1) (aA (aH t) (aY t) (aA (aZ c.1) (AP x (mX c)) (bG m m h h)))))))/\∀(c:Nat×Sl×Nat×dn),I1 c->aW (↑c.1:Int) (aF t) (aJ (λu z=>aI (aK t.a u z) (0<=(↑c.1:Int)) ((↑c.1:Int)<aF t) (∃(C:Sl),aR m h u (bE z c.1 1) (aM C)/\
 gQ (λD E=>EN (λF e=>I9 (λa g=>∃(r:Bool),aA (cA o (cA c.2.1 (fP C aX))=cA D (cA E (fP F (vD r)))) (jA h D e) (aA (bT h E a) (bT h F g) (aA (mH a (gH e)) (mH g (fV e)) (branch (Bool.and (agree e a g) (Bool.or (!r) (kE (gH e) a))) (Hz (mX c) (λd=>aA (I d) (f d<f x) (aA (aH o) (aH t) (aA (eL 31) (aH s) (aA (aY s) (Ff (mX c).1 d) (bS (jS (uV (mX c)) c.2.1 d.2) m m h h)))))) (∃(d:Nat×Sl×Nat×dn),aA (I1 d) (n d<n c) (aA (aH o) (aH t) (aA (eL 31) (bA c.2.1 d.2.1) (aA (aH s) (aY s) (aA (bV (mX c).1 (mX d).1) (aH t) (aA (aY t) (eR (bF ((↑c.1:Int)+1))=bL d.1) (bS (AP (mX c) (mX d)) m m h h)))))))))))))))) (∃(d:
 Nat×dn),aA (I d) (f d<f x) (aA (aH o) (aH t) (aA (eL 31) (aH s) (aA (aY s) (Ff (mX c).1 d) (bS (AP (mX c) d) m m h h)))))))) (nD h (uV x) K m))
abbrev J9(a:Nat×Nat×Sl×Nat×dn->Prop)(b:Nat×Nat×Sl×Nat×dn->Nat)(c:Nat×Nat×Sl×Nat×dn)(d:Sl)(e:(Nat×Nat×Sl×Nat×dn)->Prop)(g:Sl)(i:(Nat×Nat×Sl×Nat×dn)->Prop):Prop:=∃(x:Nat×Nat×Sl×Nat×dn),aA (a x) (b x<b c) (aA (aH d) bJ (aA (eL 54) (bA c.2.2.1 x.2.2.1) (aA (e x) (aH g) (i x))))
abbrev Kv(a:Sl)(b c:Nat×Nat×Sl×Nat×dn)(d:Sl)(e:QV)(g:MH)(i:PH):Prop:=aA (aY a) (bV (mX b.2).1 (mX c.2).1) (aA (aH d) (aY d) (aA (eR (bF ((↑b.1:Int)+1))=bL c.1) (dJ e) (aA (AP (mX b.2) (mX c.2)) (g=g) (bR i i))))
attribute [push_cast] J9 Kv
def SG(v:QV)(s t:Sl)(m:MH)(h:PH)(K:dk):Prop:=
  Fg (λI x=>aA (I x) (aH t) (aA bJ (eL 54) (aA (aH s) (aY s) (aA (aZ x.1) (dJ v) (bS (pE x.2) m m h h))))) (λI e x=>I x->aW (↑x.1:Int) (aF s) (aJ (λb o=>aI (aK s.a b o) (0<=(↑x.1:Int)) ((↑x.1:Int)<aF s) (∃(y:Sl),aR m h b (bE o x.1 1) (aM y)/\∃(I1:Nat×Nat×Sl×Nat×dn->Prop)(f:Nat×Nat×Sl×Nat×dn->Nat),(∃(c:Nat×Nat×Sl×Nat×dn),aA (I1 c) (aH t) (aA bJ (eL 54) (aA (bA y c.2.2.1) (aZ c.2.1) (aA (aH s) (aY s) (aA (bV x.1 (mX c.2).1) (aH t) (aA (aY t) (aZ c.1) (aA (dJ v) (AP x (mX c.2)) (aA (m=m) (h=h) True))))))))/\∀(c:Nat×Nat×Sl×Nat×dn),I1 c->aW (↑c.1:Int) (aF t) (aJ (λz C=>aI (aK t.a z C) (0<=(↑c.1:Int)) ((↑c.1:
 Int)<aF t) (∃(n:Sl),aR m h z (bE C c.1 1) (aM n)/\aW (↑c.2.1:Int) v.limit (gQ (λg D=>DP (λE j=>I9 (λa u=>aA (cA v.group (dK c.2.2.1 n)=cA g (dK D E)) (Ints h g j) (aA (bT h D a) (bT h E u) (aA (mH a j) (mH u j) (branch (rG j a u) (gQ (λF G=>Py (λH J=>I9 (λL M=>aA (cA v.order (dK n c.2.2.1)=cA F (dK G H)) (iV h F J) (aA (bT h G L) (bT h H M) (aW (i6 J L M) 0 (J9 I1 f c t (λd=>eR (bF ((↑c.2.1:Int)+1))=bL d.2.1) s (λd=>Kv s c d t v m h)) (J9 I1 f c t (λd=>bV c.2.1 d.2.1) s (λd=>Kv s c d t v m h)))))))) (J9 I1 f c t (λd=>bV c.2.1 d.2.1) s (λd=>Kv s c d t v m h))))))))) (J9 I1 f c t (λd=>
 bV c.2.1 d.2.1) s (λd=>Kv s c d t v m h))))) (aW (↑c.2.1:Int) v.limit (Hz (mX c.2) (λd=>aA (I d) (e d<e x) (aA (aH t) bJ (aA (eL 54) (aH s) (aA (aY s) (Ff (mX c.2).1 d) (rZ (dJ v) (jS (uV (mX c.2)) c.2.2.1 d.2) m m h h)))))) (∃(d:Nat×dn),aA (I d) (e d<e x) (aA (aH t) bJ (aA (eL 54) (aH s) (aA (aY s) (Ff (mX c.2).1 d) (rZ (dJ v) (AP (mX c.2) d) m m h h))))))))) (nD h (uV x) K m))
abbrev Am(a:Sl)(b:PH)(c:dk)(d:MH):Prop:=Fq (λx e=>aA (eY a=eY x) (Rows b x e) (aA (mZ e) (∀(f:dp),List.Mem f e->Co f) (Fp b e c d)))
attribute [push_cast] Am
def SK(s t:Sl)(m:MH)(h:PH)(K:dk):Prop:=
  HP (λI x=>aA (I x) (aH t) (aA (eL 19) (aH s) (aA (aY s) (aZ x.1) (aA (pE x.2.1) (m=m) (bR h (gC x)))))) (λI g x=>I x->aW (↑x.1:Int) (aF s) (aJ (λb o=>aI (aK s.a b o) (0<=(↑x.1:Int)) ((↑x.1:Int)<aF s) (∃(y:Sl),aR m (gC x) b (bE o x.1 1) (aM y)/\CZ y t (gC x) (λr c=>mH r c) (λr c=>fT (λf d=>dN (gC x) d (bT d f (pick r c)) (iY (p8 x) 24 (∃(e:Nat×dn×PH),aA (I e) (g e<g x) (aA (aH t) (eL 19) (aA (aH s) (aY s) (aA (eR (bF ((↑x.1:Int)+1))=bL e.1) (jS (p8 x) f e.2.1) (bG m m d (gC e)))))))))))) (bU (gC x) 1 (p8 x) (λf d=>Am f d K m)))
theorem Yc{gr:dl}{a b:dp}{i:Nat}{c:Int}(d:gr[i]? =some c):rG (gr.take (i+1)) a b=true↔rG (gr.take i) a b=true/\a.getD c.toNat zeroV=b.getD c.toNat zeroV:=by
 rw[Ca,Ca,db,d,Option.toList_some];unfold pick;rw[cv,cv];constructor
 .intro h;obtain⟨e,f⟩:=append_inj h bx
  grind
 grind
theorem YO:di 260 XV:=by
 refine fU func260 ?_;rintro L m h K ⟨g,s,t,gr,a,b,rfl,o,G,H,M,O,n⟩;refine⟨blQ g s t m h,rfl,aG,Sp g s t m h K,bu,?_⟩;dsimp only[Sp,push_cast];have u:=o.slen;have P:=bI.slen G;have Q:=bI.slen H;refine⟨λi=>i<=gr.length/\rG (gr.take i) a b=true,λi=>gr.length-i,⟨0,⟨aC,by rw[Ca];rfl⟩,MT⟩,?_⟩;rintro i ⟨hi,f⟩;refine aD (λj=>?_) (λR=>?_)
 .obtain⟨c,d⟩:=dO u j;obtain⟨S,T,U,z⟩:=o.at' d;obtain⟨I,h2⟩:=M.at_ c (cr d);have h3:=(O.at_ c (cr d)).2;obtain⟨V,W,v,X,C,hv⟩:=bI.at G (i:=c.toNat) (cq aC);obtain⟨Y,Z,w,e3,D,hw⟩:=bI.at H (i:=c.toNat) (cq aC);have ev:a.getD c.toNat zeroV=v:=cg
  have ew:b.getD c.toNat zeroV=w:=cg
  have E:=Yc (a:=a) (b:=b) d;rw[ev,ew]at E;refine⟨S,T,U,aC,j,c,.imm z,V,W,X,I,aC,v,.imm C,Y,Z,e3,I,aC,w,.imm D,X2 v w,K4 v w,aB (λe=>?_) (λe=>?_)⟩
  .have a':¬v=w:=λe5=>by rw[FN.2 e5]at e;cases e
   have e6:rG gr a b=false:=by
    rw[Bool.eq_false_iff];intro F;rw[Ca]at F;have:=(Ca (gr:=gr.take (i+1)) (x:=a) (y:=b)).2 (by simp only[pick]at F⊢;rw[map_take,map_take,F])
    grind
   rw[e6]at n;exact n
  .have a0:v=w:=FN.1 (cm e);have J:=o.len;rw[fD aC]
   grind
 .rw[cu aC]at f;rw[f]at n;exact n
theorem YN:di 261 G4:=by
 refine fU func261 ?_;rintro Q m h K ⟨o,s,t,od,a,b,rfl,F,G,H,g⟩;refine⟨bkJ o s t m h,rfl,aE Jj (aE Aa aG),Sn o s t m h K,bu,?_⟩;dsimp only[Sn,push_cast];have I:=F.slen;have R:=F.len;have S:=bI.slen G;have T:=bI.slen H;refine⟨λi=>i<=od.length/\i6 od a b=i6 (od.drop i) a b,λi=>od.length-i,⟨0,⟨aC,bx⟩,MT⟩,λi⟨hi,j⟩=>aD (λn=>?_) (λU=>?_)⟩
 .obtain⟨⟨c,E⟩,L⟩:=dO I n;obtain⟨V,W,X,Y⟩:=F.row.get (i:=i) (e:=Ah (c,E)) (by simp[L]);rw[drop_cons L]at j
  have skip:¬(0<=c/\c<a.length/\c<b.length)->∃d:Nat,(λi=>i<=od.length/\i6 od a b=i6 (od.drop i) a b) d/\(λi=>od.length-i) d<(λi=>od.length-i) i/\eQ (Ye s)/\eQ (Ye t)/\eQ (Ye o)/\eQ (eR ↑o.len)/\eR (IntKind.i64.wrap ((i:Int)+1))=eR ↑d/\m=m/\h=h/\True:=λZ=>
   ⟨i+1,⟨aC,by rw[j,TM Z]⟩,(show od.length-(i+1)<od.length-i by omega),MT⟩
  refine⟨V,W,X,aC,n,(c,E),.imm Y,aD (λM=>skip (λe=>by omega)) (λM=>aD (λO=>skip (λe=>by omega)) (λO=>aD (λP=>skip (λe=>by omega)) (λP=>?_)))⟩;dsimp only at M O P⊢
  obtain⟨x,z⟩:∃x,a[c.toNat]? =some x:=⟨_,cq aC⟩
  obtain⟨y,C⟩:∃y,b[c.toNat]? =some y:=⟨_,cq aC⟩
  obtain⟨b2,o2,u,e2,r2,rfl⟩:=bI.at G z;obtain⟨b3,o3,u,e3,r3,rfl⟩:=bI.at H C;rw[avZ aC z C]at j;have a':=QB x y;have J:IntKind.i64.wrap (0-jO x y)= -jO x y:=by rw[dL aC aC,Int.zero_sub]
  refine⟨b2,o2,e2,aC,aC,x,.imm r2,b3,o3,e3,aC,aC,y,.imm r3,x,y,rfl,?_⟩;rw[J];refine aB (λf=>aB (λD=>?_) (λD=>?_)) (λf=>aB (λD=>?_) (λD=>?_))
  .have f:E=true:=f;have h6:jO x y≠0:=λe=>cg
   rw[j,if_pos h6,if_pos f]at g;exact g
  .have D:jO x y=0:=cg
   exact⟨i+1,⟨aC,aC⟩,(show od.length-(i+1)<od.length-i by omega),MT⟩
  .have f:E=false:=f;rw[j,if_pos cg,if_neg (by simp[f])]at g;exact g
  .have D:jO x y=0:=cg
   exact⟨i+1,⟨aC,aC⟩,(show od.length-(i+1)<od.length-i by omega),MT⟩
 .rw[j,drop_eq_nil_of_le aC,i6]at g;exact⟨s,t,a,b,rfl,G,H,g⟩
theorem Rw{s:Sl}{l:dp}(c:cE h s 3 (l.map VV.enc))(d:l.length<=502633886983):bT h s l:=⟨⟨l,c,rfl,λi x e=>⟨x,e,rfl⟩⟩,d⟩
theorem Zh:di 210 aEJ:=by
 refine fU func210 ?_;rintro F m h K ⟨s,t,r,d,rfl,C,D,E,G⟩;refine⟨bnQ s t m h,rfl,aG,SD s t m h K,bu,?_⟩;dsimp only[SD,push_cast];have j:=D.slen;have H:=bI.slen C;have I:=E.len;have n:∀k,(pick r (d.take k)).length<=d.length:=λk=>by simp[pick];omega
 refine⟨λz=>z.1<=d.length/\z.2=pick r (d.take z.1),λz=>d.length-z.1,⟨(0,[]),⟨bx,rfl⟩,MT⟩,?_⟩;rintro⟨i,l⟩ ⟨J,e⟩;dsimp only at J e;subst e;dsimp only;refine aD (λg=>?_) (λL=>?_)
 .obtain⟨c,f⟩:=dO j g;obtain⟨M,O,P,o⟩:=D.at' f;obtain⟨Q,W⟩:=E.at_ c (cr f);obtain⟨R,S,v,T,u,X⟩:=bI.at C (i:=c.toNat) (cq aC);have ev:r.getD c.toNat zeroV=v:=cg
  have U:pick r (d.take (i+1))=pick r (d.take i)++[v]:=by
   unfold pick;rw[db,f,Option.toList_some,cv,map_singleton,ev]
  have:=n i;rw[fD aC];refine⟨M,O,P,aC,g,c,.imm o,R,S,T,Q,aC,v,.imm u,cg,cg,(i+1,pick r (d.take (i+1))),⟨aC,rfl⟩,aC,cg⟩
 .rw[cu aC]
  exactλV h' le y=>G V h' le (Rw y (by simp[pick];omega))
theorem agX{on:dq}{a b:dp}{i:Nat}{p:Int×Int}(c:on[i]? =some p):agree (on.take (i+1)) a b=true↔agree (on.take i) a b=true/\a.getD p.1.toNat zeroV=b.getD p.2.toNat zeroV:=by
 rw[Cc,Cc,db,c,Option.toList_some];unfold pick gH fV;rw[cv,cv,cv,cv];constructor
 .intro h;obtain⟨d,e⟩:=append_inj h bx
  grind
 grind
theorem agZ{on:dq}{a b:dp}(k:Nat)(h:agree on a b=true):agree (on.take k) a b=true:=by
 rw[Cc]at h⊢
 unfold pick gH fV at h⊢
 rw[map_take,map_take,map_take,map_take,h]
theorem aIZ{on:dq}{a:dp}{i:Nat}{p:Int×Int}(c:on[i]? =some p):kE (gH (on.take (i+1))) a=(kE (gH (on.take i)) a&&jH (a.getD p.1.toNat zeroV)):=by
 unfold kE pick gH;rw[db,c,Option.toList_some,cv,cv,all_append];simp
theorem aJQ{on:dq}{a:dp}{i:Nat}{p:Int×Int}(d:on[i]? =some p)(h:jH (a.getD p.1.toNat zeroV)=false):kE (gH on) a=false:=by
 rw[Bool.eq_false_iff];intro c;unfold kE pick gH at c
 grind
theorem Qg:di 203 Vh:=by
 refine fU func203 ?_;rintro W m h K ⟨o,s,t,on,a,b,f,rfl,G,O,P,X,Y,u⟩;refine⟨boJ o s t f m h,rfl,aE Jb aG,SJ o s t f m h K,bu,?_⟩;dsimp only[SJ,push_cast];have H:=G.slen;have Z:=G.len;have a':=bI.slen O;have a0:=bI.slen P;refine⟨λi=>i<=on.length/\agree (on.take i) a b=true/\(f=true->kE (gH (on.take i)) a=true),λi=>on.length-i,⟨0,⟨aC,by rw[Cc];rfl,λ_=>rfl⟩,MT⟩,?_⟩;rintro i ⟨hi,y,C⟩;refine aD (λD=>?_) (λa1=>?_)
 .obtain⟨⟨c,d⟩,E⟩:=dO H D;obtain⟨b1,o1,e1,r1⟩:=G.row.get (i:=i) (e:=tL (c,d)) (by simp[E]);have Q:=cr E;obtain⟨R,h2⟩:=X.at_ c (mem_map.2 ⟨_,Q,rfl⟩);obtain⟨h3,h4⟩:=Y.at_ d (mem_map.2 ⟨_,Q,rfl⟩);obtain⟨S,T,v,U,g,hv⟩:=bI.at O (i:=c.toNat) (cq aC);obtain⟨b3,o3,w,e3,j,hw⟩:=bI.at P (i:=d.toNat) (cq aC);have ev:a.getD c.toNat zeroV=v:=cg
  have ew:b.getD d.toNat zeroV=w:=cg
  have n:=agX (a:=a) (b:=b) E;have F:=aIZ (a:=a) E;have z:=aJQ (a:=a) E;dsimp only at n F z;rw[ev,ew]at n;rw[ev]at F z;have I:IntKind.i64.wrap ((i:Int)+1)=((i+1:Nat):Int):=fD aC;have mu:on.length-(i+1)<on.length-i:=by omega
  rw[I];refine⟨b1,o1,e1,aC,D,(c,d),.imm r1,aC,aC,S,T,U,R,aC,v,.imm g,aC,aC,b3,o3,e3,h3,aC,w,.imm j,X2 v w,K4 v w,aB (λe=>⟨g,j,?_⟩) (λe=>?_)⟩
  .have J:¬v=w:=λe5=>by rw[FN.2 e5]at e;cases e
   have e6:agree on a b=false:=by
    rw[Bool.eq_false_iff]
    exactλe7=>J (n.1 (agZ _ e7)).2
   rw[e6,Bool.false_and]at u;exact u
  .have L:v=w:=FN.1 (cm e);refine aB (λV=>⟨aC,aC,S,T,U,R,aC,v,.imm g,g,j,v,rfl,aB (λM=>?_) (λM=>?_)⟩) (λV=>⟨g,j,i+1,⟨aC,n.2 ⟨y,L⟩,λh9=>cg⟩,mu,MT⟩)
   .have M:jH v=false:=cg
    rw[z M,V,show(agree on a b&&(!true||false))=false by grind]at u;exact u
   grind
 .rw[cu aC]at y C;rw[y]at u;cases f with
  |false=>exact u
  |true=>rw[C rfl]at u;exact u
theorem Zn:di 204 bHJ:=by
 refine fU func204 ?_;rintro W m h K ⟨o,s,t,on,a,b,rfl,X,S,T,Y,Z,la,lb,hK⟩;refine⟨boZ o s t m h,rfl,aE Qg aG,SI o s t m h K,bu,?_⟩;dsimp only[SI,push_cast];have E:=bI.slen S;have F:=bI.slen T;refine⟨λz=>z.1<=a.length/\eD h z.2 ((a.take z.1).filter λx=>b.any λy=>agree on x y),λz=>a.length-z.1,⟨(0,[]),⟨bx,cm (eD.nil h)⟩,MT⟩,?_⟩;rintro⟨i,f⟩ ⟨hi,n⟩;dsimp only at hi n;dsimp only;have a':=n.len;have G:=length_filter_le (λx=>b.any λy=>agree on x y) (a.take i);rw[length_take]at G;refine aD (λu=>?_) (λa0=>?_)
 .obtain⟨x,H⟩:=dO E u;have I:=cr H;obtain⟨b1,o1,g,e1,J,C⟩:=bI.at S H;have L:a.take (i+1)=a.take i++[x]:=by rw[db,H];rfl
  have M:(b.any λy=>agree on x y)=true->eD h (f++[g]) ((a.take (i+1)).filter λx=>b.any λy=>agree on x y):=λe=>by
   rw[L,filter_append,filter_cons_of_pos (by exact e),filter_nil];exact n.snoc C
  have no:(b.any λy=>agree on x y)=false->eD h f ((a.take (i+1)).filter λx=>b.any λy=>agree on x y):=λe=>by
   grind
  refine⟨b1,o1,e1,aC,u,g,.imm J,λz=>z.1<=b.length/\z.2=(g,i,f)/\(b.take z.1).any (λy=>agree on x y)=false,λz=>b.length-z.1,⟨(0,g,i,f),⟨bx,rfl,bx⟩,MT⟩,?_⟩;rintro⟨j,z⟩ ⟨hj,e,c⟩;dsimp only at hj e c;subst e;dsimp only;refine aD (λd=>?_) (λU=>?_)
  .obtain⟨y,O⟩:=dO F d;have D:=cr O;obtain⟨b2,o2,V,e2,P,Q⟩:=bI.at T O;refine⟨b2,o2,e2,aC,d,V,.imm P,o,g,V,on,x,y,false,rfl,X,C,Q,Y x I,Z y D,aB (λe=>?_) (λe=>?_)⟩
   .have e:agree on x y=true:=cm e
    rw[fD aC];exact⟨cg,cg,(i+1,f++[g]),⟨aC,M (any_eq_true.2 ⟨y,D,e⟩)⟩,aC,by rw[cv];exact MT⟩
   .have e:agree on x y=false:=cm e
    rw[fD aC];exact⟨(j+1,g,i,f),⟨aC,rfl,by dsimp only;rw[db,O,Option.toList_some,any_append,c];simp[e]⟩,aC,MT⟩
  .rw[cu aC]at c;rw[fD aC];exact⟨(i+1,f),⟨aC,no c⟩,aC,MT⟩
 .rw[cu aC]at n
  exactλs' h' le R=>hK s' h' le ((n.mono le).rows R cg)
theorem Xs{p:dp->Bool}{l:dm}{j:Nat}{y:dp}(c:l[j]? =some y):(l.take (j+1)).countP p=(l.take j).countP p+if p y=true then 1 else 0:=by
 rw[db,c,Option.toList_some,countP_append,countP_singleton]
theorem Zl:di 206 XP:=by
 refine fU func206 ?_;rintro a2 m h K ⟨v,s,t,gr,od,a,b,rfl,hg,ho,hs,ht,ha,hb,la,lb,hK⟩;refine⟨boQ v s t m h,rfl,aE YO (aE YN aG),SG v s t m h K,bu,?_⟩;dsimp only[SG,push_cast];have L:=bI.slen hs;have M:=bI.slen ht;have o:∀l,z8 gr od v.limit l b=l.filter λx=>decide (((b.countP λy=>rG gr x y&&decide (i6 od y x<0):Nat):Int)<v.limit):=λl=>rfl;refine⟨λz=>z.1<=a.length/\eD h z.2 (z8 gr od v.limit (a.take z.1) b),λz=>a.length-z.1,⟨(0,[]),⟨bx,by simpa[o]using eD.nil h⟩,MT⟩,?_⟩;rintro⟨i,d⟩ ⟨hi,D⟩;dsimp only at hi D;dsimp only;have a3:=D.len;have O:=length_filter_le (λx=>decide (((b.countP λy=>rG gr x y&&decide (i6 od y x<0):Nat):Int)<v.limit)) (a.take i);rw[<-o,length_take]at O;refine aD (λE=>?_) (λa4=>?_)
 .obtain⟨x,P⟩:=dO L E;have Q:=cr P;obtain⟨b1,o1,f,e1,R,u⟩:=bI.at hs P;have S:a.take (i+1)=a.take i++[x]:=by rw[db,P];rfl
  have T:((b.countP λy=>rG gr x y&&decide (i6 od y x<0):Nat):Int)<v.limit->eD h (d++[f]) (z8 gr od v.limit (a.take (i+1)) b):=λe=>by
   rw[o]at D⊢
   rw[S,filter_append,filter_cons_of_pos (cm e),filter_nil];exact D.snoc u
  have no:¬((b.countP λy=>rG gr x y&&decide (i6 od y x<0):Nat):Int)<v.limit->eD h d (z8 gr od v.limit (a.take (i+1)) b):=λe=>by
   grind
  refine⟨b1,o1,e1,aC,E,f,.imm R,λz=>z.1<=b.length/\z.2.2=(f,i,d)/\z.2.1<=z.1/\(((z.2.1:Nat):Int)<v.limit->z.2.1=(b.take z.1).countP λy=>rG gr x y&&decide (i6 od y x<0))/\(¬((z.2.1:Nat):Int)<v.limit->z.2.1<=(b.take z.1).countP λy=>rG gr x y&&decide (i6 od y x<0)),λz=>b.length-z.1,⟨(0,0,f,i,d),⟨bx,rfl,bx,bx,bx⟩,MT⟩,?_⟩;rintro⟨j,n,z⟩ ⟨hj,e,U,C,F⟩;dsimp only at hj e U C F;subst e;dsimp only;refine aD (λg=>?_) (λa1=>?_)
  .obtain⟨y,V⟩:=dO M g;have W:=cr V;obtain⟨b2,o2,uy,e2,X,G⟩:=bI.at ht V;have a5:=Xs (p:=λy=>rG gr x y&&decide (i6 od y x<0)) V
   have c:(¬((n:Nat):Int)<v.limit\/(rG gr x y&&decide (i6 od y x<0))=false)->∃z:Nat×Nat×Sl×Nat×dn,(z.1<=b.length/\z.2.2=(f,i,d)/\z.2.1<=z.1/\(((z.2.1:Nat):Int)<v.limit->z.2.1=(b.take z.1).countP λy=>rG gr x y&&decide (i6 od y x<0))/\(¬((z.2.1:Nat):Int)<v.limit->z.2.1<=(b.take z.1).countP λy=>rG gr x y&&decide (i6 od y x<0)))/\z=(j+1,n,f,i,d):=λI=>by
    refine⟨_,⟨aC,rfl,cg,λY=>?_,λY=>?_⟩,rfl⟩
    .grind
    grind
   have Z:IntKind.i64.wrap ((j:Int)+1)=((j+1:Nat):Int):=fD aC;have a':IntKind.i64.wrap ((n:Int)+1)=((n+1:Nat):Int):=fD aC;have J:b.length-(j+1)<b.length-j:=by omega
   rw[Z,a'];refine⟨b2,o2,e2,aC,g,uy,.imm X,aD (λhl=>⟨_,_,_,gr,x,y,rfl,hg,u,G,ha x Q,hb y W,aB (λI=>⟨_,_,_,od,y,x,rfl,ho,G,u,aD (λY=>?_) (λY=>?_)⟩) (λI=>?_)⟩) (λhl=>?_)⟩
   .have hp:(rG gr x y&&decide (i6 od y x<0))=true:=cg
    have h7:=C hl;exact⟨(j+1,n+1,f,i,d),⟨aC,rfl,cg,λ_=>cg,λ_=>cg⟩,J,MT⟩
   .obtain⟨z,H,rfl⟩:=c (.inr cg);exact⟨_,H,J,MT⟩
   .obtain⟨z,H,rfl⟩:=c (.inr (by rw[I];rfl));exact⟨_,H,J,MT⟩
   .obtain⟨z,H,rfl⟩:=c (.inl hl);exact⟨_,H,J,MT⟩
  .rw[cu aC]at C F;rw[fD aC];refine aD (λe=>?_) (λe=>?_)
   .exact⟨cg,cg,(i+1,d++[f]),⟨aC,T aC⟩,aC,by rw[cv];exact MT⟩
   .exact⟨(i+1,d),⟨aC,no (λI=>by omega)⟩,aC,MT⟩
 .rw[cu aC]at D
  exactλs' h' le a0=>hK s' h' le ((D.mono le).rows a0 cg)
theorem Zo:di 202 TU:=by
 refine fU func202 ?_;rintro M m h K ⟨s,t,l,e,rfl,I,O,P,Q,hl,R⟩;refine⟨bpQ s t m,rfl,aE Zh (aE Jg aG),SK s t m h K,bu,?_⟩;dsimp only[SK,push_cast];have j:=bI.slen I;refine⟨λz=>z.1<=l.length/\PH.le h z.2.2/\eD z.2.2 z.2.1 ((l.take z.1).map λr=>pick r e),λz=>l.length-z.1,⟨(0,[],h),⟨bx,.refl _,cm (eD.nil h)⟩,MT⟩,?_⟩;rintro⟨i,S,h1⟩ ⟨T,c,f⟩;dsimp only at T c f;dsimp only;have n:=f.len;rw[length_map,length_take]at n;refine aD (λg=>?_) (λU=>?_)
 .obtain⟨x,o⟩:=dO j g;obtain⟨V,W,J,X,u,y⟩:=bI.at I o;have C:l.take (i+1)=l.take i++[x]:=by rw[db,o];rfl
  refine⟨V,W,X,aC,g,J,.imm (u.mono c),J,t,x,e,rfl,bT.mono y c,O.mono c,P x (cr o),λD L d E=>?_⟩;rw[fD aC];refine⟨cg,cg,(i+1,S++[D],L),⟨aC,c.trans d,by dsimp only;rw[C,cv,map_singleton];exact(f.mono d).snoc E⟩,aC,by rw[cv];exact MT⟩
 .rw[cu aC]at f;intro D L d F
  exact⟨D,_,rfl,(f.mono d).rows F cg,cg,λr Y=>by
   obtain⟨z,_,rfl⟩:=mem_map.1 Y;simp[pick];omega,λZ h3 G H=>R Z h3 (c.trans (d.trans G)) H⟩
end Go.Ps
