/- Own work. -/
import Derived.Test.YtbpoogcannjnbaaGreatDoorAi
noncomputable section
namespace Go.Ps
open Go Go.Vc Go.Proofs List Tryz
variable{K:tt}{m:MH}{h:PH}{s:kD}{ps:ti}{cb:Nat}{sc:bQ}{v:QV}{q:ae}{p:ao}{l:ti}{i N:Nat}{m':MH}{h':PH}{co gr:ti}{od:tp}{w:ao}{ta li:Int}{xs:List tm}{sz:Nat}{ks:List ti}{rs:ti}{r:Sl}{a:ti}{b:Nat}
def uX(cs:List sZ)(t:Int):=cs.any λc=>c.j==t
def As(s:kD)(ps:to)(st st2:List tj)(cs:List sZ)(rs:List jV)(t:Int):List Wr:=
 (rs.filter λr=>r.kind==2&&uX cs r.ah&&r.ah==t).map λr=>⟨r.ak,(uQ s st (eY ps r.av)).1,(uQ s st2 (eY ps r.av)).1⟩
def Ee(s:kD)(wr:Int->List Wr):List sZ->Nat->List fw
 |[],_=>[]
 |c::cs,i=>Yk s (wr c.j) i c++Ee s wr cs (i+1)
structure wB(s:kD)(pk:ti)(rs:List jV)(ps:to)(st st2:List tj)(cs:List sZ):Prop where
 pol:qU s pk rs=0
 par:lH pk ps=true
 jm:kU 1 s st cs=(st2,0)
 q1:∀r∈rs,r.kind=2->(uQ s st (eY ps r.av)).2=0/\iY (uQ s st (eY ps r.av)).1/\(uQ s st (eY ps r.av)).1.length<=8000000/\Um st (eY ps r.av)
 q2:∀r∈rs,r.kind=2->(uQ s st2 (eY ps r.av)).2=0/\iY (uQ s st2 (eY ps r.av)).1/\(uQ s st2 (eY ps r.av)).1.length<=8000000/\Um st2 (eY ps r.av)
 v2:sd st2
 n2:st2.length<=1000
 gi:∀c∈cs,c.bj.length<=1000/\c.new.length<=1000/\(c.bj≠[]->c.new≠[]->c.bj.length=c.new.length)
 jv:cs.length<=400/\rs.length<=1000
def K4 h s ds:=aU h 5 gR.ag (UD h) s ds
def Uj:AC:=λd m h K=>∃sc p r pv f g s j rs ps e c cs,d=[aS sc,KI p r,cS pv,KH f,cS g]/\dV h s sc/\iB h p r j rs/\bF h pv ps/\tI h f e/\sX h g cs/\kN m/\wB s j rs ps e c cs/\
 ∀x h',PH.le h h'->K4 h' x (Ee s (As s ps e c cs rs) cs 0)->K (.dg [cS x,cI 0]) m h'
def dRX y:=vv (.map (some y))
def bxQ(sc:bQ)(p r vs sl c:Sl):=tH [(38,KG),(39,bEJ),(40,c2J),(41,c1J),(42,dDX),(43,bJJ)]
 [(11,{A:=Nat×Sl×Nat×MH×PH,st:=λ⟨i,w,y,m,h⟩=>bO 132 137 ([(2,sv vs),(4,sv c),SW 5,SW 6,SW 8,SW 13,(15,dRX y)]++WF 47 c i) [UV 5 29 sc.ag,(6,.cells 34 [.val (.slice p.a p.len p.cap),.val (.slice r.a r.len r.cap)]),(8,.cells 38 [.val (.slice sl.a sl.len sl.cap)]),(13,.cells 38 [.val (.slice w.a w.len w.cap)])] m h}),
  (17,{A:=Nat×Sl×Nat×Nat×MH×PH,st:=λ⟨i,w,y,b,m,h⟩=>bO 132 137 ([(2,sv vs),(4,sv c),SW 5,SW 8,SW 13,(15,dRX y),(18,pv b)]++WF 61 r i) [UV 5 29 sc.ag,(8,.cells 38 [.val (.slice sl.a sl.len sl.cap)]),(13,.cells 38 [.val (.slice w.a w.len w.cap)])] m h}),
  (31,{A:=Nat×Nat×MH×PH,po:=true,st:=λ⟨i,b,m,h⟩=>bO 132 137 ([(18,pv b)]++WF 119 c i) [] m h})]
 [(20,{A:=Nat×Sl×Nat×Nat×dL×MH×PH,st:=λ⟨i,w,y,b,u,m,h⟩=>bO 132 137 ([(2,sv vs),(4,sv c),SW 5,SW 8,SW 13,(15,dRX y),(18,pv b),SW 20]++WF 61 r i) [UV 5 29 sc.ag,(8,.cells 38 [.val (.slice sl.a sl.len sl.cap)]),(13,.cells 38 [.val (.slice w.a w.len w.cap)]),UV 20 70 u.ag] m h})] [] [200018,1117,400000,0] [] false
def doZ:=WP [(16,Uj)]
def c3X:AC:=λd m h K=>∃sc p r pv f g s j rs ps e c cs,d=[aS sc,KI p r,cS pv,KH f,cS g]/\dV h s sc/\iB h p r j rs/\bF h pv ps/\tI h f e/\sX h g cs/\kN m/\wB s j rs ps e c cs/\
 ∀h',PH.le h h'->K (cI (if(Ee s (As s ps e c cs rs) cs 0).length=0 then 0 else 170)) m h'
abbrev IA(a:kD->ti->(List jV)->Prop):=Gn (λx c=>∃d,a x c d)
abbrev O8(a:kD->(List tj)->Prop):=∃x c,a x c
abbrev fF(a:Nat×Sl×Nat×Nat×MH×PH):=uD a.2
abbrev sF(a:Nat×Sl×Nat×Nat×MH×PH):=a.2.1
abbrev Cp(a:Nat×Sl×Nat×Nat×dL×MH×PH):=a.2.2.1
abbrev j7(a:Nat×Sl×Nat×Nat×dL×MH×PH):=a.2.2.2.1
abbrev G9 a b:=oQ 70 a=oQ 70 b
abbrev SO(a:Nat×Sl×Nat×Nat×dL×MH×PH):=a.2.2.2.2.1
abbrev Lm(a:Nat×Sl×Nat×Nat×dL×MH×PH):=a.2.2.2.2.2
abbrev kY a:=(Lm a).1
abbrev pO a:=pW (SO a).ah
abbrev Nv a b c:=fW (SO a).aa::fW b::aT c
abbrev Dv(a:MH)(b:Nat)(c:tz)(d:MH->(Nat×Sl×Nat×Nat×MH×PH)->Prop):=∀x,kM a x b->pZ x b c->∃e,d x e
abbrev D3(a:bQ->Sl->Sl->Sl->Sl->Sl->kD->ti->(List jV)->to->(List tj)->(List tj)->(List sZ)->Prop):=CD (λx c d=>lC (λe f=>∃g,IA (λj n o=>∃t u y z,a x c d e f g j n o t u y z)))
attribute [push_cast] IA O8 fF sF Cp j7 G9 SO Lm kY pO Nv Dv D3
def Gv sc p r vs sl t:=λm h K=>CD (λs p1 r1=>IA (λs1 p2 r2=>bL (jS sc) (gI p r)=bL (jS s) (gI p1 r1)/\dV h s1 s/\iB h p1 r1 p2 r2/\Cf h (λP=>cM (qU s1 p2 r2) 0 (fR K (qU s1 p2 r2) m P) (lC (λk v=>∃k1 v1,fG p vs=fG k v/\an P k k1/\bF P v v1/\cC (lH k1 v1) (fR K 1 m P) (∃s2 T,lC (λs3 c=>O8 (λs4 s5=>∃c1,bE (cW sc) (jO 1 (gO (aT sl) t))=bE (cW s2) (jO T (gO (aT s3) c))/\dV P s4 s2/\bm P s3 s5/\sX P c c1/\1<=T/\T<=3/\Bw s5/\jA (λw h2=>cO P h2 (bm h2 w (kU T s4 s5 c1).1) (cM (kU T s4 s5 c1).2 0 (Ft K (kU T s4 s5 c1).2 m h2) (He m h2 (λb m2=>∃(I:Nat×Sl×Nat×MH×PH-> Prop)(m3:Nat×Sl×Nat×MH×PH->Nat),(∃x,I x/\aH vs/\aH t/\bY/\jW/\eC/\mD/\oO b (sE x)/\aH t/\aY t/\bB x.1/\aW sc/\lV p r/\pJ sl/\iT w x.2.1/\fK m2 (lA x)/\fQ h2 (lA x).2)/\∀x,I x->aX x.1 (aF t) (ab t x.1 3 jM (cA (lA x)) (bW (lA x)) (λy=>tM (cA (lA x)) (sE x) (λO=>mG 3 O) (λO=>O (FC y)) (FC y) (λG=>∀L,kM (cA (lA x)) L (sE x)->pZ L (sE x) (hU G (FC y) zH [])->∃g,I g/\m3 g<m3 x/\aH vs/\aH t/\bY/\jW/\eC/\mD/\oO (sE x) (sE g)/\aH t/\aY t/\fI (bA x.1 1)=bR g.1/\aW sc/\lV p r/\pJ sl/\iT x.2.1 g.2.1/\eV (fK L (lA g)) (dH (bW (lA x)) (lA g).2)) (λl Q C=>hU l (FC y) Q C) (λl C=>∀L,kM (cA (lA x)) L (sE x)->pZ L (sE x) (hU l (FC y) zH C)->∃g,I g/\m3 g<m3 x/\aH vs/\aH t/\bY/\jW/\eC/\mD/\oO (sE x) (sE g)/\aH t/\aY t/\fI (bA x.1 1)=bR g.1/\aW sc/\lV p r/\pJ sl/\iT x.2.1 g.2.1/\eV (fK L (lA g)) (dH (bW (lA x)) (lA g).2)))) (He (cA (lA x)) (bW (lA x)) (λb1 L=>∀b2 m5,eT L (bW (lA x)) b2->cF L m5 b2 (pW 0::B8::.map none::B8::[]) 111->i6 (λc2 E=>yA m5 b2 (gU c2 E 0)/\4<=c2.size/\∀m6,cF m5 m6 b2 (gW sc (.map (some b1)::B8::List.drop 4 c2.toList)) E->∃(I1:Nat×Sl×Nat×Nat×MH×PH->Prop)(B:Nat×Sl×Nat×Nat×MH×PH->Nat),(∃g,I1 g/\aH vs/\aH t/\bY/\eC/\mD/\oO (sE x) (mN g.2)/\fL b2 (fF g).1/\aH r/\aY r/\bB g.1/\aW sc/\pJ sl/\iT x.2.1 (sF g)/\fK m6 (fF g)/\dH (bW (lA x)) (fF g).2/\True)/\∀g,I1 g->aX g.1 (aF r) (ab r g.1 24 (λy=>Cs y (Cr y)) (cA (fF g)) (bW (fF g)) (λy=>∃I2:Nat×Sl×Nat×Nat×dL×MH×PH->Prop,cM y.kind 2 (∃f,I1 f/\B f<B g/\aH vs/\aH t/\bY/\eC/\mD/\oO (mN g.2) (mN f.2)/\fL (fF g).1 (fF f).1/\aH r/\aY r/\fI (bA g.1 1)=bR f.1/\aW sc/\pJ sl/\iT (sF g) (sF f)/\fK (cA (fF g)) (fF f)/\fQ (bW (fF g)) (fF f).2) (∃G O,xZ (cA (fF g)) (mN g.2) (List.map (λp3=>(p3.1,.bool p3.2)) G)/\mG 3 O/\O (pW y.ah)/\(∀e,List.Mem e G->O e.1)/\((∀e,List.Mem e G->e.1=pW y.ah->False)->∃f,I1 f/\B f<B g/\aH vs/\aH t/\bY/\eC/\mD/\oO (mN g.2) (mN f.2)/\fL (fF g).1 (fF f).1/\aH r/\aY r/\fI (bA g.1 1)=bR f.1/\aW sc/\pJ sl/\iT (sF g) (sF f)/\fK (cA (fF g)) (fF f)/\fQ (bW (fF g)) (fF f).2)/\∀z,HJ (pW y.ah) z G (cC z (∃f,I1 f/\B f<B g/\aH vs/\aH t/\bY/\eC/\mD/\oO (mN g.2) (mN f.2)/\fL (fF g).1 (fF f).1/\aH r/\aY r/\fI (bA g.1 1)= bR f.1/\aW sc/\pJ sl/\iT (sF g) (sF f)/\fK (cA (fF g)) (fF f)/\fQ (bW (fF g)) (fF f).2) (∃f,I2 f/\aH vs/\aH t/\bY/\eC/\mD/\oO (mN g.2) (Cp f)/\fL (fF g).1 (j7 f)/\eP 20/\aH r/\aY r/\bP g.1 f.1/\aW sc/\pJ sl/\iT (sF g) f.2.1/\G9 (Bm y) (Bm (SO f))/\eV (fX (cA (fF g)) (Lm f)) (dH (bW (fF g)) (Lm f)))))/\∀f,I2 f->∃Q,wN (λU q=>∃p3,j5 (SO f).av vs=j5 Q U/\cQ (Lm f).2 q Q/\bF (Lm f).2 U p3/\∀v3 J,cO (Lm f).2 J (cQ J (eY p3 q) v3) (CN (λv4 V=>xQ (λs8 W=>mQ (λX Y=>bE (cW sc) (bL (oL sl) v3.ag)=bE (cW v4) (bL (oL s8) X.ag)/\dV J V v4/\tI J s8 W/\cQ J Y X/\kN (kY f)/\(A5 V [] Y=0->pX V W=0->Um W Y)/\jA (λa R=>cO J R (Rows R a (uQ V W Y).1) (cM (uQ V W Y).2 0 (Ft K (uQ V W Y).2 (kY f) R) (CN (λv5 Z=>xQ (λa2 a3=>mQ (λw2 q2=>bE (cW sc) (bL (oL f.2.1) v3.ag)=bE (cW v5) (bL (oL a2) w2.ag)/\dV R Z v5/\tI R a2 a3/\cQ R q2 w2/\kN (kY f)/\(A5 Z [] q2=0->pX Z a3=0->Um a3 q2)/\jA (λa4 n=>cO R n (Rows n a4 (uQ Z a3 q2).1) (cM (uQ Z a3 q2).2 0 (Ft K (uQ Z a3 q2).2 (kY f) n) (∃z,aK (kY f) n (j7 f) 2 (bZ z)/\∃H,let N:=λD j=>I1 j/\B j<B g/\aH vs/\aH t/\bY/\eC/\mD/\oO (Cp f) (mN j.2)/\fL (j7 f) (fF j).1/\aH r/\aY r/\fI (bA f.1 1)=bR j.1/\aW sc/\pJ sl/\iT f.2.1 (sF j)/\fK D (fF j)/\fQ n (fF j).2;let Ae:=λl S C=>hU l (pO f) S C;let Aa:=λA=>cH (kY f) jT 114 3 A/\cJ (fS A 1*72)/\fA A/\fY (λF u=>cL (kY f) u jT F 114 3 (hZ A (Nv f a a4))->aK u n (j7 f) 2 (bZ z)/\aK u n (j7 f) 2 (bZ H)/\tM u z (λO=>mG 3 O) (λO=>O (pO f)) (pO f) (λG=>Dv u z (hU G (pO f) (fW F) []) N) Ae (λl C=>Dv u z (hU l (pO f) (fW F) C) N));let Ab:=aK (kY f) n (j7 f) 2 (bZ H);let Ad:=aK (kY f) n (j7 f) 2 (bZ z);Ab/\(aK (kY f) n (j7 f) 2 (bZ z)/\Ac (kY f) H (λO=>mG 3 O) (λO=>O (pO f)) (pO f) (wS Ad Ab Ad Ab Aa) (λy3=>wS Ad Ab Ad Ab (λA=>cH (kY f) (bK y3) 114 3 A/\cJ (fS A 1*72)/\fA A/\fY (λF u=>cL (kY f) u (bK y3) F 114 3 (hZ A (Nv f a a4))->aK u n (j7 f) 2 (bZ z)/\aK u n (j7 f) 2 (bZ H)/\tM u z (λO=>mG 3 O) (λO=>O (pO f)) (pO f) (λG=>Dv u z (hU G (pO f) (fW F) []) N) Ae (λl C=>Dv u z (hU l (pO f) (fW F) C) N)))))/\Ad/\Ab/\aK (kY f) n (j7 f) 2 (bZ z)/\Ac (kY f) H (λO=>mG 3 O) (λO=>O (pO f)) (pO f) (uF Ad Ab Aa) (λy3=>uF Ad Ab (λA=>cH (kY f) (bK y3) 114 3 A/\cJ (fS A 1*72)/\fA A/\fY (λF u=>cL (kY f) u (bK y3) F 114 3 (hZ A (Nv f a a4))->aK u n (j7 f) 2 (bZ z)/\aK u n (j7 f) 2 (bZ H)/\tM u z (λO=>mG 3 O) (λO=>O (pO f)) (pO f) (λG=>Dv u z (hU G (pO f) (fW F) []) N) Ae (λl C=>Dv u z (hU l (pO f) (fW F) C) N)))))))))))))))))))) (∃(I2:Nat×Nat×MH×PH->Prop)(u:Nat×Nat×MH×PH->Nat),(uP (cA (fF g)) (bW (fF g))->∃f,I2 f/\fL (fF g).1 f.2.1/\aH t/\aY t/\eV (bB f.1) (wA (cA (fF g)) (bW (fF g)) (cA f.2) (bW f.2)))/\∀f,I2 f->aX f.1 (aF t) (ab t f.1 3 jM (cA f.2) (bW f.2) (λy=>∃D,KT (λb4 i=>F1 (λQ M=>F4 (λU X d=>eD f.2.1 (bL (fD f.1) (jM y))=eD b4 (bL (fD i) (jM Q))/\kV D (cA f.2) (bW f.2) b4 U X d/\AW (bW f.2) M Q/\jB M.bj/\jB M.new/\(jP (M.bj=[])->jP (M.new=[])->M.bj.length=M.new.length)/\d.length<=900000/\iK (λa J=>cO (bW f.2) J (kV D a J b4 U X (d++Yk U (X M.j) i M)) (uP a J->∃A,I2 A/\u A<u f/\fL f.2.1 A.2.1/\aH t/\kO (aY t) (fI (bA f.1 1)=bR A.1) (wA a J (cA A.2) (bW A.2))))))))) (lI (cA f.2) (bW f.2) f.2.1 3 (λy=>mR K y (cA f.2) (bW f.2)))))))))))))))))))
def Tp(sc:bQ)(p r vs sl B:Sl):ST:=λm h K=>D3 (λs o t u y c d z g j n A e=>bE (cW sc) (bE (gI p r) (bU vs (gO (aT sl) B)))=bE (cW s) (bE (gI o t) (bU u (gO (aT y) c)))/\dV h d s/\iB h o t z g/\bF h u j/\tI h y n/\sX h c e/\kN m/\wB d z g j n A e/\jA (λx f=>cO h f (K4 f x (Ee d (As d j n A e g) e 0)) (eH (aF x) 0 (K (fD 170) m f) (K (fD 0) m f))))
structure sY(m:MH)(y:Nat)(f:Int->Option Value):Prop where
 ex:∃kvs:List (Int×Value),pZ m y (kvs.map λp=>(.int .i64 p.1,p.2))/\(kvs.map Prod.fst).Nodup/\∀t u,(t,u)∈kvs↔f t=some u
def bLJ(f:Int->Option Value)(t:Int)(u:Value):=λx=>if x=t then some u else f x
theorem sY.new{y}(up:iZ m m' y (.map #[] 0)):sY m' y λ_=>none:=⟨[],⟨#[],0,up.y,rfl,bu,bu⟩,bu,bu⟩
theorem sY.br{y f}(x:sY m y f)(e:m' y=m y):sY m' y f:=by
 have⟨d,⟨g,c,o,j⟩,n⟩:=x.ex;exact⟨d,⟨g,c,da,j⟩,n⟩
theorem sY.obj{y f}(x:sY m y f):∃es c,m y=some (.map es c):=by
 have⟨d,⟨es,c,e,_⟩,_⟩:=x.ex
 grind
theorem sY.congr{y f g}(x:sY m y f)(h:∀t,f t=g t):sY m y g:=by rwa [<-show f=g from funext h]
theorem sY.put{m y f t u}{Q:MH->Prop}(x:sY m y f)(D:∀m',kM m m' y->sY m' y (bLJ f t u)->Q m'):
 ∃c Ok,pZ m y c/\dz Tryz.prog 3 Ok/\Ok (.int .i64 t)/\Instr.sameBits 10000 (.int .i64 t) (.int .i64 t)=true/\(∀e,List.Mem e c->Ok e.1)/\
  ((∀e,List.Mem e c->e.1=.int .i64 t->False)->∀m':MH,kM m m' y->pZ m' y (c++[(.int .i64 t,u)])->Q m')/\∀n E o,c=n++(.int .i64 t,E)::o->∀m':MH,kM m m' y->pZ m' y (n++(.int .i64 t,u)::o)->Q m':=by
 have⟨c,L,z,j⟩:=x.ex;refine⟨_,_,L,aMX,⟨t,rfl⟩,by simp[Instr.sameBits],λe M=>?_,λF m' A O=>D m' A ⟨c++[(t,u)],da,?_,λd B=>?_⟩,λn E o e m' A O=>?_⟩
 .obtain⟨k,_,rfl⟩:=mem_map.1 (show e∈_ from M)
  grind
 .rw[sn,nodup_append];refine⟨z,bu,λa P b G e=>?_⟩;simp at G;subst G;subst e;have⟨p,R,C⟩:=mem_map.1 P;exact F (Value.int .i64 p.1,p.2) (mem_map_of_mem (f:=λp:Int×Value=>(Value.int .i64 p.1,p.2)) R) (by rw[C])
 .have Z:f t=none:=by
   cases e:f t with
   |none=>rfl
   |some w=>exact(F (Value.int .i64 t,w) (mem_map_of_mem (f:=λp:Int×Value=>(Value.int .i64 p.1,p.2)) ((j t w).2 e)) rfl).elim
  grind[bLJ,mem_singleton,Prod.mk.injEq]
 .have⟨H,b1,S,C,T⟩:=map_eq_append_iff.1 e;have⟨p,U,V,g,W⟩:=map_eq_cons_iff.1 T;subst S V C W;simp only[Prod.mk.injEq,Value.int.injEq,true_and]at g;obtain⟨g,I⟩:=g;obtain⟨J,pv⟩:=p;dsimp only at g I;subst g I;rw[sn,map_cons,nodup_append,nodup_cons]at z;obtain⟨n1,⟨n2,n3⟩,X⟩:=z;refine D m' A ⟨H++(J,u)::U,da,?_,λd B=>?_⟩
  .grind
  .have j:=j d B;rw[mem_append,mem_cons,Prod.mk.injEq]at j⊢
   rw[bLJ];by_cases e:d=J
   .subst e;rw[if_pos rfl];have q1:(d,B)∉H:=λY=>X d (mem_map.2 ⟨_,Y,rfl⟩) d (mem_cons_self ..) rfl
    grind
   grind
theorem sY.get{α y}{f:Int->Option α}{ag t P0}{P:α->Prop}(x:sY m y λt=>(f t).map ag)(L:∀a b,ag a=ag b->a=b)(A:f t=none->P0)(B:∀u,f t=some u->P u):
 ∃d Ok,xZ m y (d.map λp=>(p.1,ag p.2))/\dz Tryz.prog 3 Ok/\Ok (.int .i64 t)/\(∀e,List.Mem e d->Ok e.1)/\((∀e,List.Mem e d->e.1=.int .i64 t->False)->P0)/\∀u,List.Mem (.int .i64 t,u) d->P u:=by
 have⟨d,⟨C,c,D,M,_⟩,O,n⟩:=x.ex
 have o:∃l:List (Int×α),d=l.map λp=>(p.1,ag p.2):=by
  have:∀g:List (Int×Value),(∀p∈g,p∈d)->∃l:List (Int×α),g=l.map λp=>(p.1,ag p.2):=by
   intro g
   induction g with
   |nil=>simp_all
   |cons p g E=>
    intro z;have⟨l,o⟩:=E λq F=>z q (mem_cons_of_mem _ F);have:=(n p.1 p.2).1 (z p (mem_cons_self ..));have⟨a,Q,R⟩:=Option.map_eq_some_iff.1 this;exact⟨(p.1,a)::l,da⟩
  simp_all
 obtain⟨l,rfl⟩:=o
 have j:∀t u,(t,u)∈l↔f t=some u:=λt u=>by
  have:=n t (ag u);constructor
  .intro G;have S:=this.1 (mem_map.2 ⟨_,G,rfl⟩)
   grind[Option.map_eq_some_iff]
  grind
 refine⟨l.map λp=>(Value.int .i64 p.1,p.2),_,⟨C,c,D,bz⟩,aMX,⟨t,rfl⟩,λe H=>?_,λI=>A ?_,λu J=>B u ?_⟩
 .obtain⟨k,_,rfl⟩:=mem_map.1 (show e∈_ from H)
  grind
 .cases e:f t with
  |none=>rfl
  |some w=>exact(I (Value.int .i64 t,w) (mem_map_of_mem (f:=λp:Int×α=>(Value.int .i64 p.1,p.2)) ((j t w).2 e)) rfl).elim
 .have⟨p,T,e⟩:=mem_map.1 (show(Value.int .i64 t,u)∈_ from J)
  grind
theorem sY.list{α y}{f:Int->Option α}{ag}(x:sY m y λt=>(f t).map ag)(D:∀a b,ag a=ag b->a=b):∃l:List (Int×α),xZ m y (l.map λp=>(.int .i64 p.1,ag p.2))/\∀t u,(t,u)∈l↔f t=some u:=by
 have⟨d,⟨o,c,z,E,_⟩,F,g⟩:=x.ex
 have j:∃l:List (Int×α),d=l.map λp=>(p.1,ag p.2):=by
  have:∀e:List (Int×Value),(∀p∈e,p∈d)->∃l:List (Int×α),e=l.map λp=>(p.1,ag p.2):=by
   intro e
   induction e with
   |nil=>simp_all
   |cons p e A=>
    intro n;have⟨l,j⟩:=A λq B=>n q (mem_cons_of_mem _ B);have:=(g p.1 p.2).1 (n p (mem_cons_self ..));have⟨a,G,H⟩:=Option.map_eq_some_iff.1 this;exact⟨(p.1,a)::l,da⟩
  simp_all
 obtain⟨l,rfl⟩:=j;refine⟨l,⟨o,c,z,bz⟩,λt u=>?_⟩;have:=g t (ag u);constructor
 .intro C;have I:=this.1 (mem_map.2 ⟨_,C,rfl⟩)
  grind[Option.map_eq_some_iff]
 grind
theorem ON:∀a b:Sl,Sl.val a=Sl.val b->a=b:=λ⟨c,d,f⟩⟨g,j,n⟩ e=>by
 grind[Sl.val,Value.slice.injEq]
structure Ib(mJ m:MH)(h:PH)(y:Nat)(g:Int->Option Sl)(W:Int->List Wr):Prop where
 map:sY m y λt=>(g t).map Sl.val
 rows:∀t u,g t=some u->∃wvs:List Qc,fU mJ m u 114 3 (wvs.map Qc.ag)/\(W t).length=wvs.length/\∀(i:Nat) x,(W t)[i]?=some x->∃v,wvs[i]?=some v/\Rn h x v
 gp:∀t,g t=none->W t=[]
 apart:∀t t' u u',t≠t'->g t=some u->g t'=some u'->∀x i j,u.a=some ⟨x,i,none⟩->u'.a≠some ⟨x,j,none⟩
 key:∀x,mJ x≠none->m x≠none
 bj:∀x o,x≠y->mJ x=some o->m x=some o
 mY:∃es c,mJ y=some (.map es c)
theorem Ib.mono{d y g W}(x:Ib d m h y g W)(le:PH.le h h'):Ib d m h' y g W:=
 {x with rows:=λt u e=>by have⟨c,f,j,n⟩:=x.rows t u e;exact⟨c,f,j,λi z e=>by have⟨v,o,A⟩:=n i z e;exact⟨v,o,A.mono le⟩⟩}
theorem Ib.push{D:MH}{y g W W' t u w V cs}{Q:MH->Prop}(x:Ib D m h y g W)(hu:g t=some u\/(g t=none/\u=⟨none,0,0⟩))(hw:Rn h w V)(hl:∀t,(W t).length<=100000)(hW:∀f,W' f=if f=t then W t++[w]else W f)(hb:D b=some (.cells cs 111 (0,0)))(M:(cs.toList.drop 2).take 1=[.map (some y)])(hQ:∀m2 g2,Ib D m2 h y g2 W'->Q m2):
 ∃xs:List tm,cH m u 114 3 xs/\(xs.length+1)*72<=140737488355328/\xs.length<140737488355328/\∀J m',cL m m' u J 114 3 (xs++[V.ag])->aK m' h b 2 [.map (some y)]/\aK m' h b 2 [.map (some y)]/\
  ∃B Ok,pZ m' y B/\dz Tryz.prog 3 Ok/\Ok (.int .i64 t)/\Instr.sameBits 10000 (.int .i64 t) (.int .i64 t)=true/\(∀e,List.Mem e B->Ok e.1)/\
  ((∀e,List.Mem e B->e.1=.int .i64 t->False)->∀m2:MH,kM m' m2 y->pZ m2 y (B++[(.int .i64 t,Sl.val J)])->Q m2)/\∀l1 v0 l2,B=l1++(.int .i64 t,v0)::l2->∀m2:MH,kM m' m2 y->pZ m2 y (l1++(.int .i64 t,Sl.val J)::l2)->Q m2:=by
 obtain⟨n,X,e1,e2⟩:∃n:List Qc,fU D m u 114 3 (n.map Qc.ag)/\(W t).length=n.length/\∀(i:Nat) x,(W t)[i]?=some x->∃v,n[i]?=some v/\Rn h x v:=by
  rcases hu with e|⟨e,rfl⟩
  .exact x.rows t u e
  .exact⟨[],fU.nil D m 114 3,by rw[x.gp t e];rfl,λi z d=>by rw[x.gp t e]at d;simp at d⟩
 have Y:∀f H,f≠t->g f=some H->∀a i j,H.a=some ⟨a,i,none⟩->u.a≠some ⟨a,j,none⟩:=λf H E e a i j O=>by
  rcases hu with d|⟨_,rfl⟩
  .exact x.apart f t H u E e d a i j O
  grind
 have a1:=hl t
 have yb:b≠y:=λe=>by
  have⟨es,c,Z⟩:=x.mY
  grind
 have mY:D y≠none:=by
  have⟨es,c,Z⟩:=x.mY;rw[Z];simp
 have a':=x.bj b _ yb hb;refine⟨n.map Qc.ag,X.row,da,da,λJ m' gr=>?_⟩;have nu:∀a o,D a≠none->m a=some o->m' a=some o:=λa o F e=>gr.ai a o e λi d=>F (X.f a i d);have P:m' b=some (.cells cs 111 (0,0)):=nu b _ (by rw[hb];simp) a';have⟨es,c,Z⟩:=x.map.obj;have a0:m' y=m y:=da
 have R:∀a i,J.a=some ⟨a,i,none⟩->D a=none:=λa i e=>by
  rcases gr.f a i e with k|⟨j,k⟩
  .cases d:D a with
   |none=>rfl
   |some o=>exact absurd k (x.key a (by rw[d];simp))
  .exact X.f a j k
 refine⟨.i P M,.i P M,sY.put (x.map.br a0) λm2 hs hm=>hQ m2 (λf=>if f=t then some J else g f) ?_⟩;have C:∀a,D a=none->m2 a=m' a:=λa F=>hs.ai a λe=>mY (e▸F);refine⟨hm.congr λf=>?_,λf H e=>?_,λf e=>?_,λt1 T u1 u2 E d A a i j O=>?_,λa F=>?_,λa o F e=>?_,x.mY⟩
 .grind[bLJ]
 .rw[hW];by_cases d:f=t
  .rw[if_pos d]at e⊢
   cases e;refine⟨n++[V],⟨cH.br (by rw[sn];exact gr.row) λa i A=>C a (R a i A),R⟩,by simp[e1],λi z A=>?_⟩
   grind
  .rw[if_neg d]at e⊢
   have⟨I,G,q1,q2⟩:=x.rows f H e;refine⟨I,⟨cH.br G.row λa i A=>?_,G.f⟩,q1,q2⟩;rw[C a (G.f a i A)];have⟨S,L⟩:=cH.cj G.row A;rw[L];exact gr.ai a _ L λj=>Y f H d e a i j A
 .rw[hW];by_cases d:f=t
  .grind
  .rw[if_neg d]at e⊢
   exact x.gp f e
 .by_cases h1:t1=t
  .rw[if_pos h1]at d;cases d;have U:T≠t:=λe=>E (h1.trans e.symm);rw[if_neg U]at A;intro L;have⟨I,G,_⟩:=x.rows T u2 A;rcases gr.f a i O with k|⟨i2,k⟩
   .have⟨S,e6⟩:=cH.cj G.row L
    grind
   grind
  .rw[if_neg h1]at d;by_cases U:T=t
   .rw[if_pos U]at A;cases A;intro L;have⟨I,G,_⟩:=x.rows t1 u1 d;rcases gr.f a j L with k|⟨i2,k⟩
    .have⟨S,e6⟩:=cH.cj G.row O
     grind
    grind
   .rw[if_neg U]at A;exact x.apart t1 T u1 u2 E d A a i j O
 .by_cases e:a=y
  .subst e;have⟨a2,c2,e2⟩:=hm.obj;rw[e2];simp
  .rw[hs.ai a e];cases d:m a with
   |none=>exact absurd d (x.key a F)
   |some o=>grind
 .rw[hs.ai a F];exact nu a o (by rw[e];simp) (x.bj a o F e)
theorem Ib.judge{m0 j y g W}(x:Ib j m h y g W)(sub:dh m0 j)(A:m0 b=none)(F:m0 y=none)(C:j b=some (.cells ⟨bQ.ag sc++[.map (some y),Sl.val bS]⟩ 111 (0,0)))(G:dV h s sc)(d:uP m h)(H:∀t,(W t).length<=100000):kV m0 (iX j m) (kC j m h) b s W []:=by
 have D:∀b,j b≠none->iX j m b=m b:=λb C=>by
  grind[iX]
 have n:=mU (m0:=j) d;have⟨T,c,I⟩:=x.mY;have J:b≠y:=λe=>da
 have L:=x.bj b _ J C;have⟨l,M,O⟩:=sY.list (x.map.br (D y (by rw[I];simp))) ON;refine⟨λa o e=>?_,A,sc,y,bS,l,[],da,G.mono n,M,λt u e=>?_,λt e=>x.gp t ?_,fU.nil m0 _ 77 5,rfl,λi z e=>by simp at e⟩
 .have E:=sub a o e;rw[D a (by rw[E];simp)];exact x.bj a o (λU=>da) E
 .have⟨B,f,P,Q⟩:=x.rows t u ((O t u).1 e);have:=H t;exact⟨⟨B,fU.ig f,P,λi z e=>by have⟨v,R,S⟩:=Q i z e;exact⟨v,R,S.mono n⟩⟩,aC⟩
 .cases V:g t with
  |none=>rfl
  |some u=>simp_all
theorem bLX{s ps st st2 cs}{rs:List jV}{i r}(c:rs[i]?=some r) t:As s ps st st2 cs (rs.take (i+1)) t=As s ps st st2 cs (rs.take i) t++(if(r.kind==2&&uX cs r.ah&&r.ah==t)=true then[⟨r.ak,(uQ s st (eY ps r.av)).1,(uQ s st2 (eY ps r.av)).1⟩]else[]):=by
 grind[As,sy,sn]
theorem Y4{ps st st2 cs rs} t:(As s ps st st2 cs rs t).length<=rs.length:=by
 unfold As
 grind
theorem XA{cs:List sZ}{c}(d:cs[i]?=some c) t:uX (cs.take (i+1)) t=(uX (cs.take i) t||c.j==t):=by
 grind[uX,sy]
theorem TS{s:kD}{wr:Int->List Wr}:∀{cs:List sZ}{i:Nat},(∀c∈cs,c.bj.length<=1000)->(Ee s wr cs i).length<=cs.length*2001
 |[],i,_=>by simp[Ee]
 |c::cs,i,h=>by
  have e:=TS (wr:=wr) (s:=s) (cs:=cs) (i:=i+1) λx d=>h x (mem_cons_of_mem _ d);have f:=h c (mem_cons_self ..)
  have g:(Yk s (wr c.j) i c).length<=2001:=by
   grind[Yk,R2,al,pG,xR,Gq]
  grind[Ee,sj,te]
theorem W7{s:kD}{wr:Int->List Wr}:∀{cs:List sZ}{i k:Nat}{c:sZ},cs[k]?=some c->Ee s wr (cs.take (k+1)) i=Ee s wr (cs.take k) i++Yk s (wr c.j) ((i+k:Nat):Int) c
 |[],i,k,c,h=>by simp at h
 |a::cs,i,0,c,h=>by grind[Ee]
 |a::cs,i,k+1,c,h=>by
  rw[take_succ_cons,take_succ_cons,Ee,Ee,W7 (cs:=cs) (i:=i+1) (k:=k) (mp h),append_assoc,show i+1+k=i+(k+1)by omega]
theorem dPZ{p vs sl ch:Sl}{pk rs ps st st2 cs}(hs:dV h s sc)(hp:iB h p r pk rs)(hv:bF h vs ps)(a7:tI h sl st)(hc:sX h ch cs)(hT:kN m)(ok:wB s pk rs ps st st2 cs)(hK:∀x h',PH.le h h'->K4 h' x (Ee s (As s ps st st2 cs rs) cs 0)->K (.dg [cS x,cI 0]) m h'):Gv sc p r vs sl ch m h (dR h K):=by
 dsimp only[Gv,push_cast];have b6:=aU.e hc;have c5:=hp.jf.e;have e9:=ok.jv;refine⟨sc,p,r,s,pk,rs,rfl,hs,hp,λh1 E=>aB (λe=>by rw[ok.pol]at e;cases e) (λ_=>⟨p,vs,pk,ps,rfl,hp.params.mono E,hv.mono E,aB (λe=>by rw[ok.par]at e;cases e) (λ_=>⟨sc,1,sl,ch,s,st,cs,rfl,hs.mono E,(a7.mono E).qk,aU.mono hc E (λ_ _ x=>x.mono E),bx,bx,a7.len,λw h2 c6 hw=>aB (λe=>by rw[ok.jm]at e;cases e) (λ_=>λn m1 n1 a8=>?_)⟩)⟩)⟩;rw[ok.jm]at hw;have L2:=E.trans c6;have c7:sX h2 ch cs:=aU.mono hc L2 λ_ _ x=>x.mono L2;have a3:dh m m1:=λa o e=>by rw[a8.ai a λU=>by rw[U,n1.m_]at e;cases e];exact e
 refine⟨λz=>w=z.2.1/\n=z.2.2.1/\h2=z.2.2.2.2/\z.1<=cs.length/\dh m z.2.2.2.1/\sY z.2.2.2.1 n λt=>(if uX (cs.take z.1) t=true then some true else none).map Value.bool,λz=>cs.length-z.1,⟨(0,w,n,m1,h2),⟨rfl,rfl,rfl,Nat.zero_le _,a3,(sY.new a8).congr λt=>by simp[uX]⟩,MT⟩,?_⟩;rintro⟨i,_,_,mz,_⟩⟨rfl,rfl,rfl,hi,sub,hM⟩;dsimp only at hi sub hM⊢
 refine aE (λB=>?_) (λV=>?_)
 .have⟨c,S⟩:=eF b6 B;have⟨b,o,v,ea,rd,a9⟩:=aU.at c7 S;refine⟨b,o,ea,aC,B,v,.ay rd,sY.put (Q:=λm'=>∃f':Nat×Sl×Nat×MH×PH,_) hM λm' c8 c9=>⟨(i+1,w,n,m',h2),⟨rfl,rfl,rfl,aC,λa o e=>?_,c9.congr λt=>?_⟩,aC,MT⟩⟩
  .show m' a=some o;rw[c8.ai a λU=>by rw[U,n1.m_]at e;cases e];exact sub a o e
  .show bLJ _ _ _ t=(if uX (cs.take (i+1)) t=true then some true else none).map Value.bool;rw[XA S,bLJ,a9.ir]
   grind
 have b':i=cs.length:=by omega
 subst b';rw[take_length]at hM;intro C m2 n2 X b m3 n3 b0;refine⟨_,111,⟨b0.y⟩,bu,λL b2=>?_⟩;have G:L b=some (.cells ⟨bQ.ag sc++[.map (some C),Sl.val bS]⟩ 111 (0,0)):=b2.y;have b3:C≠b:=λe=>by have:=n3.m_;rw[<-e,X.y]at this;cases this
 have b7:L C=some (.map #[] 0):=by rw[b2.ai C b3,b0.ai C b3];exact X.y
 have a4:dh mz L:=λa o e=>by
  have ha:a≠C:=λU=>by rw[U,n2.m_]at e;cases e
  have e3:m2 a=some o:=by rw[X.ai a ha];exact e
  have hb:a≠b:=λU=>by rw[U,n3.m_]at e3;cases e3
  rw[b2.ai a hb,b0.ai a hb];exact e3
 have a5:dh m L:=sub.trans a4;have d':m C=none:=sub.jb n2.m_
 have d0:m b=none:=by
  cases e:m b with
  |none=>rfl
  |some o=>
   have e1:=sub b o e;have:m2 b=some o:=by rw[X.ai b λU=>by omega];exact e1
   rw[n3.m_]at this;cases this
 have⟨f0,c1,Y⟩:=hM.obj;have d1:n≠C:=λe=>by rw[e,n2.m_]at Y;cases Y
 have b8:sY L n λt=>(if uX cs t=true then some true else none).map Value.bool:=hM.br (by rw[Y,a4 n _ Y]);have M:∀i t,(As s ps st st2 cs (rs.take i) t).length<=100000:=λi t=>by grind[Y4]
 refine⟨λz=>w=z.2.1/\n=z.2.2.1/\b=z.2.2.2.1/\PH.le h2 z.2.2.2.2.2/\z.1<=rs.length/\∃g,Ib L z.2.2.2.2.1 z.2.2.2.2.2 C g (As s ps st st2 cs (rs.take z.1)),λz=>rs.length-z.1,⟨(0,w,n,b,L,h2),⟨rfl,rfl,rfl,.refl _,Nat.zero_le _,λ_=>none,⟨(sY.new ⟨b7,λ_ _=>rfl⟩).congr λt=>rfl,λt u e=>(by cases e),λt _=>rfl,λt t' u u' _ e=>(by cases e),λ_ e=>e,λ_ _ _ e=>e,_,_,b7⟩⟩,MT⟩,?_⟩;clear hi sub hM a8 n1 a3 V;rintro⟨i,_,_,_,j,T⟩⟨rfl,rfl,rfl,le,hi,g,W⟩;dsimp only at le hi W⊢
 refine aE (λB=>?_) (λV=>?_)
 .have⟨x,S⟩:=eF c5 B;have⟨b1,o1,v,ea,rd,H⟩:=aU.at hp.jf S;have b9:=H.mono (L2.trans le);have cw:=bLX (s:=s) (ps:=ps) (st:=st) (st2:=st2) (cs:=cs) S
  have d2:sY j n λt=>(if uX cs t=true then some true else none).map Value.bool:=b8.br (by
   have⟨es,c,e⟩:=b8.obj;rw[e,W.bj n _ d1 e])
  have skip:¬(x.kind=2/\uX cs x.ah=true)->As s ps st st2 cs (rs.take (i+1))=As s ps st st2 cs (rs.take i):=λhn=>funext λt=>by
   grind
  have nx:¬(x.kind=2/\uX cs x.ah=true)->(w=w/\n=n/\b=b/\PH.le h2 T/\i+1<=rs.length/\∃g,Ib L j T C g (As s ps st st2 cs (rs.take (i+1)))):=λhn=>⟨rfl,rfl,rfl,le,aC,g,da⟩
  have c':dh m j:=λa o e=>W.bj a o (λU=>da) (a5 a o e);refine⟨b1,o1,ea,aC,B,v,.ay (rd.mono (L2.trans le)),λz=>z=(i,w,n,b,v,j,T)/\x.kind=2/\uX cs x.ah=true,aB (λa1=>⟨(i+1,w,n,b,j,T),nx ?_,aC,MT⟩) (λa1=>sY.get d2 (λa b e=>by injection e) (λe=>⟨(i+1,w,n,b,j,T),nx ?_,aC,MT⟩) (λq e=>aB (λa2=>⟨(i+1,w,n,b,j,T),nx ?_,aC,MT⟩) (λa2=>⟨(i,w,n,b,v,j,T),⟨rfl,?_,?_⟩,MT⟩))),?_⟩
  .simp only[bne_iff_ne,H.ie]at a1;omega
  .rw[H.dd]at e;grind
  .grind
  .simp only[bne_eq_false_iff_eq,H.ie]at a1;exact a1
  .rw[H.dd]at e
   grind
  rintro _⟨rfl,b4,d3⟩;dsimp only;have⟨f1,d4,d5,d6⟩:=ok.q1 x (si S) b4;have⟨f2,d7,d8,d9⟩:=ok.q2 x (si S) b4;have c0:kN j:=hT.sub c';have Z:=L2.trans le;refine⟨v.av,vs,x.av,ps,rfl,b9.ia,hv.mono Z,λv' h3 I hq=>⟨sc,s,sl,st,v',_,rfl,hs.mono (Z.trans I),a7.mono (Z.trans I),hq,c0,λ_ _=>d6,λs1 h4 O e'=>aB (λe=>da) (λ_=>⟨sc,s,w,st2,v',_,rfl,hs.mono (Z.trans (I.trans O)),⟨aU.mono hw (le.trans (I.trans O)) λ_ _ x=>x.mono (le.trans (I.trans O)),ok.n2,ok.v2⟩,hq.mono O,c0,λ_ _=>d9,λs2 h5 c2 e0=>aB (λe=>da) (λ_=>?_)⟩)⟩⟩;have lb:=I.trans (O.trans c2);have e4:j b=some (.cells ⟨bQ.ag sc++[.map (some C),Sl.val bS]⟩ 111 (0,0)):=W.bj b _ (λe=>b3 e.symm) G;have f:aK j h5 b 2 [Value.map (some C)]:=.i e4 rfl;have W5:=W.mono lb;have a':Rn h5 ⟨x.ak,(uQ s st (eY ps x.av)).1,(uQ s st2 (eY ps x.av)).1⟩ ⟨v.aa,s1,s2⟩:=⟨b9.ft.mono lb,e'.mono c2,e0,d4,d7,d5,d8⟩
  have a0:∀t',As s ps st st2 cs (rs.take (i+1)) t'=if t'=v.ah then As s ps st st2 cs (rs.take i) v.ah++[⟨x.ak,(uQ s st (eY ps x.av)).1,(uQ s st2 (eY ps x.av)).1⟩]else As s ps st st2 cs (rs.take i) t':=λt'=>by
   rw[cw,b4,d3,H.dd]
   grind
  have du:∀F P,Ib L F h5 C P (As s ps st st2 cs (rs.take (i+1)))->(w=w/\n=n/\b=b/\PH.le h2 h5/\i+1<=rs.length/\∃g,Ib L F h5 C g (As s ps st st2 cs (rs.take (i+1)))):=λF P A=>⟨rfl,rfl,rfl,le.trans lb,aC,P,A⟩
  refine⟨C,f,C,f,⟨f,sY.get W5.map ON (λe=>⟨f,f,f,f,W5.push (.inr ⟨e,rfl⟩) a' (M i) a0 G rfl λF P A=>⟨(i+1,w,n,b,F,h5),du F P A,aC,MT⟩⟩) (λu e=>⟨f,f,f,f,W5.push (.inl e) a' (M i) a0 G rfl λF P A=>⟨(i+1,w,n,b,F,h5),du F P A,aC,MT⟩⟩)⟩,?_⟩;exact⟨f,f,f,sY.get W5.map ON (λe=>⟨f,f,W5.push (.inr ⟨e,rfl⟩) a' (M i) a0 G rfl λF P A=>⟨(i+1,w,n,b,F,h5),du F P A,aC,MT⟩⟩) (λu e=>⟨f,f,W5.push (.inl e) a' (M i) a0 G rfl λF P A=>⟨(i+1,w,n,b,F,h5),du F P A,aC,MT⟩⟩)⟩
 have e5:i=rs.length:=by omega
 subst e5;rw[take_length]at W;have a6:∀t,(As s ps st st2 cs rs t).length<=100000:=λt=>tf (Y4 t) aC;generalize As s ps st st2 cs rs=Wf at W a6 hK;have Z:=L2.trans le;have e6:sX T ch cs:=aU.mono hc Z λ_ _ x=>x.mono Z;refine⟨λz=>b=z.2.1/\z.1<=cs.length/\PH.le T z.2.2.2/\kV m z.2.2.1 z.2.2.2 b s Wf (Ee s Wf (cs.take z.1) 0),λz=>cs.length-z.1,λD=>⟨(0,b,iX L j,kC L j T),⟨rfl,Nat.zero_le _,mU D,W.judge a5 d0 d' G (hs.mono Z) D a6⟩,?_⟩,?_⟩
 .simp_all[Pf,Do]
 clear W M V hi;rintro⟨i,_,m6,h6⟩⟨rfl,hi,R,J⟩;dsimp only at hi R J⊢
 refine aE (λB=>?_) (λV=>?_)
 .have⟨c,S⟩:=eF b6 B;have⟨b1,o1,v,ea,rd,a9⟩:=aU.at e6 S;have c3:=si S;have⟨w1,w2,w3⟩:=ok.gi c c3;have c4:=TS (wr:=Wf) (s:=s) (cs:=cs.take i) (i:=0) λc hc=>(ok.gi c (mem_of_mem_take hc)).1;rw[length_take]at c4;refine⟨b1,o1,ea,aC,B,v,.ay (rd.mono R),m,b,i,v,c,s,Wf,_,rfl,J,a9.mono R,w1,w2,w3,aC,λm7 h7 b5 J2 D=>⟨(i+1,b,m7,h7),⟨rfl,aC,R.trans b5,?_⟩,aC,?_⟩⟩
  .simp_all[W7]
  .have fz:=Tg m7 h7;exact Do
 .have b':i=cs.length:=by omega
  subst b';rw[take_length]at J;have⟨f3,y,d,f4,e7,k1,k2,k3,k4,k5,fd,k6,k7⟩:=J.ex;refine⟨d,.i k1 rfl,dR.ig J.sub (Z.trans R) λD b5=>hK d _ b5 ?_⟩;have c4:=TS (wr:=Wf) (s:=s) (cs:=cs) (i:=0) λc hc=>(ok.gi c hc).1;have e8:=mU (m0:=m) D;exact⟨⟨e7,fU.ig fd,k6,λi x e=>by have⟨v,q1,q2⟩:=k7 i x e;exact⟨v,q1,q2.mono e8⟩⟩,aC⟩
theorem dPQ{p vs sl c:Sl}{pk rs ps st st2 cs}(f:dV h s sc)(g:iB h p r pk rs)(j:bF h vs ps)(d:tI h sl st)(n:sX h c cs)(o:kN m)(ok:wB s pk rs ps st st2 cs)(t:∀h',PH.le h h'->K (cI (if(Ee s (As s ps st st2 cs rs) cs 0).length=0 then 0 else 170)) m h'):Tp sc p r vs sl c m h K:=by
 dsimp only[Tp,push_cast];refine⟨sc,p,r,vs,sl,c,s,pk,rs,ps,st,st2,cs,rfl,f,g,j,d,n,o,ok,λx h' le u=>?_⟩;have y:=aU.e u;have:=t h' le;exact aE (λe=>by rw[if_neg aC]at this;exact this) (λe=>by rw[if_pos aC]at this;exact this)
theorem PL:uz 16 Uj:=by
 refine Uy func16 ?_;rintro f m h K⟨sc,p,r,pv,d,e,s,z,rs,ps,A,g,cs,rfl,j,n,o,c,t,u,ok,y⟩;refine⟨bxQ sc p r pv d e,rfl,aD Vw (aD Vv (aD Vu (aD Vt (aD Vs (aD Vr aG))))),Gv sc p r pv d e m h (dR h K),bt,?_⟩;exact dPZ j n o c t u ok y
theorem b4Z:uz 22 c3X:=by
 refine gV func22 ?_;rintro d m h K⟨sc,p,r,pv,e,f,s,z,rs,ps,A,g,cs,rfl,j,n,o,c,t,u,ok,y⟩;refine⟨doZ,rfl,aD PL aG,Tp sc p r pv e f,bt,?_⟩;exact dPQ j n o c t u ok y
def dxJ:AC:=λg m h K=>∃v s c n d f u,∃t:Nat,∃e rs j o y row,g=[aS v,KH ⟨some ⟨c,0,none⟩,n,d⟩,cI t,cS j,cS y]/\dV h s v/\s.c[t]?=some e/\Ga m c f/\n=f.length/\f[t]?=some u/\Rows h u rs/\rs.length<=1000/\(∀r∈rs,r.length<=1000)/\bF h j o/\bF h y row/\row.length<=1000/\
 ∀z m' h',PH.le h h'->Rows h' z (tK e o row (decide (row.length=0)) rs)->Ga m' c (f.set t z)->aZ m m' c->K (KH ⟨some ⟨c,0,none⟩,n,d⟩) m' h'
def dGZ(t:xK)(key:to)(l:tj)(k:Int):=(k= -1/\sT t key l=[])\/∃i:Nat,k=i/\l[i]?=some (sT t key l)
def dGX:AC:=λd m h K=>∃v s g n e f u,∃t:Nat,∃c rs j o,d=[aS v,KH ⟨some ⟨g,0,none⟩,n,e⟩,cI t,cS j]/\dV h s v/\s.c[t]?=some c/\Ga m g f/\n=f.length/\f[t]?=some u/\Rows h u rs/\rs.length<=1000/\(∀r∈rs,r.length<=1000)/\bF h j o/\
 ∀k h',PH.le h h'->dGZ c o rs k->K (cI k) m h'
def dSQ:AC:=λd m h K=>∃v s g n e f u,∃t:Nat,∃c rs j o,d=[aS v,KH ⟨some ⟨g,0,none⟩,n,e⟩,cI t,cS j]/\dV h s v/\s.c[t]?=some c/\Ga m g f/\n=f.length/\f[t]?=some u/\Rows h u rs/\rs.length<=1000/\(∀r∈rs,r.length<=1000)/\bF h j o/\
 ∀y b h',PH.le h h'->bF h' y (sT c o rs)->K (.dg [cS y,cB b]) m h'
def aCQ:AC:=λd m h K=>∃v s t,d=[aS v,cI t]/\dV h s v/\pE s/\fC s t≠[]/\∀(b o n c:Nat) h',PH.le h h'->an h' ⟨some ⟨b,o,none⟩,n,c⟩ (fC s t)->K (cS ⟨some ⟨b,o,none⟩,n,c⟩) m h'
def Qh:AC:=λd m h K=>∃v s,∃t:Nat,∃c,d=[aS v,cI t]/\dV h s v/\pE s/\s.c[t]?=some c/\c.aa≠[]/\∀e h',PH.le h h'->an h' e (kX s t)->K (cS e) m h'
def bEZ:AC:=λc m h K=>∃cb,c=[cP cb]/\aJ m h cb/\∀s k m' h',0<=k->k<4->PH.le h h'->bF h' s [⟨4,k,⟨#[]⟩⟩]->aZ m m' cb->aJ m' h' cb->K (cS s) m' h'
def djQ(v:bQ)(t:Nat)(c:Sl)(m:MH):=dD [(24,Rc),(48,BJ)] [(4,{A:=Nat×Sl×PH,st:=λ⟨i,u,h⟩=>bO 47 51 ([(2,iv t),(3,sv c),SW 4]++WF 31 u i) [UV 4 29 v.ag] m h})] [] [] false
def agX(v:bQ)(tb n cap t:Nat)(d:Sl):ST:=λm h K=>let A:=K (fD (Int.negSucc 0)) m h;dJ (decide (t>=iS v)) A (decide (t>=aF (Sl.mk (kR tb 0) n cap))) A (aM (λb o=>aR (kR tb 0) b o/\0<=(↑t:Int)/\t<(↑n:Int)/\∃y,aK m h b (bI o t 1) (aT y)/\∃(I:Nat×Sl×PH->Prop)(f:Nat×Sl×PH->Nat),(∃x,I x/\qZ t/\aH d/\eZ/\bC y x.2.1/\cT y x.2.1/\bB x.1/\aW v/\gM m m h x.2.2)/\∀x,I x->aX x.1 (aF x.2.1) (ab x.2.1 x.1 1 aT m x.2.2 (λu=>yI v (iV t u) x.2.2 (λs e=>rG s d e (λa z=>dP (cV a z) 0 (K (fD x.1) m e) (∃c,I c/\f c<f x/\qZ t/\aH d/\eZ/\bC x.2.1 c.2.1/\cT x.2.1 c.2.1/\fI (bA x.1 1)=bR c.1/\bX (aW v) m m e c.2.2))))) (K (fD (Int.negSucc 0)) m x.2.2)))
abbrev Hu(a:bQ->kD->Nat->Nat->Nat->tq->Sl->Nat->xK->tj->Sl->to->Prop):=CN (λx c=>aM (λd e=>SN (λf g=>∃j n o t,nZ (λu y=>a x c d e f g j n o t u y))))
abbrev D2(a:tj):=qL a.length
abbrev DR(a:Nat×to×MH×PH):=vF a.2.1
abbrev nI(a:Nat×to×MH×PH):=a.2.2
abbrev G8(a:Nat×Int×to×Bool×MH×PH->Prop)(b:Nat)(c d:Int)(e:Nat)(g:Int)(i:Sl)(j:(Nat×Int×to×Bool×MH×PH)->Prop):=∃x,a x/\cK b/\bM c/\bM d/\eL 24/\bP e x.1/\cG g x.2.1/\aH i/\j x
abbrev J1(a:Nat×Int×to×Bool×MH×PH):=a.2.2.2.1
abbrev yU(a:Nat×Int×to×Bool×MH×PH):=vF a.2.2.1
abbrev qY(a:Nat×Int×to×Bool×MH×PH):=a.2.2.2.2
abbrev Nw(a:Sl)(b:Nat)(c:Nat×Int×to×Bool×MH×PH)(d:List tm)(e:MH×PH)(g:Nat->Nat->Option Value):=aY a/\bP b c.1/\A7 (J1 c)/\Hz d (yU c)/\eV (fX e.1 (qY c)) (dH g (qY c))
attribute [push_cast] Hu D2 DR nI G8 J1 yU qY Nw
def akJ(v:bQ)(tb n cap t:Nat)(G:Sl):ST:=λm h K=>Hu (λg s j z c u A f B r C k=>bE (cW v) (bE (DV tb n cap) (iV t G))=bE (cW g) (bE (DV j z c) (iV f C))/\dV h s g/\Br s f B/\Ga m j u/\z=u.length/\FG u f A/\Rows h A r/\D2 r/\Hc r/\bF h C k/\∀d e,cO h e (dGZ B k r d) (aX d 0 (K (CV.dg (nN EO bH)) m e) (aM (λb o=>aR (kR tb 0) b o/\0<=(↑t:Int)/\t<(↑n:Int)/\∃y,aK m e b (bI o t 1) (aT y)/\ab y d 1 aT m e (λF=>Be F e (λH I=>K (CV.dg (j8 H eE)) m I))))))
def lp(v:bQ)(t:Nat):ST:=λm h K=>wT (λf s e=>yR v t=dZ (jS f) e/\dV h s f/\pE s/\jP (fC s e=[])/\∀b o n c d,cO h d (an d (Sl.mk (kR b o) n c) (fC s e)) (aM (λg j=>aR (kI v) g j/\0<=(↑t:Int)/\t<aF v.c/\∃y,let A:=aF (Sl.mk (kR b o) n c)<y;let B:=ite A (aF (Sl.mk (kR b o) n c)) y>0;aK m d g (bI j t 5+2) (bV y)/\0<=ite B (ite A ↑n y) 0/\ite B (ite A ↑n y) 0<=c/\K (Er (kR b o) (ite B (ite A ↑n y) 0).toNat c) m d)))
def atZ(cb:Nat):ST:=λm h K=>iN cb 4 m h (λk c=>bN h 3 [bD 4 k wR] (λs d=>K (tV s) c d))
theorem Ga.rd{tb t us u}(x:Ga m tb us)(j:us[t]?=some u):∃c:Array Value,m tb=some (.cells c 95 (0,0))/\(c.toList.drop (0+t*1)).take [fW u].length=[fW u]:=by
 obtain⟨c,f,n,o⟩:=x;have y:=(sg j)
 have d:c.toList[t]?=some (Sl.val u):=by
  have e:(c.toList.take us.length)[t]?=some (Sl.val u):=da
  grind
 have g:=(sg d);refine⟨c,f,?_⟩;rw[Nat.zero_add,Nat.mul_one,drop_eq_getElem_cons g,(List.getElem?_eq_some_iff.1 d).2];rfl
theorem Lt:uz 30 dxJ:=by
 refine gV func30 ?_;rintro a9 m h K⟨v,s,tb,n,T,us,u,t,B,rs,sk,I,U,row,rfl,hs,V,hT,hn,hu,W,b',a',a0,C,h1,hK⟩;refine⟨dmJ v ⟨some ⟨tb,0,none⟩,n,T⟩ t sk U m,rfl,aD BY (aD yV (aD Gu aG)),alZ v tb n T t sk U,bt,?_⟩;dsimp only[alZ,push_cast];obtain⟨y,J,b0,b1⟩:=hT;have b2:t<us.length:=(sg hu);have a1:=aU.e W;have a8:=aU.e C;have b3:((U.len:Int)==0)=decide (row.length=0):=da
 have a2:(y.toList.drop (0+t*1)).take [fW u].length=[fW u]:=by
  have D:y.toList[t]?=some (Sl.val u):=by
   have e:(y.toList.take us.length)[t]?=some (Sl.val u):=da
   grind
  have M:=(sg D);rw[Nat.zero_add,Nat.mul_one,drop_eq_getElem_cons M,(List.getElem?_eq_some_iff.1 D).2];rfl
 refine⟨tb,0,rfl,aC,aC,u,.dx y 95 (0,0) J a2,λz=>z.2.2.2.1=u/\z.1<=rs.length/\PH.le h z.2.2.2.2/\∃en,eN z.2.2.2.2 z.2.1 en/\en.length<=2*z.1/\en++tK B I row z.2.2.1 (rs.drop z.1)=tK B I row (decide (row.length=0)) rs,λz=>rs.length-z.1,⟨(0,[],decide (row.length=0),u,h),⟨rfl,bu,.refl _,[],eN.nil _,bu,bu⟩,da⟩,?_⟩;rintro⟨i,F,d,u',hx⟩⟨e1,hi,g,en,j,G,vQ⟩;dsimp only at e1 hi g j G vQ⊢
 subst e1;have X:=j.len;refine aE (λM=>?_) (λb4=>?_)
 .have⟨r,O⟩:=eF a1 M;have b5:=(sg O);have⟨b,o,w,ea,rd,hv⟩:=aU.at W O;have P:rs.drop i=r::rs.drop (i+1):=by grind[drop_eq_getElem_cons,List.getElem?_eq_some_iff]
  rw[P,tK]at vQ;refine⟨b,o,ea,aC,aC,w,.ay (rd.mono g),v,s,t,w,r,rfl,hs.mono g,bF.mono hv g,a' r (si O),λs' h2 A a3=>⟨s',sk,_,I,rfl,a3,bF.mono a0 (g.trans A),?_⟩⟩;rw[pA V];generalize hc:cV (eR B r) I=c at vQ⊢
  refine⟨λz=>z.1=i/\z.2.2.2.1=u'/\z.2.2.2.2.1=w/\z.2.2.2.2.2.1=c/\PH.le hx z.2.2.2.2.2.2/\∃en,eN z.2.2.2.2.2.2 z.2.1 en/\en.length<=2*i+1/\en++((if c≠0 then[r]else[])++tK B I row z.2.2.1 (rs.drop (i+1)))=tK B I row (decide (row.length=0)) rs,aE (λQ=>aB (λE=>?_) (λE=>?_)) (λQ=>?_),?_⟩
  .have E:d=false:=da
   subst E;rw[if_pos ⟨Q,rfl⟩,show(false||decide (0<=c))=true by simp;omega]at vQ;refine⟨U,row,rfl,bF.mono C (g.trans A),h1,λH R f S=>⟨da,da,(i,F++[H],true,u',w,c,R),⟨rfl,rfl,rfl,rfl,A.trans f,en++[row],(j.mono (A.trans f)).cw S,da,?_⟩,?_⟩⟩
   .grind
   .rw[sn];exact MT
  .have E:d=true:=da
   subst E;rw[if_neg bu,Bool.true_or,nil_append]at vQ;exact⟨(i,F,true,u',w,c,h2),⟨rfl,rfl,rfl,rfl,A,en,j.mono A,aC,vQ⟩,MT⟩
  .rw[if_neg (λh=>Q h.1),show(d||decide (0<=c))=d by grind,nil_append]at vQ;exact⟨(i,F,d,u',w,c,h2),⟨rfl,rfl,rfl,rfl,A,en,j.mono A,aC,vQ⟩,MT⟩
  clear vQ j G X en F;rintro⟨i',F,d,u2,w2,c2,R⟩⟨e2,e3,e4,e5,f,en,j,G,vQ⟩;dsimp only at e2 e3 e4 e5 f j G vQ⊢
  subst e2 e3 e4 e5;have X:=j.len;have hw:IntKind.i64.wrap ((i':Int)+1)=((i'+1:Nat):Int):=fH aC;refine aB (λa4=>?_) (λa4=>?_)
  .rw[if_pos da]at vQ;refine⟨da,da,(i'+1,F++[w2],d,u2,R),⟨rfl,aC,g.trans f,en++[r],j.cw (bF.mono hv (g.trans f)),da,da⟩,aC,?_⟩;rw[hw,sn];exact MT
  .rw[if_neg da,nil_append]at vQ;refine⟨(i'+1,F,d,u2,R),⟨rfl,aC,g.trans f,en,j,aC,vQ⟩,aC,?_⟩
   grind
 .have a5:i=rs.length:=by omega
  rw[a5,drop_length,tK]at vQ;refine⟨λz=>PH.le h z.2/\eN z.2 z.1 (tK B I row (decide (row.length=0)) rs),aB (λE=>?_) (λE=>?_),?_⟩
  .have E:d=false:=da
   rw[E,if_neg bu]at vQ;refine⟨U,row,rfl,bF.mono C g,h1,λH R f S=>⟨da,da,(F++[H],R),⟨g.trans f,by rw[<-vQ];exact(j.mono f).cw S⟩,?_⟩⟩;rw[sn];exact MT
  .have E:d=true:=da
   rw[E,if_pos rfl,append_nil]at vQ;exact⟨(F,hx),⟨g,da⟩,MT⟩
  rintro⟨b6,R⟩⟨f,L⟩;dsimp only at f L⊢
  have b7:(tK B I row (decide (row.length=0)) rs).length<=rs.length+1:=tf Rq da;refine⟨tb,0,rfl,aC,aC,λH h4 Y a6=>⟨y,95,⟨J⟩,?_,λm' Z=>hK H m' h4 (f.trans Y) ((L.mono Y).rows a6 aC) ⟨_,Z.y,?_,?_⟩ ⟨λb hb=>(Z.ai b hb).symm▸rfl⟩⟩⟩
  .omega
  .have a7:aq y.toList (0+((t:Int)).toNat*1) [fW H]=y.toList.set t (Sl.val H):=by
    rw[set_eq_take_append_cons_drop,if_pos da];simp only[aq,Int.toNat_natCast,Nat.zero_add,Nat.mul_one,length_singleton,append_assoc];rfl
   grind
  .have a7:aq y.toList (0+((t:Int)).toNat*1) [fW H]=y.toList.set t (Sl.val H):=by
    rw[set_eq_take_append_cons_drop,if_pos da];simp only[aq,Int.toNat_natCast,Nat.zero_add,Nat.mul_one,length_singleton,append_assoc];rfl
   grind[length_set,map_set,take_set]
theorem aOZ:uz 29 aCQ:=⟨AQ.1,λd j m h w K⟨v,s,t,e,u,y,f,C⟩ z=>AQ.2 d j m h w K ⟨v,s,t,e,u,y,λA h' le B=>by
 obtain⟨a,n,c⟩:=A;rcases B.1.row with g|⟨b,o,g,_⟩
 .exact absurd (map_eq_nil_iff.1 g) f
 grind⟩ z⟩
theorem b0Q:uz 63 dGX:=by
 refine gV func63 ?_;rintro V m h K⟨v,s,M,n,B,us,u,t,j,rs,C,D,rfl,O,d,W,hn,P,y,X,E,F,Q⟩;refine⟨djQ v t C m,rfl,aD BY (aD yV aG),agX v M n B t C,bt,?_⟩;dsimp only[agX,push_cast];have Y:=O.c.e;have Z:=(sg d);have R:=(sg P);have G:=aU.e y;have⟨H,A,I⟩:=W.rd P;refine aE (λe=>by omega) (λ_=>aE (λe=>da) (λ_=>?_));refine⟨M,0,rfl,aC,aC,u,.dx H 95 (0,0) A I,λz=>z.2.1=u/\z.1<=rs.length/\PH.le h z.2.2/\(rs.drop z.1).find? (λr=>cV (eR j r) D==0)=rs.find? (λr=>cV (eR j r) D==0),λz=>rs.length-z.1,⟨(0,u,h),⟨rfl,bu,.refl _,bu⟩,MT⟩,?_⟩;rintro⟨i,u',hx⟩⟨S,hi,c,T⟩;dsimp only at S hi c T⊢
 subst S;refine aE (λJ=>?_) (λa'=>Q _ hx c (.inl ⟨rfl,?_⟩))
 .have⟨r,f⟩:=eF G J;have a0:=(sg f);have⟨b,o,w,ea,rd,hv⟩:=aU.at y f;rw[show rs.drop i=r::rs.drop (i+1)by grind[drop_eq_getElem_cons,List.getElem?_eq_some_iff]]at T;refine⟨b,o,ea,aC,aC,w,.ay (rd.mono c),v,s,t,w,r,rfl,O.mono c,bF.mono hv c,E r (si f),λs' U g L=>⟨s',C,_,D,rfl,L,bF.mono F (c.trans g),?_⟩⟩;rw[pA d];refine aB (λe=>Q _ U (c.trans g) (.inr ⟨i,rfl,?_⟩)) (λe=>⟨(i+1,u',U),⟨rfl,aC,c.trans g,?_⟩,aC,by rw[fH aC];exact MT⟩)
  .grind[cV,eR,sT,find?_cons_of_pos]
  grind
 grind[sT,drop_length]
theorem Vy:uz 32 dSQ:=by
 refine gV func32 ?_;rintro M m h K⟨v,s,y,n,d,O,u,t,z,rs,H,P,rfl,Q,f,I,R,A,c,B,g,C,J⟩;refine⟨WP [(63,dGX),(37,Qj)],rfl,aD b0Q (aD Gu aG),akJ v y n d t H,bt,?_⟩;dsimp only[akJ,push_cast];have L:=(sg A);have S:=aU.e c;refine⟨v,s,y,n,d,O,u,t,z,rs,H,P,rfl,Q,f,I,R,A,c,B,g,C,λk h' le T=>?_⟩;have⟨D,j,E⟩:=I.rd A;rcases T with⟨rfl,e⟩|⟨i,rfl,e⟩
 .exact aE (λ_=>J bS false h' le (by rw[e];exact aU.nil _ _ _ _)) (λe=>by omega)
 .have U:=(sg e);have⟨b,o,w,V,rd,W⟩:=aU.at c e;exact aE (λe=>by omega) (λ_=>⟨y,0,rfl,aC,aC,u,.dx D 95 (0,0) j E,b,o,V,aC,aC,w,.ay (rd.mono le),w,_,rfl,bF.mono W le,g _ (si e),λX Y F G=>J X true Y (le.trans F) G⟩)
theorem dQQ(d:aJ m h cb)(e:∀s k m' h',0<=k->k<4->PH.le h h'->bF h' s [⟨4,k,⟨#[]⟩⟩]->aZ m m' cb->aJ m' h' cb->K (cS s) m' h'):atZ cb m h K:=
 ⟨cb,4,rfl,d,λk m' f o g j s h' le c=>e s k m' h' f aC le ⟨⟨[⟨4,k,⟨#[]⟩⟩],c,rfl,λi x n=>⟨x,n,rfl⟩⟩,bu⟩ g (j.mono le)⟩
theorem b8Z:uz 11 bEZ:=by
 refine gV func11 ?_;rintro c m h K⟨cb,rfl,d,e⟩;refine⟨WP [(13,ES)],rfl,aD EP aG,atZ cb,bt,?_⟩;exact dQQ d e
theorem kg:uz 57 Qh:=by
 refine gV func57 ?_;rintro D m h K⟨v,s,t,j,rfl,u,E,z,F,G⟩;refine⟨WP [(29,aCQ)],rfl,aD aOZ aG,lp v t,by kernel_rfl,?_⟩;dsimp only[lp,push_cast];have Q:=u.c.e;have H:=(List.getElem?_eq_some_iff.1 z).1;have R:fC s (t:Int)=j.aa.map oI.kind:=by simp_all[fC,if_neg,Int.toNat_natCast]
 refine⟨v,s,t,rfl,u,E,λe=>by simp_all,λb o n c I d g=>?_⟩;obtain⟨J,L,y,M,rd,O⟩:=aU.at u.c z;have f:=O.key;have A:=g.e;have A:n=(fC s (t:Int)).length:=A;have B:n<=c:=g.1.cap;have P:jE s (t:Int)=true:=by grind[jE]
 refine⟨J,L,M,aC,aC,y.key,.ay ((bJ.part rd 2 1).mono d),?_⟩;refine⟨aC,aC,G ⟨some ⟨b,o,none⟩,_,c⟩ I d ?_⟩
 have e:kX s (t:Int)=(fC s (t:Int)).take (if(if(n:Int)<y.key then(n:Int)else y.key)>0 then(if(n:Int)<y.key then(n:Int)else y.key)else 0).toNat:=by
  simp only[kX,P,if_true,Int.toNat_natCast,z];rw[<-f];split
  .grind
  .rw[if_neg aC];rfl
 rw[e];have C:=bT.cut g.1 (if(if(n:Int)<y.key then(n:Int)else y.key)>0 then(if(n:Int)<y.key then(n:Int)else y.key)else 0).toNat (by grind);rw[<-map_take]at C;exact⟨C,by have:=g.2;grind⟩
def Dj(ks:ti)(r:to):=∀(i:Nat) v k,r[i]?=some v->ks[i]?=some k->v.kind=k
theorem Dj.cw{ks:ti}{l k v}(x:Dj (ks.take i) l)(f:l.length=i)(g:ks[i]?=some k)(n:v.kind=k):Dj (ks.take (i+1)) (l++[v]):=λj u e d c=>by
 rw[getElem?_take]at c;split at c
 .rename_i o;rcases Nat.lt_or_ge j l.length with h|h
  .rw[getElem?_append_left h]at d;exact x j u e d da
  grind
 .cases c
def Rb(s:kD)(st:List tj):=∀(i:Nat) t l,s.c[i]?=some t->st[i]?=some l->∀r∈l,Dj (t.aa.map oI.kind) r
def dYX:AC:=λc m h K=>∃cb s key ks d,c=[cP cb,cS s,cI key,cI d]/\aJ m h cb/\an h s ks/\ks.length<=1000/\(∀k∈ks,k=3\/k=4\/k=5)/\∀e r m' h',PH.le h h'->bF h' e r->KM key ks r->(d=1->Dj ks r)->aZ m m' cb->aJ m' h' cb->K (cS e) m' h'
def rx:AC:=λc m h K=>∃cb v s e,c=[cP cb,aS v,cI e]/\aJ m h cb/\dV h s v/\oX s/\∀d f m' h',PH.le h h'->tI h' f d->YC s d->(e=1->Rb s d)->aZ m m' cb->aJ m' h' cb->K (KH f) m' h'
def crQ cb key c s:=dD [(20,FZ),(62,Qd)] [(3,{A:=Nat×to×MH×PH,st:=λ⟨i,l,m,h⟩=>bO 59 63 ([(0,pv cb),(2,iv key),(3,iv c),(9,.at (.au 24))]++WF 12 s i) [(24,.au 58 3 (l.map VV.ag))] m h})] [(7,{A:=Nat×Int×to×Bool×MH×PH,st:=λ⟨i,k,l,b,m,h⟩=>bO 59 63 [(0,pv cb),(2,iv key),(3,iv c),(9,.at (.au 24)),(10,iv i),(11,iv k),(12,sv s),(13,iv s.len),(14,iv i),(25,bv b)] [(24,.au 58 3 (l.map VV.ag))] m h}),
 (9,{A:=Nat×Int×to×Bool×MH×PH,st:=λ⟨i,k,l,b,m,h⟩=>bO 59 63 [(0,pv cb),(2,iv key),(3,iv c),(9,.at (.au 24)),(10,iv i),(11,iv k),(12,sv s),(13,iv s.len),(14,iv i),(41,bv b)] [(24,.au 58 3 (l.map VV.ag))] m h})] [] false
def cIZ(cb:Nat)(c:Int)(v:bQ):=tH [(13,ES),(29,yB),(28,dYX),(24,Rc),(30,dxJ)] [(3,{A:=Nat×Sl×MH×PH,st:=λ⟨i,s,m,h⟩=>bO 51 54 [(0,pv cb),(2,iv c),SW 4,SW 6,SW 7,(18,iv v.c.len),(19,iv i)] [UV 4 29 v.ag,(6,.cells 38 [.val bS.val]),(7,.cells 38 [.val (.slice s.a s.len s.cap)])] m h}),
 (6,{A:=Nat×Int×Sl×MH×PH,st:=λ⟨i,n,s,m,h⟩=>bO 51 54 [(0,pv cb),(2,iv c),SW 4,SW 6,SW 7,(8,iv i),(9,iv n),(18,iv v.c.len),(19,iv i)] [UV 4 29 v.ag,(6,.cells 38 [.val bS.val]),(7,.cells 38 [.val (.slice s.a s.len s.cap)])] m h})] [] [] [2036] [] false
def Pq(cb:Nat)(s:Sl)(key g:Int):ST:=λm h K=>∃(I:Nat×to×MH×PH->Prop)(n:Nat×to×MH×PH->Nat),(∃x,I x/\cK cb/\bM key/\bM g/\eL 24/\aH s/\aY s/\bB x.1/\kO (wL 58 3 (DR x)) (fX m (nI x)) (dH h (nI x)))/\∀x,I x->aX x.1 (aF s) (ab s x.1 1 bV (nI x).1 (nI x).2 (λy=>∃I1,let B:=G8 I1 cb key g x.1 y s (λd=>Nw s x.1 d (DR x) (nI x) (nI x).2);iA x.1 key (cM g 1 (lD cb 5 (nI x).1 (nI x).2 (λc r=>∀j,aZ (nI x).1 j c->aJ j (nI x).2 c->G8 I1 cb key g x.1 y s (λd=>aY s/\bP x.1 d.1/\kJ r (J1 d)/\Hz (DR x) (yU d)/\eV (fX j (qY d)) (dH (nI x).2 (qY d))))) B) B/\∀d,I1 d->branch (J1 d) (lJ (yU d) 32 (∃e,I e/\n e<n x/\cK cb/\bM key/\bM g/\eL 24/\aH s/\aY s/\mP (fI (bA d.1 1)=bR e.1) (cE 58 3 (hZ (yU d) (bD 2 0 wR))=cE 58 3 (DR e)) (fX (qY d).1 (nI e)) (dH (qY d).2 (nI e)))) (∃I2,let A:=G8 I2 cb key g d.1 d.2.1 s (λe=>Nw s d.1 e (yU d) (qY d) (qY d).2);iA d.1 key (dP g 3 (lD cb 5 (qY d).1 (qY d).2 (λc r=>∀j,aZ (qY d).1 j c->aJ j (qY d).2 c->G8 I2 cb key g d.1 d.2.1 s (λe=>aY s/\bP d.1 e.1/\kJ r (J1 e)/\Hz (yU d) (yU e)/\eV (fX j (qY e)) (dH (qY d).2 (qY e))))) A) A/\∀e,I2 e->branch (J1 e) (lJ (yU e) 32 (∃f,I f/\n f<n x/\cK cb/\bM key/\bM g/\eL 24/\aH s/\aY s/\mP (fI (bA e.1 1)=bR f.1) (cE 58 3 (hZ (yU e) (bD 1 0 wR))=cE 58 3 (DR f)) (fX (qY e).1 (nI f)) (dH (qY e).2 (nI f)))) (M1 cb e.2.1 (qY e).1 (qY e).2 (λv j=>lJ (yU e) 32 (∃f,I f/\n f<n x/\cK cb/\bM key/\bM g/\eL 24/\aH s/\aY s/\mP (fI (bA e.1 1)=bR f.1) (cE 58 3 (hZ (yU e) v.ag)=cE 58 3 (DR f)) (fX j (nI f)) (dH (qY e).2 (nI f)))))))) (bN (nI x).2 3 (DR x) (λt u=>K (tV t) (nI x).1 u))
def PT(cb:Nat)(g:Int)(v:bQ):ST:=λm h K=>dK (iS v)/\iS v<=iS v/\BV (iS v*24)/\BV (iS v)/\fY (λs L=>vT m L h s 95 1 (DX (iS v) kS)->∃(I:Nat×Sl×MH×PH->Prop)(M:Nat×Sl×MH×PH->Nat),(∃x,I x/\cK cb/\bM g/\eZ/\jW/\eP 7/\lB v/\bB x.1/\aW v/\kP/\iT s x.2.1/\iU L x.2/\fQ h x.2.2)/\∀x,I x->aX x.1 (aF v.c) (iN cb 5 (gX x.2) (gT x.2) (λk m3=>RL (λI1 d=>I1 d/\cK cb/\bM g/\eZ/\jW/\eP 7/\bP x.1 d.1/\cG k d.2.1/\lB v/\bP x.1 d.1/\aW v/\kP/\kO (iT x.2.1 (oE d)) (iU m3 (zI d)) (dH (gT x.2) (zI d).2)) (λI1 O d=>I1 d->
 eH d.2.1 0 (aM (λb o=>aR (kI v) b o/\0<=(↑d.1:Int)/\d.1<aF v.c/\∃y,aK (oF d) (oG d) b (bI o d.1 5+2) (bV y)/\bJ (oG d) b (bI o d.1 5+2) (bV y)/\Cd (yR v d.1) (oG d) (λs1 F=>∃c P,NJ (λQ j=>∃R,eD cb (bU s1 (dZ (fD y) g))=eD c (bU P (dZ (fD Q) R))/\aJ (oF d) F c/\an F P j/\iW j/\(∀f,List.Mem f j->f=3\/f=4\/f=5)/\∀G r,iK (λA B=>cO F B (bF B G r) (KM Q j r->(R=1->Dj j r)->aZ (oF d) A c->aJ A B c->yI v (iV d.1 G) B (λs4 z=>Hu (λS T t n U u V C W D X f=>nZ (λY E=>bE (cW
 v) (bE (aT (oE d)) (jO d.1 (fG s4 G)))=bE (cW S) (bE (DV t n U) (jO C (fG X Y)))/\dV z T S/\Br T C W/\Ga A t u/\n=u.length/\FG u C V/\Rows z V D/\D2 D/\(∀Z,vE Z D (jB Z))/\bF z X f/\bF z Y E/\jB E/\∀u2,iK (λH J=>cO z J (Rows J u2 (tK W f E (decide (E.length=0)) D)) (Ga H t (List.set u C u2)->aZ A H t->∃e,I1 e/\O e<O d/\cK cb/\bM g/\eZ/\jW/\eP 7/\bP d.1 e.1/\cG (jQ d.2.1 1) e.2.1/\lB v/\bP d.1 e.1/\aW v/\kP/\oQ 38 ([A6 (kR t 0) n U])=oQ 38 (zU (oE e))/\iU H (zI e)/\dH J
 (zI e).2/\True))))))))))) (∃e,I e/\M e<M x/\cK cb/\bM g/\eZ/\jW/\eP 7/\lB v/\fI (bA d.1 1)=bR e.1/\aW v/\kP/\iT (oE d) e.2.1/\eV (iU (oF d) e.2) (dH (oG d) e.2.2))))) (K (mX (aT x.2.1)) (gX x.2) (gT x.2)))
theorem dnZ{s key g ks}(hc:aJ m h cb)(hs:an h s ks)(hl:ks.length<=1000)(hk:∀k∈ks,k=3\/k=4\/k=5)(hK:∀M r m' h',PH.le h h'->bF h' M r->KM key ks r->(g=1->Dj ks r)->aZ m m' cb->aJ m' h' cb->K (cS M) m' h'):Pq cb s key g m h K:=by
 dsimp only[Pq,push_cast];have R:=hs.e;refine⟨λz=>z.2.2.2=h/\z.1<=ks.length/\KM key (ks.take z.1) z.2.1/\(g=1->Dj (ks.take z.1) z.2.1)/\aZ m z.2.2.1 cb/\aJ z.2.2.1 h cb,λz=>ks.length-z.1,⟨(0,[],m,h),⟨rfl,bu,⟨bu,bu,λj u k h=>by simp at h⟩,λ_ j u k h=>by simp at h,.refl _ _,hc⟩,MT⟩,?_⟩;rintro⟨i,l,y,h'⟩⟨A,hi,d,f,S,F⟩;dsimp only at A hi d f S F⊢
 subst A;have T:l.length=i:=by rw[d.1,length_take];omega
 refine aE (λU=>?_) (λa' M h2 G V=>?_)
 .have⟨k,B⟩:=eF R U;have⟨b,o,ea,rd⟩:=hs.im B;have H:=hk k (si B);have W:∀(u:VV)(m':MH),LO u->BX key k i u=true->(g=1->u.kind=k)->aZ y m' cb->aJ m' h' cb->h'=h'/\i+1<=ks.length/\KM key (ks.take (i+1)) (l++[u])/\(g=1->Dj (ks.take (i+1)) (l++[u]))/\aZ m m' cb/\aJ m' h' cb:=λu m' X hf hr o c=>⟨rfl,aC,d.cw B X hf,λe=>(f e).cw T B (hr e),S.trans o,c⟩
  have n:ks.length-(i+1)<ks.length-i:=by omega
  have Y:IntKind.i64.wrap ((i:Int)+1)=((i+1:Nat):Int):=fH aC;refine⟨b,o,ea,aC,aC,k,.ay rd,λz=>∃b m',z=(i,k,l,b,m',h')/\(b=true->key<=(i:Int)/\g≠1)/\aZ y m' cb/\aJ m' h' cb,aE (λt=>aB (λZ=>⟨cb,5,rfl,aC,aC,F,λr C D E=>⟨_,⟨r,C,rfl,λ_=>⟨t,λe=>da⟩,D,E⟩,MT⟩⟩) (λ_=>⟨_,⟨false,y,rfl,(λe=>by cases e),.refl _ _,F⟩,MT⟩)) (λ_=>⟨_,⟨false,y,rfl,(λe=>by cases e),.refl _ _,F⟩,MT⟩),?_⟩;rintro _⟨b1,C,rfl,I,D,E⟩;dsimp only;refine aB (λe=>⟨da,da,(i+1,l++[⟨2,0,⟨#[]⟩⟩],C,h'),W _ C (Y9 2) (Z7 (.inr rfl) (I e).1) (λA=>absurd A (I e).2) D E,n,by rw[Y,sn];exact MT⟩) (λ_=>?_);refine⟨λz=>∃b m',z=(i,k,l,b,m',h')/\(b=true->key<=(i:Int)/\g≠1)/\aZ y m' cb/\aJ m' h' cb,aE (λt=>aB (λZ=>⟨cb,5,rfl,aC,aC,E,λr O P Q=>⟨_,⟨r,O,rfl,λ_=>⟨t,λe=>da⟩,D.trans P,Q⟩,MT⟩⟩) (λ_=>⟨_,⟨false,C,rfl,(λe=>by cases e),D,E⟩,MT⟩)) (λ_=>⟨_,⟨false,C,rfl,(λe=>by cases e),D,E⟩,MT⟩),?_⟩;rintro _⟨b2,O,rfl,J,P,Q⟩;dsimp only;refine aB (λe=>⟨da,da,(i+1,l++[⟨1,0,⟨#[]⟩⟩],O,h'),W _ O (Y9 1) (Z7 (.inl rfl) (J e).1) (λA=>absurd A (J e).2) P Q,n,by rw[Y,sn];exact MT⟩) (λ_=>⟨cb,k,rfl,Q,λu m4 X L o4 c4=>?_⟩);refine⟨da,da,(i+1,l++[u],m4,h'),W _ m4 X (Vd H L) (λ_=>(L H).2) (P.trans o4) c4,n,?_⟩;rw[Y,sn];exact MT
 .rw[sm aC]at d f;exact hK M l y h2 G ⟨⟨l,V,rfl,λi x B=>⟨x,B,rfl⟩⟩,aC⟩ d f S (F.mono G)
theorem aPQ:uz 28 dYX:=by
 refine gV func28 ?_;rintro d m h K⟨cb,s,key,ks,c,rfl,e,f,g,j,n⟩;refine⟨crQ cb key c s,rfl,aD qR (aD Gt aG),Pq cb s key c,bt,?_⟩;exact dnZ e f g j n
theorem chZ{st n t l d}(h:Rb s st)(o:s.c[n]?=some t)(u:st[n]?=some l)(z:∀r∈d,Dj (t.aa.map oI.kind) r):Rb s (st.set n d):=λj g y c f=>by
 by_cases e:n=j
 .grind
 .rw[getElem?_set_ne e]at f;exact h j g y c f
theorem dvX{mo v}(hc:aJ m h cb)(hs:dV h s v)(hp:oX s)(hK:∀st sl m' h',PH.le h h'->tI h' sl st->YC s st->(mo=1->Rb s st)->aZ m m' cb->aJ m' h' cb->K (KH sl) m' h'):PT cb mo v m h (dR h K):=by
 dsimp only[PT,push_cast];have b3:=hs.c.e;have⟨a6,b4⟩:=Eo hp;have h8:=xM a6;have b5:=uY a6;have d':0<s.c.length:=length_pos_iff.2 b4;refine⟨aC,aC,aC,aC,λsl m1 I=>?_⟩;rw[show((v.c.len:Int)).toNat=s.c.length by omega]at I
 obtain⟨J,G,D,S,L,_,_,a7,a1⟩:∃b G D,sl=⟨some ⟨b,0,none⟩,s.c.length,G⟩/\m1 b=some (.cells D 95 (0,0))/\s.c.length<=G/\G<=maxLen/\D.size=G*1/\D.toList.take (s.c.length*1)=(replicate s.c.length [B8]).flatten:=by
  rcases I.row.ex with⟨_,e⟩|⟨b,G,D,W,T,e3,e4,e5,e6⟩
  .simp_all
  grind
 have b6:s.c.length<=G:=by assumption
 have X:eT m h J:=I.f J 0 (by rw[S])
 have M:J≠cb:=λe=>by
  have⟨cs,T⟩:=hc.cj;rw[<-e,X.m_]at T;cases T
 have Y:∀b,b≠J->m1 b=m b:=λb hb=>I.ai b λi e=>by
  grind
 have a8:aJ m1 h cb:=hc.br (Y cb (Ne.symm M)) (.refl _)
 have a9:TSt h s m1 J (replicate s.c.length ⟨none,0,0⟩) (replicate s.c.length []):=by
  refine⟨⟨D,L,da,?_⟩,bu,bu,λj u l R E=>?_,λj t l ht E=>?_,λl E=>?_,λl E=>?_⟩
  .rw[length_replicate,<-Nat.mul_one s.c.length,a1,Nat.mul_one,map_replicate];generalize s.c.length=k
   induction k with
   |zero=>rfl
   |succ k ih=>rw[replicate_succ,flatten_cons,ih,replicate_succ];rfl
  .have R:=si R;have E:=si E;rw[eq_of_mem_replicate R,eq_of_mem_replicate E];exact aU.nil _ _ _ _
  .rw[eq_of_mem_replicate (si E)];exact⟨λr hr=>by simp at hr,λi r r' e=>by simp at e⟩
  .grind
  grind
 clear a1 a7 L D;refine⟨λz=>z.1<=s.c.length/\z.2.1=sl/\PH.le h z.2.2.2/\aJ z.2.2.1 z.2.2.2 cb/\(∀b,b≠J->b≠cb->z.2.2.1 b=m b)/\∃H st,TSt z.2.2.2 s z.2.2.1 J H st/\(mo=1->Rb s st)/\∀j l,z.1<=j->st[j]?=some l->l=[],λz=>s.c.length-z.1,⟨(0,sl,m1,h),⟨bu,rfl,.refl _,a8,λb h1 _=>Y b h1,_,_,a9,(λ_ i t l _ e r hr=>da),λj l _ e=>eq_of_mem_replicate (si e)⟩,MT⟩,?_⟩;clear a9 a8;rintro⟨i,a2,m2,h2⟩⟨hi,W,U,c2,o2,H,st,g,F,C⟩;dsimp only at hi W U c2 o2 g F C⊢
 rw[W];clear W a2;refine aE (λb7=>?_) (λd0=>?_)
 .have⟨B,f⟩:=eF b3 b7;have a3:=si f;have⟨tk,tc,d1,b8⟩:=BO hp a3;have b':=(sg f)
  have O:st[i]?=some []:=by
   have:=getElem?_eq_getElem (l:=st) (i:=i) (by rw[g.e];exact b')
   grind
  refine⟨cb,5,rfl,c2,λk m3 k0 k1 o3 c3=>?_⟩;refine⟨λz=>z.1=i/\z.2.2.1=sl/\z.2.1<=4/\PH.le h z.2.2.2.2/\aJ z.2.2.2.1 z.2.2.2.2 cb/\(∀b,b≠J->b≠cb->z.2.2.2.1 b=m b)/\∃H st l,TSt z.2.2.2.2 s z.2.2.2.1 J H st/\(mo=1->Rb s st)/\st[i]?=some l/\((l.length:Int)<=4-z.2.1)/\0<=z.2.1/\∀j l,i+1<=j->st[j]?=some l->l=[],λz=>z.2.1.toNat,⟨(i,k,sl,m3,h2),⟨rfl,rfl,da,U,c3,λb h1 h2=>by show m3 b=m b;rw[o3.ai b h2];grind,H,st,[],g.mono (.refl _) (o3.ai J M),F,O,cv,k0,λj l hj=>C j l aC⟩,MT⟩,?_⟩;clear o3 c3 m3 k0 k1 g F C O H st k o2 c2 m2;rintro⟨i',n,a2,m3,h3⟩⟨W,T,b9,A,c3,o3,H,st,l,g,F,E,c',b0,C⟩;dsimp only at W T b9 A c3 o3 g F E c' b0 C⊢
  rw[W,T];clear W T i' a2;refine aE (λhn=>?_) (λhn=>?_)
  .have⟨b,o,y,ea,rd,hy⟩:=aU.at (hs.mono A).c f;have c0:fC s (i:Int)=B.aa.map oI.kind:=by simp_all[fC,if_neg,Int.toNat_natCast]
   refine⟨b,o,ea,aC,aC,B.key,.ay (by rw[<-hy.key];exact bJ.part rd 2 1),by rw[<-hy.key];exact bJ.part rd 2 1,v,s,i,rfl,hs.mono A,b5,λks h4 P b1=>?_⟩;rw[c0]at b1;refine⟨cb,ks,B.key,_,mo,rfl,c3.mono P,b1,da,λk hk=>?_,λsr row m5 h5 V Z a' c1 o5 c5=>?_⟩
   .obtain⟨c,hc,rfl⟩:=mem_map.1 hk;exact b8 c hc
   have d2:row.length=B.aa.length:=by rw[a'.1,length_map]
   refine⟨v,s,i,sr,row,rfl,hs.mono ((A.trans P).trans V),Z,aC,λsk h6 Q a0=>?_⟩;rw[pA f]at a0;have a4:=g.mono ((P.trans V).trans Q) (o5.ai J M);obtain⟨u,R⟩:∃u,H[i]?=some u:=⟨_,sh (by rw[g.gx];exact b')⟩
   have d3:=si E;refine⟨v,s,J,s.c.length,G,H,u,i,B,l,sk,eR B row,sr,row,by rw[S],hs.mono (((A.trans P).trans V).trans Q),f,a4.pn,g.gx.symm,R,a4.rows i u l R E,aC,λr hr=>?_,a0,bF.mono Z Q,aC,λu' m7 h7 a5 b2 c4 o7=>?_⟩
   .have:=(N1 ((g.ok i B l f E).1 r hr)).1;omega
   rw[decide_eq_false (by omega:¬row.length=0)]at b2;have hw:IntKind.i64.wrap (n-1)=n-1:=dW aC aC;have c6:=Rq (t:=B) (key:=eR B row) (row:=row) (l:=l) (d:=false);simp at c6;refine⟨(i,n-1,sl,m7,h7),⟨rfl,rfl,da,(((A.trans P).trans V).trans Q).trans a5,(c5.mono (Q.trans a5)).br (o7.ai cb (Ne.symm M)) (.refl _),λb h1 h2=>by show m7 b=m b;rw[o7.ai b h1,o5.ai b h2];grind,H.set i u',st.set i _,_,a4.put a5 f E c4 b2 a' aC,(λe=>chZ (F e) f E λr hr=>(EY hr).elim (λT=>T▸c1 e) (F e i B l f E r)),getElem?_set_self (sg E),da,da,λj l' hj e=>?_⟩,da,?_⟩
   .grind
   .grind
  .refine⟨(i+1,sl,m3,h3),⟨aC,rfl,A,c3,o3,H,st,g,F,C⟩,aC,?_⟩;rw[fH aC];exact MT
 .have⟨D,L,a7,a1⟩:=g.pn;refine dR.iceB L U λh3 A c9=>hK st sl _ h3 (U.trans A) ⟨⟨⟨H,⟨by rw[S,length_map];exact g.gx.symm,.inr ⟨J,0,by rw[S],λj e hj=>⟨λn x hx=>?_⟩⟩,da⟩,by rw[g.e,g.gx],λj l E=>?_⟩,by rw[g.e];omega⟩,by rw[g.e];omega,g.val⟩ ⟨g.e,g.jv,g.ok,g.val⟩ F ⟨λb hb=>?_⟩ ?_
  .rw[getElem?_map,Option.map_eq_some_iff]at hj;obtain⟨u,R,rfl⟩:=hj;have hn:n=0:=by grind[eS,List.getElem?_eq_some_iff]
   subst hn
   have hx:u.val=x:=by
    simp[eS]at hx;exact hx
   subst hx;have e:(D.toList.take H.length)[j]?=some u.val:=da
   grind
  .have c7:=(sg E);have c8:j<H.length:=by rw[g.gx,<-g.e];exact c7
   have R:H[j]?=some H[j]:=sh c8;exact⟨_,R,aU.mono (g.rows j _ l R E) A λr t hv=>bF.mono hv A⟩
  .by_cases e:b=J
   .subst e;simp[X.m_]
   grind
  grind[aJ.br]
theorem beQ:uz 10 rx:=by
 refine Uy func10 ?_;rintro d m h K⟨cb,v,s,c,rfl,e,f,g,j⟩;refine⟨cIZ cb c v,rfl,aD EP (aD AQ (aD aPQ (aD BY (aD Lt aG)))),PT cb c v m h (dR h K),bt,?_⟩;exact dvX e f g j
theorem dMQ{st}(g:YC s st)(r:Rb s st):UB 4 s st:=⟨g.len,g.jv,λi t l c d=>⟨λx e=>by
 have⟨f,n⟩:=CR.1 ((g.ok i t l c d).1 x e);refine jK.2 ⟨f,λj o=>?_⟩;have z:=n j o;have u:x[j]?=some (x.getD j al):=da
 have y:(t.aa.map oI.kind)[j]?=some (t.aa.getD j ⟨⟨#[]⟩,0⟩).kind:=by
  grind
 have A:=r i t l c d x e j _ _ u y;simp_all[BX,xJ],(g.ok i t l c d).2⟩,g.val⟩
structure BE(h:PH)(us:tq)(ls:List tj):Prop where
 len:us.length=ls.length
 y:∀(j:Nat) l,ls[j]?=some l->∃u,us[j]?=some u/\Rows h u l
theorem BE.mono{us ls}(x:BE h us ls)(le:PH.le h h'):BE h' us ls:=⟨x.len,λj l d=>(x.y j l d).imp λ_ c=>⟨c.1,aU.mono c.2 le λr t e=>bF.mono e le⟩⟩
theorem BE.nil h:BE h [] []:=⟨rfl,λj x c=>by simp at c⟩
theorem BE.cw{us ls}(x:BE h us ls){u l}(d:Rows h u l):BE h (us++[u]) (ls++[l]):=by
 refine⟨by simp[x.len],λj r c=>?_⟩;by_cases e:j<ls.length
 .rw[getElem?_append_left e]at c;have⟨f,g,n⟩:=x.y j r c
  grind
 .rw[getElem?_append_right aC]at c;have:j-ls.length=0:=da
  rw[this]at c;simp at c;subst c;exact⟨u,by rw[getElem?_append_right (by rw[x.len];omega),x.len,this];rfl,d⟩
theorem BE.kv{us ls s}(x:BE h us ls)(c:bT h s 1 (us.map eS))(e:ls.length<=1000000):bm h s ls:=⟨⟨us,c,x.len.symm,λi l d=>x.y i l d⟩,aC⟩
structure Xl(m:MH)(s:Sl)(us:tq)(m':MH):Prop where
 row:cH m' s 95 1 (us.map eS)
 f:∀b i,s.a=some ⟨b,i,none⟩->m b=none
 br:∀b o,m b=some o->m' b=some o
def YP:AC:=λd m h K=>∃s c,d=[KH s]/\tI h s c/\c.length<=1000/\(∀l∈c,l.length<=1000)/\(∀l∈c,∀r∈l,r.length<=1000)/\∀e f m' h',PH.le h h'->Xl m e f m'->BE h' f c->K (KH e) m' h'
def dmZ:=
 tH [(37,Qj)] [(3,{A:=Nat×Sl×Sl×MH×PH,st:=λ⟨i,s,t,m,h⟩=>bO 36 37 ([SW 2,SW 3]++WF 10 s i) [(2,.cells 38 [.val (.slice none 0 0)]),(3,.cells 38 [.val (.slice t.a t.len t.cap)])] m h}),
  (7,{A:=Nat×Sl×tq×Nat×Sl×Sl×MH×PH,st:=λ⟨j,u,rs,i,s,t,m,h⟩=>bO 36 37 ([SW 2,SW 3,(6,.at (.au 26)),(10,sv s),(11,iv s.len),(12,iv i)]++WF 16 u j) [(2,.cells 38 [.val (.slice none 0 0)]),(3,.cells 38 [.val (.slice t.a t.len t.cap)]),(26,.au 75 1 (rs.map eS))] m h})] [] [] [1036] [] false
abbrev DS(a:Nat×Sl×tq×Nat×Sl×Sl×MH×PH):=u6 a.2.2.2
abbrev sP(a:Nat×Sl×tq×Nat×Sl×Sl×MH×PH):=nW a.2.2.2
attribute [push_cast] DS sP
def alX(s:Sl):ST:=λm h K=>∃(I:Nat×Sl×Sl×MH×PH->Prop)(j:Nat×Sl×Sl×MH×PH->Nat),(∃x,I x/\gZ/\eP 3/\bC s (u6 x)/\cT s (u6 x)/\bB x.1/\kP/\oQ 38 A8=oQ 38 (zU (nW x).1)/\eV (iU m (nW x)) (dH h (nW x).2))/\∀x,I x->aX x.1 (aF (u6 x)) (aM (λb o=>aR (u6 x).a b o/\0<=(↑x.1:Int)/\x.1<aF (u6 x)/\∃y,aK (gX (nW x)) (gT (nW x)) b (bI o x.1 1) (aT y)/\∃(I1:Nat×Sl×tq×Nat×Sl×Sl×MH×PH->Prop)(n:Nat×Sl×tq×Nat×Sl×Sl×MH×PH->Nat),(∃c,I1 c/\gZ/\eP 3/\eL 26/\bC (u6 x) (DS c)/\cT (u6 x) (DS c)/\bP x.1
 c.2.2.2.1/\bC y c.2.1/\cT y c.2.1/\bB c.1/\kP/\iT (nW x).1 (sP c).1/\kO (Ab (pS c.2.2.1)) (iU (gX (nW x)) (sP c)) (dH (gT (nW x)) (sP c).2))/\∀c,I1 c->aX c.1 (aF c.2.1) (ab c.2.1 c.1 1 aT (gX (sP c)) (gT (sP c)) (λz=>Be z (gT (sP c)) (λf g=>lJ (lX c.2.2.1) 24 (∃d,I1 d/\n d<n c/\gZ/\cR/\eL 26/\bC (DS c) (DS d)/\cT (DS c) (DS d)/\bP c.2.2.2.1 d.2.2.2.1/\bC c.2.1 d.2.1/\cT c.2.1 d.2.1/\fI (bA c.1 1)=bR d.1/\kP/\iT (sP c).1 (sP d).1/\cE 75 1 (iI (lX c.2.2.1) f)=pS d.2.2.1/\iU (gX (sP c)) (sP d)/\dH g (sP d).2/\True)))) (bN (gT (sP c)) 1 (lX c.2.2.1) (λf g=>∃d,cH (gX (sP c)) (bK (sP c).1) 95 1 d/\cJ (fS d 1*24)/\fA d/\fY (λA B=>cL (gX (sP c)) B (bK (sP c).1) A 95 1 (iI d f)->∃e,I e/\j e<j x/\gZ/\cR/\bC (DS c) (u6 e)/\cT (DS c) (u6 e)/\fI (bA c.2.2.2.1 1)=bR e.1/\kP/\kO (iT A (nW e).1) (iU B (nW e)) (dH g (nW e).2)))))) (K (mX (aT (nW x).1)) (gX (nW x))
 (gT (nW x)))
theorem Vz:uz 31 YP:=by
 refine gV func31 ?_;rintro a0 m h K⟨s,A,rfl,Z,J,h2,h3,hK⟩;refine⟨dmZ,rfl,aD Gu aG,alX s,bt,?_⟩;dsimp only[alX,push_cast];have E:=aU.e Z.qk;refine⟨λz=>z.1<=A.length/\∃t n J B,z.2=(s,t,n,J)/\PH.le h J/\Xl m t B n/\BE J B (A.take z.1),λz=>A.length-z.1,⟨(0,s,bS,m,h),⟨bu,bS,m,h,[],rfl,.refl _,⟨cH.nil _ _ _,λb i e=>(by cases e),λb o e=>e⟩,by grind[BE.nil]⟩,MT⟩,?_⟩;rintro⟨i,z⟩⟨hi,t,n,L,B,e,d,C,F⟩;dsimp only at hi e F;subst e;dsimp only;have P:=F.len;rw[length_take]at P;refine aE (λQ=>?_) (λa1=>?_)
 .have⟨l,hl⟩:=eF E Q;have hm:=si hl;have a2:=h2 l hm;have R:A.take (i+1)=A.take i++[l]:=by grind[sy]
  have⟨b,o,u,ea,rd,hr⟩:=aU.at Z.qk hl;have G:=aU.e hr;have a3:i<A.length:=by omega
  refine⟨b,o,ea,aC,aC,u,.ay (rd.mono d),λz=>z.1<=l.length/\∃rs M,z.2=(u,rs,i,s,t,n,M)/\PH.le L M/\eN M rs (l.take z.1),λz=>l.length-z.1,⟨(0,u,[],i,s,t,n,L),⟨bu,[],L,rfl,.refl _,by grind[eN.nil]⟩,MT⟩,?_⟩;rintro⟨j,z⟩⟨hj,rs,M,e,f,g⟩;dsimp only at hj e g;subst e;dsimp only;have S:=g.len;rw[length_take]at S;refine aE (λH=>?_) (λa'=>?_)
  .have⟨r,y⟩:=eF G H;have a4:=(sg y);have⟨b2,o2,ur,T,U,hv⟩:=aU.at hr y;have I:l.take (j+1)=l.take j++[r]:=by grind[sy]
   refine⟨b2,o2,T,aC,aC,ur,.ay (U.mono (d.trans f)),ur,r,rfl,bF.mono hv (d.trans f),h3 l hm r (si y),λs2 D c V=>?_⟩;rw[fH aC];refine⟨da,da,(j+1,u,rs++[s2],i,s,t,n,D),⟨aC,rs++[s2],D,rfl,f.trans c,by dsimp only;rw[I];exact(g.mono c).cw V⟩,aC,by rw[sn];exact MT⟩
  .rw[sm aC]at g;intro sp D c W;have X:Rows D sp l:=(g.mono c).rows W aC;rw[fH aC];refine⟨B.map eS,C.row,da,da,λt2 m2 Y=>⟨(i+1,s,t2,m2,D),⟨aC,t2,m2,D,B++[sp],rfl,d.trans (f.trans c),⟨by rw[sn];exact Y.row,λb i e=>?_,λb o e=>Y.ai b o (C.br b o e) λi e2=>by rw[C.f b i e2]at e;cases e⟩,by dsimp only;rw[R];exact(F.mono (f.trans c)).cw X⟩,aC,MT⟩⟩;rcases Y.f b i e with O|⟨j2,O⟩
   .cases e3:m b with
    |none=>rfl
    |some o=>rw[C.br b o e3]at O;cases O
   .exact C.f b j2 O
 .rw[sm aC]at F;exact hK t B n L d C F
def bCJ(N:Nat):AC:=λc m h K=>∃v q,c=[aQ v]/\cQ h q v/\SizeOf.sizeOf q<N/\oU q<=900000/\∀d h',PH.le h h'->an h' d (fP q)->K (cS d) m h'
def cSX:AC:=λc m h K=>∃v q,c=[aQ v]/\cQ h q v/\oU q<=900000/\∀d h',PH.le h h'->an h' d (fP q)->K (cS d) m h'
def bGX:AC:=λc m h K=>∃e d v q,c=[KH e,aQ v]/\tI h e d/\cQ h q v/\oU q<=900000/\(∀t∈fP q,0<=t/\t<d.length)/\∀f h',PH.le h h'->bm h' f (rU d q)->K (cS f) m h'
def cBQ(N:Nat)(v:QV)(m:MH):=
 dD [(158,bCJ N)] [(5,{A:=Nat×ti×PH,st:=λ⟨i,l,h⟩=>bO 29 30 [SW 1,(3,.at (.au 12)),(15,iv v.args.len),(16,iv i)] [UV 1 68 v.ag,(12,.au 3 1 (l.map eI))] m h})] [(4,{A:=ti×PH,st:=λ⟨l,h⟩=>bO 29 30 [SW 1,(3,.at (.au 12))] [UV 1 68 v.ag,(12,.au 3 1 (l.map eI))] m h})] [] false
def cFJ(sl:Sl)(m:MH):=
 dD [(158,cSX)] [(3,{A:=Nat×Sl×tq×PH,st:=λ⟨i,s,c,h⟩=>bO 25 27 ([SW 2,(5,.at (.au 22))]++WF 9 s i) [(2,.cells 38 [.val (.slice sl.a sl.len sl.cap)]),(22,.au 95 1 (c.map eS))] m h})] [] [] false
def Wb N v:=λm h K=>∃I:ti×PH->Prop,dP v.op 1 (cJ 8/\cJ 1/\∃x,I x/\gY/\eL 12/\eJ v/\bX (tO [bV v.ah] x.1) m m h x.2) (∃x,I x/\gY/\eL 12/\eJ v/\bX (wX x.1) m m h x.2)/\∀x,I x->∃(I1:Nat×ti×PH->Prop)(g:Nat×ti×PH->Nat),(∃c,I1 c/\gY/\eL 12/\rQ v/\bB c.1/\eJ v/\tO (gE x.1) c.2.1/\m=m/\dC x.2 c.2.2)/\∀c,I1 c->aX c.1 (aF v.args) (ab v.args c.1 21 QV.ag m c.2.2 (λy=>mQ (λj q=>Ex (i7 y)=[i7 j]/\cQ c.2.2 q j/\pR q N/\yS q/\jA (λs f=>cO c.2.2 f (an f s (fP q)) (∃d,dA 1 d/\bT f (bK s) 1 d/\lK (gE c.2.1) d 8/\cJ (lL (gE c.2.1) d)/\∃e,I1 e/\g e<g c/\gY/\eL 12/\rQ v/\fI (bA c.1 1)=bR e.1/\eJ v/\tO (gE c.2.1++d) e.2.1/\gM m m f e.2.2))))) (rH c.2.2 (gE c.2.1) K m)
def WA sl v:=λm h K=>mQ (λe q=>eO (i7 v) (i7 e)/\cQ h q e/\yS q/\jA (λs d=>cO h d (an d s (fP q)) (∃(I:Nat×Sl×tq×PH->Prop)(f:Nat×Sl×tq×PH->Nat),(∃x,I x/\gZ/\eL 22/\bC s (nQ x)/\cT s (nQ x)/\bB x.1/\pJ sl/\cE 95 1 []=C3 95 1 x.2.2.1/\gM m m d (sN x))/\∀x,I x->aX x.1 (aF (nQ x)) (aM (λb o=>aR (nQ x).a b o/\0<=(↑x.1:Int)/\x.1<aF (nQ x)/\∃y,aK m (sN x) b (bI o x.1 1) (bV y)/\ab sl y 1 aT m (sN x) (λn=>cJ (fS (tT x) 1*24)/\fA (tT x)/\∃c,I c/\f c<f x/\gZ/\eL 22/\bC (nQ x) (nQ c)/\cT (nQ x) (nQ c)/\fI (bA x.1 1)=bR c.1/\pJ sl/\bX (cE 95 1 (iI (tT x) n)=C3 95 1 c.2.2.1) m m (sN x) (sN c)))) (rH (sN x) (tT x) K m))))
theorem Mg{q:ae}:∀{l:List ae},fE (l++[q])=fE l++fP q
 |[]=>by simp[fE]
 |p::l=>by rw[cons_append,fE,Mg,fE,append_assoc]
theorem aqQ:∀N,uz 158 (bCJ N)
 |0=>by
  refine gV func158 ?_;rintro A m h K⟨v,q,rfl,R,W,_⟩;omega
 |N+1=>by
  refine gV func158 ?_;rintro A m h K⟨v,q,rfl,R,W,X,B⟩;refine⟨cBQ N v m,rfl,aD (aqQ N) aG,Wb N v,bt,?_⟩;dsimp only[Wb,push_cast];have g:=Ji q;obtain⟨op,ta,w,co,on,gr,od,li,args⟩:=q;have C:=R.parts;have d:=C.bf;have D:=aU.e d;have S:=aU.len d;have T:v.op=op:=C.jp;have y:v.ah=ta:=C.dd;rw[fP]at B g;rw[oU]at X g;refine⟨λz=>z=(if op=1 then[ta]else[],h),aB (λe=>?_) (λe=>?_),?_⟩
  .have e:op=1:=da
   exact⟨aC,aC,([ta],h),by rw[if_pos e],by rw[y];exact MT⟩
  .grind
  rintro _ rfl;dsimp only;generalize (if op=1 then[ta]else[])=E at B g;refine⟨λz=>z.1<=args.length/\z.2.1=E++fE (args.take z.1)/\PH.le h z.2.2,λz=>args.length-z.1,⟨(0,E,h),⟨bu,by simp[fE],.refl _⟩,MT⟩,?_⟩;rintro⟨i,l,hx⟩⟨Y,U,le⟩;dsimp only at Y U le⊢
  subst U
  have f:∀j,(fE (args.take j)).length<=(fE args).length:=λj=>by
   have h5:∀(a b:List ae),(fE a).length<=(fE (a++b)).length:=λa b=>by
    induction a with
    |nil=>simp[fE]
    |cons p a ih=>grind[fE,sj]
   grind[take_append_drop]
  have V:=f i;rw[sj]at g;refine aE (λF=>?_) (λZ=>?_)
  .have⟨p,G⟩:=eF D F;have⟨b,o,u,ea,H,I⟩:=aU.at (FX.mono d le) G;have n:=si G
   have J:SizeOf.sizeOf p<N:=by
    have:=sizeOf_lt_of_mem n
    grind
   have a':=Yq n;have L:fE (args.take (i+1))=fE (args.take i)++fP p:=by rw[sy,G,Option.toList_some,Mg]
   have t:(fE (args.take (i+1))).length<=(fE args).length:=f _;rw[L,sj]at t;refine⟨b,o,ea,aC,aC,u,.ay H,u,p,rfl,I,J,aC,λs h2 M O=>⟨(fP p).map eI,lZ _,O.row,?_,?_,(i+1,E++fE (args.take i)++fP p,h2),⟨aC,da,le.trans M⟩,aC,?_⟩⟩
   .grind
   .grind
   grind[fH]
  .rw[sm aC]
   exactλs h' P Q=>B s h' (le.trans P) ⟨Q,da⟩
theorem a6J:uz 158 cSX:=jL aqQ λ_ _ _ _⟨v,q,e,c,d,f⟩=>⟨SizeOf.sizeOf q+1,v,q,e,c,aC,d,f⟩
theorem bbZ:uz 130 bGX:=by
 refine gV func130 ?_;rintro W m h K⟨P,d,v,q,rfl,A,X,Y,e,Q⟩;refine⟨cFJ P m,rfl,aD a6J aG,WA P v,bt,?_⟩;dsimp only[WA,push_cast];have B:=Ji q;refine⟨v,q,rfl,X,Y,λR C f D=>?_⟩;have g:=D.e;have c:=A.mono f;have S:=aU.e c.qk;have j:rU d q=(fP q).map λt=>d.getD t.toNat []:=rfl;generalize rU d q=L at j Q;generalize fP q=E at D g B e j;have Z:L.length=E.length:=da
 refine⟨λz=>z.1<=E.length/\z.2.1=R/\z.2.2.2=C/\BE C z.2.2.1 (L.take z.1),λz=>E.length-z.1,⟨(0,R,[],C),⟨bu,rfl,rfl,by grind[BE.nil]⟩,MT⟩,?_⟩;rintro⟨i,s2,us,h3⟩⟨F,T,U,n⟩;dsimp only at F T U n⊢
 subst T U;have G:=n.len;rw[length_take]at G;refine aE (λH=>?_) (λa'=>?_)
 .have⟨t,V⟩:=eF g H;have⟨b,o,ea,rd⟩:=D.im V;have ht:=e t (si V);have a0:t.toNat<d.length:=by omega
  have e6:d[t.toNat]?=some (d.getD t.toNat []):=da
  have⟨b2,o2,u,I,J,hr⟩:=aU.at c.qk e6;have M:L[i]?=some (d.getD t.toNat []):=da
  refine⟨b,o,ea,aC,aC,t,.ay rd,b2,o2,I,ht.1,aC,u,.ay J,da,da,(i+1,s2,us++[u],h3),⟨aC,rfl,rfl,by rw[sy,M];exact n.cw hr⟩,aC,?_⟩;rw[fH aC,sn];exact MT
 .rw[sm aC]at n
  exactλs3 h4 y O=>Q s3 h4 (f.trans y) ((n.mono y).kv O aC)
variable{cN:Nat}
def cUZ:AC:=λc m h K=>∃v s t q l w,c=[aQ v,cS s,cS t]/\cQ h q v/\Rows h s (l.getD 0 [])/\Rows h t (l.getD 1 [])/\2<=v.op/\v.op<=10/\ckQ v.op q l/\lT w (ZK v.op q l)/\(v.op=6->(l.getD 0 []).length+(l.getD 1 []).length<=8000000)/\∀d h',PH.le h h'->Rows h' d (ZK v.op q l)->K (cS d) m h'
def cYQ(N:Nat):AC:=λd m h K=>∃cN v s q sc c k,d=[aQ v,cS s]/\cQ h q v/\SizeOf.sizeOf q<N/\z8 cN sc q/\B4 sc (cN+1) c k (fP q)/\bm h s (c.drop k)/\∀e f h',PH.le h h'->Rows h' e (fO c q k).1->bm h' f (c.drop (fO c q k).2)->K (.dg [cS e,cS f]) m h'
def cYX:AC:=λd m h K=>∃cN v s q sc c k,d=[aQ v,cS s]/\cQ h q v/\z8 cN sc q/\B4 sc (cN+1) c k (fP q)/\bm h s (c.drop k)/\∀e f h',PH.le h h'->Rows h' e (fO c q k).1->bm h' f (c.drop (fO c q k).2)->K (.dg [cS e,cS f]) m h'
def bHX:AC:=λd m h K=>∃cN e v c q sc,d=[KH e,aQ v]/\tI h e c/\cQ h q v/\z8 cN sc q/\oU q<=900000/\pX sc c=0/\(∀l∈c,l.length<=cN+1)/\∀f h',PH.le h h'->Rows h' f (GK c q)->K (cS f) m h'
def cBX(v:QV)(s t:Sl)(m:MH)(h:PH):=dD [(185,YK),(186,Xj),(187,YY),(37,cZJ),(188,cSQ),(189,c1Q),(190,aBQ),(156,bCQ)] [(5,{A:=Nat×tq,st:=λ⟨i,c⟩=>bO 105 108 ([SW 3,(7,.at (.au 31))]++WF 18 s i) [UV 3 68 v.ag,(31,.au 75 1 (c.map eS))] m h}),
 (14,{A:=Nat×tq×PH,st:=λ⟨i,c,h⟩=>bO 105 108 ([(2,sv t),SW 3,(7,.at (.au 64))]++WF 41 s i) [UV 3 68 v.ag,(64,.au 75 1 (c.map eS))] m h}),
 (17,{A:=Nat×Sl×Nat×tq×PH,st:=λ⟨j,x,i,c,h⟩=>bO 105 108 ([(2,sv t),SW 3,(7,.at (.au 64)),(11,sv x),(41,sv s),(42,iv s.len),(43,iv i)]++WF 47 t j) [UV 3 68 v.ag,(64,.au 75 1 (c.map eS))] m h})] [] [] false
def cGQ(N:Nat)(v:QV)(m:MH):=dD [(156,bCQ),(129,cYQ N),(157,cUZ)] [] [(7,{A:=Sl×Sl×Sl×PH,st:=λ⟨a,r,b,h⟩=>bO 45 47 [SW 2,(6,sv a),(7,sv r),(8,sv b)] [UV 2 68 v.ag] m h})] [] false
def dcZ:=WP [(130,bGX),(129,cYX)]
abbrev oM(a:Nat×Sl×Nat×tq×PH):=a.2.2
abbrev RX(a:tj->tj->Prop):=∃x c,a x c
abbrev RQ(a:QV)(b:Int)(c:Nat->Nat->QV->Prop):=aM (λx d=>aR a.args.a x d/\0<=b/\b<aF a.args/\∃e,c x d e)
abbrev vJ(a:Nat×Sl×Nat×PH):=a.2.2.1
abbrev oB(a:Nat×Sl×Nat×PH):=a.2.1
abbrev Am(a:Nat×Sl×Nat×PH):=a.2.2.2
attribute [push_cast] oM RX RQ vJ oB Am
def Wc v s t:=λm h K=>dJ (v.op==2) (MQ (λI x=>I x/\cR/\eL 31/\aH s/\aY s/\bB x.1/\eJ v/\Ab (pS x.2)/\gM m m h h) s m h (λI B x y=>NI (λz e p r=>sG v.ap y=sG z e/\fV h p z/\bF h e r/\branch (kA r p) (MP x (λd=>I d/\B d<B x/\cR/\eL 31/\aH s/\aY s/\fI (bA x.1 1)=bR d.1/\eJ v/\bX (cE 75 1 (iI (lX x.2) y)=pS d.2) m m h h)) (∃d,I d/\B d<B x/\cR/\eL 31/\aH s/\aY s/\fI (bA x.1 1)=bR d.1/\eJ v/\bX (DW x d) m m h h))) (λx=>bN h 1 (lX x.2) (λe f=>Cc e f K m))) (v.op==3) (lC (λe n=>∃l c,fG s v.aa=fG e n/\Rows h e l/\an h n c/\(∀r,vE r l (tD r c))/\iW c/\wO l/\rO h (AT (List.map (λr=>pick r c) l)) K m)) (dJ (v.op==4) (JW (λI x=>I x/\aH t/\eP 3/\eL 64/\aH s/\aY s/\bB x.1/\eJ v/\bX (Ab (pI x.2)) m m h (gG x)) (λI B x=>I x->aX x.1 (aF s) (ab s x.1 1 aT m (gG x) (λy=>∃(I1:Nat×Sl×Nat×tq×PH->Prop)(G:Nat×Sl×Nat×tq×PH->Nat),(∃d,I1 d/\aH t/\eP 3/\eL 64/\bC y d.2.1/\aH s/\aY s/\bP x.1 (oM d).1/\aH t/\aY t/\bB d.1/\eJ v/\bX (pI x.2=
 pI (oM d).2) m m (gG x) (gG (oM d)))/\∀d,I1 d->aX d.1 (aF t) (ab t d.1 1 aT m (gG (oM d)) (λA=>O7 (λL e n D=>HL (λa H=>∃r,bU v.on (bU d.2.1 (j8 A eE))=bU L (bU e (j8 n (AU r)))/\l9 (gG (oM d)) L D/\bF (gG (oM d)) e a/\bF (gG (oM d)) n H/\tD a (jI D)/\tD H (jF D)/\branch (Bool.and (ct D a H) (Bool.or (!r) (nO (jI D) a))) (nZ (λu E=>eO (tV d.2.1) (tV u)/\bF (gG (oM d)) u E/\jB E/\∃F,dA 3 F/\bT (gG (oM d)) (bK A)
 3 F/\lK (vF E) F 32/\cJ (lL (vF E) F)/\bN (gG (oM d)) 3 (vF E++F) (λM f=>lJ (u9 (oM d)) 24 (∃j,I1 j/\G j<G d/\aH t/\cR/\eL 64/\bC d.2.1 j.2.1/\aH s/\aY s/\bP (oM d).1 (oM j).1/\aH t/\aY t/\fI (bA d.1 1)=bR j.1/\eJ v/\cE 75 1 (iI (u9 (oM d)) M)=pI (oM j).2/\m=m/\f=gG (oM j)/\True)))) (∃j,I1 j/\G j<G d/\aH t/\cR/\eL 64/\bC d.2.1 j.2.1/\aH s/\aY s/\bP (oM d).1 (oM j).1/\aH t/\aY t/\fI (bA d.1 1)=bR j.1/\eJ v/\pI (oM d).2=pI (oM j).2/\m=m/\gG (oM d)=gG (oM j)/\True))))) (∃j,I j/\B j<B x/\aH t/\cR/\eL 64/\aH s/\aY s/\fI (bA (oM d).1 1)=bR j.1/\mP (eJ v) (pI (oM d).2=pI j.2) (m=m) (gG (oM d)=gG j)))) (bN (gG x) 1 (u9 x) (λe f=>Cc e f K m)))) (v.op==5) (O7 (λo e n C=>RX (λa b=>bU v.on (fG s t)=bU o (fG e n)/\l9 h o C/\Rows h e a/\Rows h n b/\(∀x,vE x a (tD x (jI C)))/\(∀y,vE y b (tD y (jF C)))/\wO a/\wO b/\jA (λu f=>cO h f (Rows f u (filter (λx=>List.any b (λy=>ct C x y)) a)) (Cc u f K m))))) (dJ (v.op==6) (∃y,wS (dA 1 y) (bT h (bK s) 1 y) (zA y 24) (cJ y.length) (λA=>dA 1 A/\bT h (bK t) 1 A/\lK y A 24/\cJ (lL y A)/\bN h 1 (y++A) (λe f=>Cc e f K m))) (v.op==7) (lC (λe n=>∃i,RX (λl k=>bU s (j8 t bH)=bU e (j8 n (AU i))/\Rows h e l/\Rows h n k/\iY k/\wO l/\jA (λu f=>cO h f (Rows f u (filter (λx=>Lq k x==i) l)) (Cc u f K m))))) (dJ (v.op==8) (lC (λe n=>∃i,RX (λl k=>bU s (j8 t eE)=bU e (j8 n (AU i))/\Rows h e l/\Rows h n k/\iY k/\wO l/\jA (λu f=>cO h f (Rows f u (filter (λx=>Lq k x==i) l)) (Cc u f K m))))) (v.op==9) (∃z:
 QV,lC (λe n=>O6 (λg o a=>∃b,bE v.ag (fG s s)=bE z.ag (fG e n)/\an h z.be g/\lF h z.bh o/\Rows h e a/\Rows h n b/\(∀x,vE x a (tD x g))/\(∀y,vE y b (tD y g))/\wO a/\wO b/\jA (λu f=>cO h f (Rows f u (zJ g o z.bg a b)) (Cc u f K m))))) (dP v.op 10 (∃z:QV,lC (λe n=>O6 (λg o a=>∃b,bE v.ag (fG s t)=bE z.ag (fG e n)/\an h z.be g/\lF h z.bh o/\Rows h e a/\Rows h n b/\(∀x,vE x a (tD x g))/\(∀y,vE y b (tD y g))/\wO a/\wO b/\jA (λu f=>cO h f (Rows f u (zJ g o z.bg a b)) (Cc u f K m))))) (IB (λe l=>
 Ex EO=mO e/\Rows h e l/\wO l/\(∀r,vE r l (jB r))/\rO h (AT l) K m))))))
def WB(N:Nat)(v:QV)(s:Sl):ST:=λm h K=>dP v.op 1 (aM (λb o=>aR s.a b o/\(0:Int)<=0/\0<aF s/\∃y,aK m h b (fJ o) (aT y)/\IB (λn l=>mO y=mO n/\Rows h n l/\wO l/\(∀r,vE r l (jB r))/\jA (λu d=>cO h d (Rows d u (AT l)) (bJ d b (fJ o) (aT y)/\dK 1/\1<=aF s/\tS s/\∀j,tJ 1 (bK s) 1 j->K (CV.dg (fG u j)) m d)))/\bJ h b (fJ o) (aT y)/\dK 1/\1<=aF s/\tS s/\∀n,tJ 1 (bK s) 1 n->IB (λu l=>mO y=mO u/\Rows h u l/\wO l/\(∀r,vE r l (jB r))/\jA (λj d=>cO h d (Rows d j (AT l)) (K (CV.dg (fG j n)) m d))))) (RQ v 0 (λb o y=>aK m h b (fJ o) y.ag/\J4 (λc E
 =>wN (λn q=>O8 (λu l=>∃k,j5 y s=j5 E n/\cQ h q E/\pR q N/\z8 c u q/\B4 u (dG c) l k (fP q)/\bm h n (List.drop k l)/\∀j,jA (λD d=>cO h d (Rows d j (fO l q k).1) (bm d D (List.drop (fO l q k).2 l)->∃I:Sl×Sl×Sl×PH->Prop,eH (aF v.args) 1 (RQ v 1 (λL M F=>aK m d L (M+21) F.ag/\J4 (λG f=>wN (λA g=>O8 (λB e=>∃C,j5 F D=j5 f A/\cQ d g f/\pR g N/\z8 G B g/\B4 B (dG G) e C (fP g)/\bm d A (List.drop C e)/\∀H,jA (λJ z=>cO d z (Rows z H (fO e g C).1) (bm z J (List.drop (fO e g C).2 e)->∃x,I x/\gZ/\bC j x.1/\bC J x.2.1/\bC H (sH x.2)/\eJ v/\m=m/\z=nJ x.2/\True))))))) (∃x,I x/\gZ/\bC j x.1/\bC D x.2.1/\qe=Zq (sH x.2)/\eJ v/\m=m/\d=nJ x.2/\True)/\∀x,I x->∃f,lC (λA t=>∃g e w,bE v.ag (fG x.1 (sH x.2))=bE f.ag (fG A t)/\cQ (nJ x.2) g f/\Rows (nJ x.2) A (D5 e 0)/\Rows (nJ x.2) t (D5 e 1)/\2<=f.op/\f.op<=10/\ckQ f.op g e/\lT w (ZK f.op g e)/\(f.op=6->(D5 e 0).length+(D5 e 1).length<=8000000)/\jA (λB z=>cO (nJ x.2) z (Rows z B (ZK f.op g e)) (K (CV.dg (fG B x.2.1)) m z))))))))))
def acZ(sl:Sl)(v:QV):ST:=λm h K=>xQ (λs g=>mQ (λj q=>bL (oL sl) v.ag=bL (oL s) j.ag/\tI h s g/\cQ h q j/\yS q/\(∀t,List.Mem t (fP q)->dK t/\t<g.length)/\jA (λn d=>cO h d (bm d n (rU g q)) (J4 (λc o=>wN (λu e=>O8 (λy l=>∃k,j5 v n=j5 o u/\cQ d e o/\z8 c y e/\B4 y (dG c) l k (fP e)/\bm d u (List.drop k l)/\∀z,jA (λA f=>cO d f (Rows f z (fO l e k).1) (bm f A (List.drop (fO l e k).2 l)->K (tV z) m f)))))))))
theorem cdJ{s r}(c:bF h s r):bT h s 3 (r.map VV.ag):=by
 obtain⟨⟨d,f,g,j⟩,n⟩:=c
 have e:d=r:=ext_getElem? λi=>by
  grind
 grind
theorem chQ{α s c}{l:List α}{R}(x:aU h 1 eS R s l){n}(g:tJ 1 ⟨s.a,s.len,s.cap⟩ n c)(j:n<=l.length):aU h 1 eS R c (l.drop n):=by
 obtain⟨⟨d,o,f,t⟩,u⟩:=x;refine⟨⟨d.drop n,by grind[map_drop,bT.low],by simp[f],λi y e=>?_⟩,cv⟩
 grind
theorem chX{α β ag}{R:α->β->Prop}{s l}(x:aU h sz ag R s l):s.len<=s.cap:=by
 obtain⟨⟨d,c,_⟩,_⟩:=x;exact c.cap
theorem bOQ{on x y}(h:ct on x y=true):nO (jF on) y=nO (jI on) x:=by
 grind[nO,Ek]
theorem aLZ{on b x}:mC on b x=(b.filter λy=>ct on x y&&nO (jI on) x).map (x++ ·):=by
 unfold mC;by_cases h:nO (jI on) x=true
 .rw[if_pos h];congr 1;refine filter_congr λy _=>?_;rw[h,Bool.and_true]
  grind[ct,bOQ]
 simp_all
theorem a7Q:uz 157 cUZ:=by
 refine gV func157 ?_;rintro d0 m h K⟨v,s,t,q,l,w,rfl,hq,I,Z,o2,b7,o,H,h6,hK⟩;refine⟨cBX v s t m h,rfl,aD a0Q (aD aZJ (aD TC (aD aOX (aD aZZ (aD aZX (aD aZQ (aD Lv aG))))))),Wc v s t,bt,?_⟩;dsimp only[Wc,push_cast];obtain⟨op,ta,pw,co,on,gr,od,li,args⟩:=q;have x:=hq.parts;have b8:v.op=op:=x.jp;rw[b8]at o2 b7 o H hK h6;have S:=aU.e I;have a5:=aU.e Z
 have du:∀(A:Sl)(n:PH)(l1:tj),PH.le h n->Rows n A l1->AT l1=ZK op (.mk op ta pw co on gr od li args) l->l1.length<=8000000->(∀r∈l1,r.length<=1000)->∃(O:Sl)(T:tj),[cS A]=[cS O]/\Rows n O T/\T.length<=8000000/\(∀r∈T,r.length<=1000)/\∀(s':Sl)(D:PH),PH.le n D->Rows D s' (AT T)->K (cS s') m D:=
  λA n l1 le u e hl hw=>⟨A,l1,rfl,u,hl,hw,λs' D B a6=>hK s' D (le.trans B) da⟩
 have d:∀(A:Sl)(n:PH),PH.le h n->Rows n A (ZK op (.mk op ta pw co on gr od li args) l)->∃(O:Sl)(T:tj),[cS A]=[cS O]/\Rows n O T/\T.length<=8000000/\(∀r∈T,r.length<=1000)/\∀(s':Sl)(D:PH),PH.le n D->Rows D s' (AT T)->K (cS s') m D:=
  λA n le u=>du A n _ le u (OO H.jw) H.len (λr u=>by have:=(H.row r u).len;omega)
 refine aB (λe=>?_) (λn2=>aB (λe=>?_) (λn3=>aB (λe=>?_) (λn4=>aB (λe=>?_) (λn5=>aB (λe=>?_) (λn6=>aB (λe=>?_) (λn7=>aB (λe=>?_) (λn8=>aB (λe=>?_) (λn9=>aB (λe=>?_) (λd1=>?_)))))))))
 .have e:op=2:=da
  subst e;have⟨n,D⟩:=(o:H6 1 _ l)
  have⟨w0,f⟩:=D _ (si (C9 n));generalize ha:l.getD 0 []=a at I S f;have hf:ZK 2 (.mk 2 ta pw co on gr od li args) l=a.filter λr=>kA r pw:=by rw[<-ha];rfl
  rw[hf]at d;refine⟨λz=>z.1<=a.length/\eN h z.2 ((a.take z.1).filter λr=>kA r pw),λz=>a.length-z.1,⟨(0,[]),⟨bu,by grind[eN.nil]⟩,MT⟩,?_⟩;rintro⟨i,U⟩⟨hi,J⟩;dsimp only at hi J;dsimp only;have a7:=J.len;have V:=length_filter_le (λr=>kA r pw) (a.take i);rw[length_take]at V;have b9:=f.len;refine aE (λP=>?_) (λc'=>?_)
  .have⟨r,E⟩:=eF S P;have⟨b1,o1,Q,e1,a3,W⟩:=aU.at I E;have X:a.take (i+1)=a.take i++[r]:=by grind[sy]
   rw[fH aC];refine⟨b1,o1,e1,aC,P,Q,.ay a3,v.ap,Q,pw,r,rfl,x.ap,W,aB (λe=>?_) (λe=>?_)⟩
   .exact⟨da,da,(i+1,U++[Q]),⟨aC,by dsimp only;rw[X,filter_append,filter_cons_of_pos (by exact e),filter_nil];exact J.cw W⟩,aC,by rw[sn];exact MT⟩
   .exact⟨(i+1,U),⟨aC,da⟩,aC,MT⟩
  .rw[sm aC]at J
   exactλA n c F=>d A n c ((J.mono c).rows F da)
 .have e:op=3:=da
  subst e;have⟨n,d2,w0,f,hc⟩:=(o:O1 (.mk 3 ta pw co on gr od li args) l)
  exact⟨s,v.aa,_,co,rfl,I,x.aw,λr u=>by rw[f.gi r u];exact hc,aC,f.len,hK⟩
 .have e:op=4:=da
  subst e;have⟨⟨D,w0,w1,f,M,Y,c1⟩,R⟩:=(o:O2 (.mk 4 ta pw co on gr od li args) l)
  generalize ha:l.getD 0 []=a at I S f R;generalize hb:l.getD 1 []=b at Z a5 M R;have hf:ZK 4 (.mk 4 ta pw co on gr od li args) l=a.flatMap (mC on b):=by rw[<-ha,<-hb];rfl
  rw[hf]at d;have b9:=f.len;have d3:=M.len;refine⟨λz=>z.1<=a.length/\PH.le h z.2.2/\eN z.2.2 z.2.1 ((a.take z.1).flatMap (mC on b)),λz=>a.length-z.1,⟨(0,[],h),⟨bu,.refl _,by grind[eN.nil]⟩,MT⟩,?_⟩;rintro⟨i,U,g1⟩⟨hi,c,J⟩;dsimp only at hi c J;dsimp only;have a7:=J.len;have V:((a.take i).flatMap (mC on b)).length<=(a.take i).length*b.length:=AP λx _=>CP;have c9:(a.take i).length*b.length<=a.length*b.length:=Nat.mul_le_mul_right _ da;refine aE (λP=>?_) (λc'=>?_)
  .have⟨r,E⟩:=eF S P;have a8:=si E;have⟨b1,o1,Q,e1,a3,W⟩:=aU.at I E
   have X:(a.take (i+1)).flatMap (mC on b)=(a.take i).flatMap (mC on b)++mC on b r:=by
    rw[sy,E,Option.toList_some,flatMap_append,flatMap_singleton]
   generalize c2:(a.take i).flatMap (mC on b)=a9 at J a7 V X;refine⟨b1,o1,e1,aC,P,Q,.ay (a3.mono c),λz=>z.1<=b.length/\∃C g,z.2=(Q,i,C,g)/\PH.le g1 g/\eN g C (a9++((b.take z.1).filter λy=>ct on r y&&nO (jI on) r).map (r++ ·)),λz=>b.length-z.1,⟨(0,Q,i,U,g1),⟨bu,U,g1,rfl,.refl _,da⟩,MT⟩,?_⟩;rintro⟨j,z⟩⟨hj,C,g,e,B,G⟩;dsimp only at hj e G;subst e;dsimp only;have b':=G.len;rw[sj,length_map]at b';have b0:=length_filter_le (λy=>ct on r y&&nO (jI on) r) (b.take j);rw[length_take]at b0;refine aE (λa'=>?_) (λd'=>?_)
   .have⟨y,hy⟩:=eF a5 a';have b3:=si hy;have⟨b2,c3,uy,e2,c4,c5⟩:=aU.at Z hy;have L:=c.trans B;have a0:=bF.mono W L;have a1:=bF.mono c5 L;have lx:=(f.row r a8).len;have ly:=(M.row y b3).len;have b4:b.take (j+1)=b.take j++[y]:=by grind[sy]
    have mu:b.length-(j+1)<b.length-j:=by omega
    rw[fH aC];refine⟨b2,c3,e2,aC,a',uy,.ay (c4.mono L),v.on,Q,uy,on,r,y,true,rfl,x.ez.mono L,a0,a1,by rw[f.gi r a8];exact Y,by rw[M.gi y b3];exact c1,aB (λe=>?_) (λe=>?_)⟩
    .have e:(ct on r y&&nO (jI on) r)=true:=e;refine⟨Q,r,rfl,a0,aC,y.map VV.ag,A2 y,cdJ a1,da,da,λs3 g3 b5 F=>⟨da,da,(j+1,Q,i,C++[s3],g3),⟨aC,C++[s3],g3,rfl,B.trans b5,?_⟩,mu,by rw[sn];exact MT⟩⟩;dsimp only;rw[b4,filter_append,filter_cons_of_pos (by exact e),filter_nil,sn,map_singleton,<-append_assoc];exact(G.mono b5).cw (UK da da)
    .have e:(ct on r y&&nO (jI on) r)=false:=e;exact⟨(j+1,Q,i,C,g),⟨aC,C,g,rfl,B,da⟩,mu,MT⟩
   .rw[sm aC,<-aLZ,<-X]at G;rw[fH aC];exact⟨(i+1,C,g),⟨aC,c.trans B,G⟩,aC,MT⟩
  .rw[sm aC]at J V
   exactλA n B F=>d A n (c.trans B) ((J.mono B).rows F aC)
 .have e:op=5:=da
  subst e;have⟨D,w0,w1,f,M,Y,c1⟩:=(o:dLX on l)
  exact⟨v.on,s,t,on,_,_,rfl,x.ez,I,Z,λx E=>by rw[f.gi x E];exact Y,λy hy=>by rw[M.gi y hy];exact c1,f.len,M.len,d⟩
 .have e:op=6:=da
  subst e;have⟨D,a2⟩:=(o:H6 2 _ l)
  have⟨w0,f⟩:=a2 _ (si (C9 (show 0<l.length by omega)));have⟨w1,M⟩:=a2 _ (si (C9 (show 1<l.length by omega)));have h6:=h6 rfl;obtain⟨⟨U,u,c6,c7⟩,hn⟩:=I;obtain⟨⟨a4,a6,c8,b6⟩,d4⟩:=Z;have J:eN h U (l.getD 0 []):=⟨c6.symm,c7⟩
  have G:eN h a4 (l.getD 1 []):=⟨c8.symm,b6⟩
  refine⟨U.map eS,qS U,u,da,da,a4.map eS,qS a4,a6,da,da,λA n c F=>?_⟩;rw[<-sn]at F
  exact du A n _ c (((J.jm G).mono c).rows F da) rfl da λr u=>by
   rcases mem_append.1 u with u|u
   .have:=(f.row r u).len;omega
   .have:=(M.row r u).len;omega
 .have e:op=7:=da
  subst e;have⟨D,w0,f⟩:=(o:CZ (.mk 7 ta pw co on gr od li args) l)
  have ra:=f _ (si (C9 (show 0<l.length by omega)));have rb:=f _ (si (C9 (show 1<l.length by omega)));exact⟨s,t,false,_,_,rfl,I,Z,rb.jw,ra.len,d⟩
 .have e:op=8:=da
  subst e;have⟨D,w0,f⟩:=(o:CZ (.mk 8 ta pw co on gr od li args) l)
  have ra:=f _ (si (C9 (show 0<l.length by omega)));have rb:=f _ (si (C9 (show 1<l.length by omega)));exact⟨s,t,true,_,_,rfl,I,Z,rb.jw,ra.len,d⟩
 .have e:op=9:=da
  subst e;have⟨n,⟨w0,f,Y⟩,_⟩:=(o:O0 (.mk 9 ta pw co on gr od li args) l)
  refine⟨v,s,s,gr,od,_,_,rfl,x.az,x.bd,I,I,λx E=>by rw[f.gi x E];exact Y,λx E=>by rw[f.gi x E];exact Y,f.len,f.len,λA n c u=>d A n c ?_⟩;rw[x.dm]at u;exact u
 .have e:op=10:=da
  subst e;have⟨n,w0,f,M,Y⟩:=(o:Gm (.mk 10 ta pw co on gr od li args) l)
  refine⟨v,s,t,gr,od,_,_,rfl,x.az,x.bd,I,Z,λx E=>by rw[f.gi x E];exact Y,λx E=>by rw[M.gi x E];exact Y,f.len,M.len,λA n c u=>d A n c ?_⟩;rw[x.dm]at u;exact u
 grind
theorem atQ:∀N,uz 129 (cYQ N)
 |0=>by
  refine gV func129 ?_;rintro a' m h K⟨cN,v,s,q,sc,ls,k,rfl,_,hN,_⟩;omega
 |N+1=>by
  refine gV func129 ?_;rintro a' m h K⟨cN,v,s,q,sc,ls,k,rfl,hq,hN,g,D,V,F⟩;refine⟨cGQ N v m,rfl,aD Lv (aD (atQ N) (aD a7Q aG)),WB N v s,bt,?_⟩;dsimp only[WB,push_cast];have f:=@vV q;obtain⟨op,ta,pw,co,on,gr,od,li,args⟩:=q;have x:=hq.parts;have I:v.op=op:=x.jp;have E:=IV aC g.k D g.rn;have a4:=aU.e x.bf;have d:∀{Y Z:PH}{u:Sl}{l:List tj},PH.le Y Z->bm Y u l->bm Z u l:=λle C=>aU.mono C le λl s y=>aU.mono y le λr t hv=>bF.mono hv le;have J:∀{Y Z:PH}{u:Sl}{l:tj},PH.le Y Z->Rows Y u l->Rows Z u l:=λle C=>aU.mono C le λr t hv=>bF.mono hv le;rcases g.cases with⟨rfl,rfl⟩|⟨a,rfl,L,hc⟩|⟨a,b,rfl,L,gb,hc⟩
  .have es:fP (.mk 1 ta pw co on gr od li [])=[ta]:=by simp[fP,fE]
   rw[es]at D;have⟨l,e1,r1,_⟩:=D.y 0 ta rfl;rw[Nat.add_zero]at e1;have a5:=(sg e1);have ed:(ls.drop k)[0]?=some l:=da
   have⟨b,o,u,ea,rd,C⟩:=aU.at V ed;have a0:=aU.e V;rw[length_drop]at a0;have rd:bJ h b (o+0) (eS u):=by omega
   have G:=chX V;have wl:∀r∈l,r.length<=1000:=λr y=>by have:=(r1.row r y).len;omega
   have ev:fO ls (.mk 1 ta pw co on gr od li []) k=(l,k+1):=by rw[fO,if_pos rfl,getD_eq_getElem?_getD,e1];rfl
   rw[ev]at F
   have low:∀n,tJ 1 ⟨s.a,s.len,s.cap⟩ 1 n->bm h n (ls.drop (k+1)):=λn l2=>by
    have:=chQ V l2 da;rw[drop_drop]at this;exact this
   refine aB (λ_=>?_) (λe=>by rw[I]at e;simp at e);refine⟨b,o,ea,aC,aC,u,.ay rd,⟨u,l,rfl,C,r1.len,wl,λM h' le y=>⟨rd.mono le,aC,aC,G,λn l2=>F M n h' le (by rw[OO r1.jw]at y;exact y) (d le (low n l2))⟩⟩,rd,aC,aC,G,λn l2=>⟨u,l,rfl,C,r1.len,wl,λM h' le y=>F M n h' le (by rw[OO r1.jw]at y;exact y) (d le (low n l2))⟩⟩
  .have O:op≠1:=by omega
   have A:=UQ (ta:=ta) (w:=pw) (co:=co) (on:=on) (gr:=gr) (od:=od) (li:=li) (a:=a) O;rw[A]at D;have nx:(fO ls (.mk op ta pw co on gr od li [a]) k).2=(fO ls a k).2:=by rw[FP _ k g,FP _ k L,A]
   have eo:=E.ok;rw[nf,if_neg O,gJ,gJ]at eo;have er:=E.rel;rw[dQZ O]at F er;rw[nx]at F;have⟨b1,o1,u,ea,rd,C⟩:=aU.at x.bf (i:=0) rfl;have:=f (q:=a) (by simp[ae.args]);refine aB (λe=>da) (λ_=>⟨b1,o1,ea,aC,da,u,.ay aC,cN,u,s,a,sc,ls,k,rfl,C,aC,L,D,V,λs1 n h1 j P Q=>⟨λz=>z=(s1,n,bS,h1),aE (λe=>absurd e da) (λ_=>⟨_,rfl,MT⟩),?_⟩⟩);rintro _ rfl;dsimp only;refine⟨v,s1,bS,_,[(fO ls a k).1],_,rfl,hq.mono j,P,aU.nil _ _ _ _,aC,aC,da,by rw[I];exact er,λe=>by omega,λM h' le y=>F M n h' (j.trans le) da (d le Q)⟩
  .have O:op≠1:=by omega
   have A:=UP (ta:=ta) (w:=pw) (co:=co) (on:=on) (gr:=gr) (od:=od) (li:=li) (a:=a) (b:=b) O;rw[A]at D;have na:=FP (ls:=ls) a k L;have R:=D.right;rw[<-na]at R;have nx:(fO ls (.mk op ta pw co on gr od li [a,b]) k).2=(fO ls b (fO ls a k).2).2:=by rw[FP _ k g,FP _ _ gb,na,A,sj,Nat.add_assoc]
   have eo:=E.ok;rw[nf,if_neg O,gJ,gJ,gJ]at eo;have er:=E.rel;rw[dQX O]at F er;rw[nx]at F;have Ea:=IV aC L.k D.left L.rn;have Eb:=IV aC gb.k R gb.rn;have H:=g.rn;have⟨b1,o1,u,ea,rd,C⟩:=aU.at x.bf (i:=0) rfl;have⟨b2,o2,u2,a1,a2,a3⟩:=aU.at x.bf (i:=1) rfl;have:=f (q:=a) (by simp[ae.args]);have:=f (q:=b) (by simp[ae.args]);refine aB (λe=>da) (λ_=>⟨b1,o1,ea,aC,da,u,.ay aC,cN,u,s,a,sc,ls,k,rfl,C,aC,L,D.left,V,λs1 n h1 j P Q=>⟨λz=>∃W X S,z=(s1,X,W,S)/\PH.le h1 S/\Rows S W (fO ls b (fO ls a k).2).1/\bm S X (ls.drop (fO ls b (fO ls a k).2).2),aE (λ_=>⟨b2,o2,a1,aC,aC,u2,.ay (mp (a2.mono j)),cN,u2,n,b,sc,ls,_,rfl,a3.mono j,aC,gb,R,Q,λW X S B T U=>⟨_,⟨W,X,S,rfl,B,T,U⟩,MT⟩⟩) (λe=>absurd da e),?_⟩⟩);rintro _⟨W,X,S,rfl,B,T,U⟩;dsimp only;refine⟨v,s1,W,_,[(fO ls a k).1,(fO ls b (fO ls a k).2).1],_,rfl,hq.mono (j.trans B),J B P,T,aC,aC,da,by rw[I];exact er,λe=>?_,λM h' le y=>F M X h' (j.trans (B.trans le)) da (d le U)⟩;have e:op=6:=by omega
   subst e;have h1:=Ea.rn;have h2:=Eb.rn;simp only[rE,BF]at H;rw[if_neg bx,if_neg bx]at H;show(fO ls a k).1.length+(fO ls b (fO ls a k).2).1.length<=8000000;omega
theorem bbJ:uz 129 cYX:=jL atQ λ_ _ _ _⟨cN,v,s,q,sc,c,k,e,d,f,g,j,n⟩=>⟨SizeOf.sizeOf q+1,cN,v,s,q,sc,c,k,e,d,aC,f,g,j,n⟩
theorem bUX:uz 88 bHX:=by
 refine gV func88 ?_;rintro B m h K⟨cN,u,v,y,q,sc,rfl,c,z,g,C,n,D,E⟩;refine⟨dcZ,rfl,aD bbZ (aD bbJ aG),acZ u v,bt,?_⟩;dsimp only[acZ,push_cast];have⟨_,F,_,_⟩:=Sk n;have d:=Mf g.k;have A:=XI n c.val D aC (Prod.ext rfl g.kinds:cX sc [] q=((cX sc [] q).1,0)) g.rn;refine⟨u,y,v,q,rfl,c,z,C,λt f=>by have:=d t f;omega,λG h' le H=>⟨cN,v,G,q,sc,rU y q,0,rfl,z.mono le,g,⟨λj t e=>?_⟩,H,λI L J o M _=>E I J (le.trans o) da⟩⟩;have f:=d t (si e);have:=cfX n c.val f.1 f.2;simp_all[Nat.zero_add,aKZ]
def cSJ:AC:=λc m h K=>∃sc p r v s ps rs u,c=[aS sc,KI p r,dCX v]/\dV h s sc/\iB h p r ps rs/\OC h u v/\dO s=0/\∀h',PH.le h h'->K (cI (iM s ps u)) m h'
def jH s ps rs vs:=if qU s ps rs≠0 then qU s ps rs else if lH ps vs=true then 0 else 1
def YW:AC:=λc m h K=>∃sc p r pv s ps rs d,c=[aS sc,KI p r,cS pv]/\dV h s sc/\iB h p r ps rs/\bF h pv d/\∀h',PH.le h h'->K (cI (jH s ps rs d)) m h'
def YU:AC:=λd m h K=>∃sc v s c,d=[aS sc,Yx v]/\dV h s sc/\AW h c v/\c.bj.length<=1000/\c.new.length<=1000/\∀e h',PH.le h h'->bF h' e (kK s c)->K (cS e) m h'
def bIQ:AC:=λc m h K=>∃s d,c=[KH s]/\bm h s d/\d.length<=1000/\K (cI (dQ d)) m h
def dbJ(sc:bQ)(p r:Sl)(v:dL)(m:MH)(h:PH):=dD [(27,uW),(57,Qh),(132,CU)]
 [(4,{A:=Nat,st:=λi=>bO 95 98 ([SW 3,SW 4,SW 5]++WF 33 v.aa i) [UV 3 29 sc.ag,(4,.cells 34 [.val (.slice p.a p.len p.cap),.val (.slice r.a r.len r.cap)]),UV 5 70 v.ag] m h})]
 [(3,{A:=Unit,st:=λ_=>bO 95 98 [SW 3,SW 4,SW 5] [UV 3 29 sc.ag,(4,.cells 34 [.val (.slice p.a p.len p.cap),.val (.slice r.a r.len r.cap)]),UV 5 70 v.ag] m h})] [] false
def djZ(sc:bQ)(p r:Sl):=dD [(58,yY),(59,Qg),(92,cSJ)]
 [(9,{A:=Nat×MH×PH,st:=λ⟨i,m,h⟩=>bO 43 45 ([SW 2,SW 3]++WF 29 r i) [UV 2 29 sc.ag,(3,.cells 34 [.val (.slice p.a p.len p.cap),.val (.slice r.a r.len r.cap)])] m h})] [] [] false
def dpQ(p r pv:Sl):=dD [(49,KG),(50,K5)]
 [(7,{A:=Nat×MH×PH,st:=λ⟨i,m,h⟩=>bO 43 46 ([SW 4]++WF 22 pv i) [(4,.cells 34 [.val (.slice p.a p.len p.cap),.val (.slice r.a r.len r.cap)])] m h})] [] [] false
def ddQ s m h:=dD [] [(3,{A:=Nat×Int,st:=λ⟨i,n⟩=>bO 19 20 ([(3,iv n)]++WF 7 s i) [] m h})] [] [] false
def abJ(sc:bQ)(p r:Sl)(v:dL):ST:=λm h K=>let N:=aW sc/\lV p r/\eQ (oQ 70 (Bm v))/\m=m/\dC h h;Fb (λI=>let O:=aX v.ah 0 (K (fD 160) m h) (iA v.ah (iS sc) (K (fD 160) m h) (∃x,I x/\cR/\eP 4/\bY/\N));cM v.kind 1 (cM v.kind 2 (K (fD 160) m h) O) O) (mF (λI x=>I x/\cR/\eP 4/\bY/\aH v.aa/\aY v.aa/\bB x/\aW sc/\mP (lV p r) (eQ (oQ 70 (Bm v))) (m=m) (h=h)) (λI e x=>I x->aX x (aF v.aa) (ab v.aa x 1 bV m h (λy=>aM (λj n=>aR (kI sc) j n/\0<=v.ah/\v.ah<aF sc.c/\∃u,aK m h j (dN n v.ah 5+2) (bV u)/\aX y u (K (fD 160) m h) (aM (λz A=>aR (kI sc) z A/\0<=v.ah/\v.ah<aF sc.c/\∃B,let P:=∃c,I c/\e c<e x/\cR/\eZ/\bY/\aH v.aa/\aY v.aa/\fI (bA x 1)=bR c/\N;aK m h z (dG (dN A v.ah 5)) (aT B)/\wQ (decide (y>=aF B)) (K (fD 160) m h) x 0 (ab v.aa (jZ x) 1 bV m h (λE=>iA E y (K (fD 160) m h) P)) P))))) (Fa sc p v.av h (λs F q L g=>cM (A5 s F q) 0 (K (.val (pW (A5 s F q))) m g) (CN (λG f=>∃t H,dZ (jS sc) v.ah=yR G t/\dV g f G/\pE f/\Br f t H/\jP (H.aa=[])/\jA (λJ d=>cO g d (an d J (kX f t)) (E8 L J d (λM=>cC M (K (fD 160) m d) (K (fD 0) m d))))))))))
def ahX(sc:bQ)(p r:Sl):ST:=λm h K=>Dx sc h (λs=>wQ (dO s !=0) (K (fD (dO s)) m h) (aF r) 16 (K (fD 2) m h) (eH (aF p) 8 (K (fD 2) m h) (Dw p h (λl=>cC (Es l) (K (fD 160) m h) (DT (λI x=>I x/\gZ/\eP 3/\aH r/\aY r/\bB x.1/\aW sc/\lV p r/\eV (fK m x) (dH h x.2)) (λI f x=>I x->aX x.1 (aF r) (ab r x.1 24 (λy=>Cs y (Cr y)) (cA x) (bW x) (λy=>CD (λg j n=>∃v,IA (λd e z=>∃u,bE (cW sc) (bL (mX (gI p r)) (Cs y (Cr y)))=bE (cW g) (bL (mX (gI j n)) (Cs v (Cr v)))/\dV (bW x) d g/\iB (bW x) j n e z/\OC (bW x) u v/\HI d/\Cf (bW x) (λt=>cM (iM d e u) 0 (K (fD (iM d e u)) (cA x) t) (∃c,I c/\f c<f x/\gZ/\cR/\aH r/\aY r/\fI (bA x.1 1)=bR c.1/\aW sc/\kO (lV p r) (fK (cA x) c) (dH t c.2))))))) (K (fD 0) (cA x) (bW x))))))))
def aoQ(sc:bQ)(p r pv:Sl):ST:=λm h K=>CD (λs j n=>IA (λd e f=>bL (jS sc) (gI p r)=bL (jS s) (gI j n)/\dV h d s/\iB h j n e f/\Cf h (λg=>dJ (qU d e f !=0) (K (fD (qU d e f)) m g) (aF pv !=aF p) (K (fD 1) m g) (DT (λI x=>I x/\eZ/\aH pv/\aY pv/\bB x.1/\lV p r/\fK m x/\dH g x.2/\True) (λI t x=>I x->aX x.1 (aF pv) (ab pv x.1 3 VV.ag (cA x) (bW x) (λy=>∃v,eO (iE y) (iE v)/\cC (kF v) (K (fD 1) (cA x) (bW x)) (ab p x.1 1 bV (cA x) (bW x) (λA=>
 cM y.kind A (K (fD 1) (cA x) (bW x)) (∃c,I c/\t c<t x/\eZ/\aH pv/\aY pv/\fI (bA x.1 1)=bR c.1/\lV p r/\fK (cA x) c/\fQ (bW x) c.2))))) (K (fD 0) (cA x) (bW x)))))))
def aiQ(sc:bQ)(v:eG):ST:=λm h K=>eH (aF v.bj) 0 (yI sc (iV v.ah v.bj) h (λs c=>K (tV s) m c)) (yI sc (iV v.ah v.new) h (λs c=>K (tV s) m c))
def adQ(s:Sl):ST:=λm h K=>RH (λI x=>I x/\cG 0 x.2/\aH s/\aY s/\bX (bB x.1) m m h h) (λI d x=>I x->aX x.1 (aF s) (ab s x.1 1 aT m h (λy=>∃c,I c/\d c<d x/\cG (j6 x.2 (aF y)) c.2/\aH s/\aY s/\fI (bA x.1 1)=bR c.1/\m=m/\h=h/\True)) (K (fD x.2) m h))
theorem bUJ:uz 86 bIQ:=by
 refine gV func86 ?_;rintro y m h K⟨s,c,rfl,f,I,A⟩;refine⟨ddQ s m h,rfl,aG,adQ s,bt,?_⟩;dsimp only[adQ,push_cast];have g:=aU.e f;refine⟨λz=>z.1<=c.length/\z.2=dQ (c.take z.1),λz=>c.length-z.1,⟨(0,0),⟨bu,by simp[dQ]⟩,MT⟩,?_⟩;rintro⟨i,n⟩⟨B,e⟩;dsimp only at B e⊢
 subst e;refine aE (λj=>?_) (λC=>?_)
 .have⟨l,d⟩:=eF g j;have⟨b,o,u,D,rd,E⟩:=aU.at f d;have t:=aU.e E;have F:=uT (l:=c.take (i+1)) λx d=>f.lens (mem_of_mem_take d);have G:=(uT (l:=c.take i) λx d=>f.lens (mem_of_mem_take d)).1;have H:=HW d;rw[length_take]at F;refine⟨b,o,D,aC,aC,u,.ay rd,(i+1,dQ (c.take (i+1))),⟨aC,rfl⟩,aC,?_⟩;rw[dW aC aC,t,<-H];exact MT
 .rw[sm aC];exact A
theorem Vq:uz 46 YU:=by
 refine gV func46 ?_;rintro n m h K⟨sc,v,s,c,rfl,g,d,o,t,j⟩;refine⟨WP [(24,Rc)],rfl,aD BY aG,aiQ sc v,bt,?_⟩;dsimp only[aiQ,push_cast];have u:=aU.e d.ib;refine aE (λa=>⟨sc,s,v.ah,v.bj,c.bj,rfl,g,d.ib,o,λe h' le f=>j e h' le ?_⟩) (λa=>⟨sc,s,v.ah,v.new,c.new,rfl,g,d.gj,t,λe h' le f=>j e h' le ?_⟩)
 .rw[kK,if_pos aC,<-d.ir];exact f
 .rw[kK,if_neg aC,<-d.ir];exact f
def H5(k:Int)(cs:ti)(i:Nat):=if 0<i then cs.getD (i-1) 0 else k-1
theorem bTJ:uz 92 cSJ:=by
 refine gV func92 ?_;rintro a7 m h K⟨sc,p,r,v,s,ps,rs,u,rfl,H,hp,hr,h0,O⟩;refine⟨dbJ sc p r v m h,rfl,aD Kl (aD kg (aD TE aG)),abJ sc p r v,bt,?_⟩;dsimp only[abJ,push_cast];have hl:=H.c.e;obtain⟨e1,R,I,S⟩:=hr;have z:nL s u=false->K (cI 160) m h:=λe=>by have:=O h (.refl _);simp_all[iM]
 refine⟨λ_=>(u.kind=1\/u.kind=2)/\0<=u.ah/\u.ah<s.c.length,?_,?_⟩
 .have n:(u.kind=1\/u.kind=2)->branch (decide (v.ah<0)) (K (cI 160) m h) (branch (decide (v.ah>=(sc.c.len:Int))) (K (cI 160) m h) (∃x:Unit,((u.kind=1\/u.kind=2)/\0<=u.ah/\u.ah<s.c.length)/\True)):=λJ=>aE (λa=>z (by simp_all[nL,jE,decide_eq_false,Bool.false_and,Bool.and_false])) (λa=>aE (λb=>z (by simp_all[nL,jE,decide_eq_false,Bool.and_false])) (λb=>⟨(),⟨J,aC,aC⟩,trivial⟩))
  have A:∀{P Q:Prop},(P->Q)->branch (decide (v.ah<0)) (K (cI 160) m h) (branch (decide (v.ah>=(sc.c.len:Int))) (K (cI 160) m h) P)->branch (decide (v.ah<0)) (K (cI 160) m h) (branch (decide (v.ah>=(sc.c.len:Int))) (K (cI 160) m h) Q):=λf hb=>by
   revert hb;cases decide (v.ah<0)<;>cases decide (v.ah>=(sc.c.len:Int))<;>first|exact f|exact id
  refine aB (λk1=>aB (λk2=>z ?_) (λk2=>A (λ⟨x,B,_⟩=>⟨x,B,MT⟩) (n (Or.inr ?_)))) (λk1=>A (λ⟨x,B,_⟩=>⟨x,B,MT⟩) (n (Or.inl ?_)))
  .simp_all[nL,bne_iff_ne]
  .grind
  grind
 rintro _⟨J,a1,a2⟩;have J:(u.kind==1||u.kind==2)=true:=mp J
 have⟨x,b,o,w,B,ea,rd,hw⟩:=H.ah (t:=u.ah) aC aC;have a8:=aU.e hw.aa;have xk:=(Me h0).2.2.1 _ x B;have a5:=hw.key;have T:=I.e;have a6:=I.len
 have C:nL s u=kT x.aa.length (x.key-1) u.ak:=by
  simp_all[nL,jE,decide_eq_true,Bool.true_and]
 refine⟨λi=>i<=u.ak.length/\kT x.aa.length (x.key-1) u.ak=kT x.aa.length (H5 x.key u.ak i) (u.ak.drop i)/\x.key-1<=H5 x.key u.ak i,λi=>u.ak.length-i,⟨0,⟨bu,by rw[drop_zero];rfl,by simp[H5]⟩,MT⟩,?_⟩;rintro i⟨hi,g,a9⟩;refine aE (λD=>?_) (λb'=>?_)
 .have⟨c,E⟩:=eF T D;have⟨b1,o1,U,V⟩:=I.im E;rw[ci E]at g
  have step:H5 x.key u.ak (i+1)=c:=by
   simp_all[H5,getD_eq_getElem?_getD]
  have d:H5 x.key u.ak i<c->c<x.aa.length->(i+1<=u.ak.length/\kT x.aa.length (x.key-1) u.ak=kT x.aa.length (H5 x.key u.ak (i+1)) (u.ak.drop (i+1))/\x.key-1<=H5 x.key u.ak (i+1)):=λg1 g2=>⟨aC,by grind[kT],by rw[step];omega⟩
  refine⟨b1,o1,U,aC,D,c,.ay V,b,o,ea,aC,aC,w.key,by rw[R];exact .ay (bJ.part rd 2 1),aE (λj=>z ?_) (λj=>⟨b,o,ea,aC,aC,w.aa,by rw[R];exact .ay (bJ.part rd 1 1),aE (λL=>z ?_) (λL=>aE (λc3=>?_) (λc3=>⟨i+1,d ?_ aC,da,MT⟩))⟩)⟩
  .grind[kT,H5]
  .grind[kT]
  .obtain⟨M,W⟩:∃M,u.ak[i-1]?=some M:=⟨_,sh aC⟩
   have b0:H5 x.key u.ak i=M:=by
    simp_all[H5,getD_eq_getElem?_getD]
   have⟨b2,o2,X,b3⟩:=I.im W;have Y:IntKind.i64.wrap ((i:Int)-1)=((i-1:Nat):Int):=by grind[dW]
   rw[Y];refine⟨b2,o2,X,aC,aC,M,.ay da,aE (λc4=>z ?_) (λc4=>⟨i+1,d aC aC,da,MT⟩)⟩
   grind[kT,H5]
  .have:i=0:=by omega
   subst this;show x.key-1<c;omega
 have:i=u.ak.length:=by omega
 subst this;have F:nL s u=true:=by rw[C,g,drop_length];rfl
 have⟨t,et⟩:=Int.eq_ofNat_of_zero_le a1;have Z:s.c[t]?=some x:=da
 have a':x.aa≠[]:=λe=>by
  obtain⟨y0,y1,y2,_⟩:=xk
  grind
 refine⟨sc,p,v.av,s,ps,u.av,rfl,H,hp.params,S,λsl h1 y a0=>aB (λj=>?_) (λj=>⟨sc,s,t,x,by rw[R,et],H.mono y,BK h0,Z,a',λa3 h2 G a4=>⟨sl,a3,_,_,rfl,a0.mono G,a4,λq S=>aB (λL=>?_) (λL=>?_)⟩⟩)⟩
 .have j:(iG s ps u.av).2≠0:=mp j
  have:=O h1 y;simp only[iM,F,Bool.true_eq_false,if_false,if_pos j]at this;exact this
 all_goals
  have j:(iG s ps u.av).2=0:=mp j
  have g:=O h2 (y.trans G);simp only[iM,F,j,Bool.true_eq_false,if_false,ne_eq,not_true_eq_false]at g;rw[et]at g
 .rw[if_neg λe=>by grind]at g;exact g
 .rw[if_pos (S.1 (mp L))]at g;exact g
theorem b0Z:uz 49 KG:=by
 refine gV func49 ?_;rintro M m h K⟨sc,p,r,s,ps,rs,rfl,H,j,g⟩;refine⟨djZ sc p r,rfl,aD js (aD jr (aD bTJ aG)),ahX sc p r,by kernel_rfl,?_⟩;dsimp only[ahX,push_cast];have C:=j;obtain⟨j,I⟩:=j;have O:=j.e;have D:=I.e;refine⟨sc,s,rfl,H,aB (λf=>?_) (λf=>?_)⟩
 .have f:dO s≠0:=by simpa using f
  have:=g h (.refl _);simp only[qU,if_pos f]at this;exact this
 have f:dO s=0:=by simpa using f
 have n:16<rs.length\/8<ps.length->K (cI 2) m h:=λe=>by
  have:=g h (.refl _);simp_all[qU,ne_eq,not_true_eq_false]
 refine aE (λP=>n aC) (λP=>aE (λQ=>n aC) (λQ=>?_));have J:¬(16<rs.length\/8<ps.length):=by omega
 refine⟨p,ps,rfl,j,aB (λt=>?_) (λt=>?_)⟩
 .have t:ps.all eA=false:=by simpa using t
  have:=g h (.refl _);simp only[qU,f,ne_eq,not_true_eq_false,if_false,if_neg J,t,if_true]at this;exact this
 have E:ps.all eA=true:=by simpa using t
 rw[Qx f J E]at g;refine⟨λz=>z.1<=rs.length/\(∀x∈(rs.map (iM s ps)).take z.1,x=0)/\m=z.2.1/\PH.le h z.2.2,λz=>rs.length-z.1,⟨(0,m,h),⟨by simp,by simp,rfl,.refl _⟩,MT⟩,?_⟩;rintro⟨i,_,R⟩⟨S,d,rfl,c⟩;dsimp only at S d c⊢
 refine aE (λy=>?_) (λT=>?_)
 .obtain⟨x,U⟩:=eF D y;obtain⟨b,o,u,V,rd,F⟩:=I.at U;have F:=F.mono c;have A:(rs.map (iM s ps))[i]?=some (iM s ps x):=by grind
  refine⟨b,o,V,aC,y,u,.ay (rd.mono c),sc,p,r,u,s,ps,rs,x,rfl,H.mono c,C.mono c,F,f,λL B=>aB (λG=>?_) (λG=>⟨(i+1,m,L),⟨aC,Je A d (by simpa using G),rfl,c.trans B⟩,aC,MT⟩)⟩;have:=g L (c.trans B)
  rwa [N5 d A (by simpa using G)]at this
 .rw[wG _ (by grind[take_of_length_le,length_map])]at g;exact g R c
theorem VK:uz 21 YW:=by
 refine gV func21 ?_;rintro P m h K⟨sc,p,r,pv,s,ks,rs,c,rfl,Q,J,n,C⟩;refine⟨dpQ p r pv,rfl,aD b0Z (aD iq aG),aoQ sc p r pv,bt,?_⟩;dsimp only[aoQ,push_cast];refine⟨sc,p,r,s,ks,rs,rfl,Q,J,λf d=>aB (λg=>?_) (λg=>?_)⟩
 .have g:qU s ks rs≠0:=mp g
  have:=C f d;simp only[jH,if_pos g]at this;exact this
 have g:qU s ks rs=0:=mp g
 have C:K (cI (if lH ks c=true then 0 else 1)) m f:=by
  simp_all[jH,ne_eq,not_true_eq_false]
 have L:=J.params.mono d;have n:=bF.mono n d;have D:=L.e;have E:=aU.e n;have R:=n.len;have F:lH ks c=false->K (cI 1) m f:=λe=>da
 refine aB (λG=>F ?_) (λG=>?_)
 .grind[lH]
 simp only[bne_eq_false_iff_eq]at G;have G:c.length=ks.length:=by omega
 have t:∀i<c.length,¬(kF (c.getD i al)=true/\(c.getD i al).kind=ks.getD i 0)->lH ks c=false:=λi M hn=>by
  grind[lH]
 refine⟨λz=>z.1<=c.length/\(∀j<z.1,kF (c.getD j al)=true/\(c.getD j al).kind=ks.getD j 0)/\z.2=(m,f),λz=>c.length-z.1,⟨(0,m,f),⟨bu,λj O=>by simp at O,rfl⟩,MT⟩,?_⟩;rintro⟨i,_,_⟩⟨M,A,e⟩;cases e;dsimp only at M A⊢
 refine aE (λB=>?_) (λS=>?_)
 .have⟨x,T⟩:=eF E B;have⟨y,U⟩:=eF D (i:=i) aC;obtain⟨b,o,u,V,rd,rfl⟩:=aU.at n T;have⟨W,X,H,I⟩:=L.im U;have e1:c.getD i al=x:=da
  have e2:ks.getD i 0=y:=da
  refine⟨b,o,V,aC,B,x,.ay rd,x,rfl,aB (λY=>F (t i aC λe=>?_)) (λY=>⟨W,X,H,aC,aC,y,.ay I,aB (λZ=>F (t i aC λe=>?_)) (λZ=>⟨(i+1,m,f),⟨aC,λj O=>?_,rfl⟩,aC,MT⟩)⟩)⟩
  .grind
  .grind
  grind
 .have e:lH ks c=true:=by
   grind[lH]
  rw[e]at C;exact C
def cXZ:AC:=λc m h K=>∃v s t d r,c=[aS v,cI t,cS d,cI 1]/\dV h s v/\bF h d r/\jE s t=true/\K (cB (l8 1 s t r)) m h
def bBX:AC:=λc m h K=>∃v s e d,c=[aS v,cI 1,KH e]/\dV h s v/\bm h e d/\d.length<=1000/\K (cI (nC 1 s d)) m h
def b8X(t:Int)(v:bQ)(s:Sl)(m:MH)(h:PH):=dD [(93,LN)] [(4,{A:=Nat,st:=λi=>bO 102 106 ([(1,iv t),(3,iv 1),SW 4]++WF 40 s i) [UV 4 29 v.ag] m h})] [] [] false
def cpZ(v:bQ)(s:Sl)(m:MH):=dD [(58,yY),(128,cXZ),(24,Rc),(48,BJ)] [(8,{A:=Nat×Int×PH,st:=λ⟨i,n,h⟩=>bO 91 94 ([(1,iv 1),SW 3,SW 5,(8,iv n)]++WF 27 s i) [UV 3 29 v.ag,(5,.cells 38 [.val (.slice s.a s.len s.cap)])] m h}),
 (17,{A:=Nat×PH,st:=λ⟨i,h⟩=>bO 91 94 ([(1,iv 1),SW 3]++WF 51 s i) [UV 3 29 v.ag] m h}),
 (20,{A:=Nat×Sl×Nat×PH,st:=λ⟨j,u,i,h⟩=>bO 91 94 ([(1,iv 1),SW 3,(11,iv i),(12,sv u),(51,sv s),(52,iv s.len),(53,iv i)]++WF 58 u j) [UV 3 29 v.ag] m h})] [] [] false
def Ly(v:bQ)(t:Int)(s:Sl):ST:=λm h K=>aX t 0 (K bH m h) (iA t (iS v) (K bH m h) (aM (λb o=>aR (kI v) b o/\0<=t/\t<aF v.c/\∃y,aK m h b (dG (dN o t 5)) (aT y)/\cM (aF s) (aF y) (K bH m h) (mF (λI x=>I x/\bM t/\bM 1/\eZ/\aH s/\aY s/\bB x/\aW v/\gM m m h h) (λI f x=>I x->aX x (aF s) (ab s x 3 VV.ag m h (λc=>∃n,eO (iE c) (iE n)/\cC (lU n) (K bH m h) (aM (λu z=>aR (kI v) u z/\0<=t/\t<aF v.c/\∃d,aK m h u (dG (dN z t 5)) (aT d)/\aM (λA B=>aR d.a A B/\0<=(↑x:Int)/\x<aF d/\∃C,let D:=dP c.kind 1 (K bH m h) (K bH m h);aK m h A (dG (bI B x 2)) (bV C)/\dJ (c.kind==C) (∃e,I e/\f e<f x/\bM t/\bM 1/\eZ/\aH s/\aY s/\fI (bA x 1)=bR e/\bX (aW v) m m h h) (c.kind==2) D D))))) (K eE m h))))))
def Pk(v:bQ)(s:Sl):ST:=λm h K=>Dx v h (λB=>cM (dO B) 0 (K (fD (dO B)) m h) (∃(I:Nat×Int×PH->Prop)(C:Nat×Int×PH->Nat),(∃x,I x/\bM 1/\eP 3/\bY/\cG 0 x.2.1/\aH s/\aY s/\bB x.1/\mP (aW v) (pJ s) (m=m) (h=x.2.2))/\∀x,I x->aX x.1 (aF s) (ab s x.1 1 aT m x.2.2 (λy=>eH (aF y) (jQ 512 x.2.1) (K (fD 2) m x.2.2) (∃e,I e/\C e<C x/\bM 1/\cR/\bY/\cG (j6 x.2.1 (aF y)) e.2.1/\aH s/\aY s/\fI (bA x.1 1)=bR e.1/\aW v/\pJ s/\m=m/\dC x.2.2 e.2.2))) (cM (aF s) (iS v) (K (fD 80) m x.2.2) (RI
 (λI1 e=>I1 e/\bM 1/\eP 3/\aH s/\aY s/\bB e.1/\aW v/\m=m/\dC x.2.2 e.2) (λI1 D e=>I1 e->aX e.1 (aF s) (ab s e.1 1 aT m e.2 (λy=>∃(I2:Nat×Sl×Nat×PH->Prop)(f:Nat×Sl×Nat×PH->Nat),(∃c,I2 c/\bM 1/\eP 3/\bP e.1 (vJ c)/\bC y (oB c)/\aH s/\aY s/\bP e.1 (vJ c)/\bC y (oB c)/\cT y (oB c)/\bB c.1/\aW v/\eV (m=m) (e.2=Am c))/\∀c,I2 c->aX c.1 (aF (oB c)) (aM (λE F=>aR (oB c).a E F/\0<=(↑c.1:Int)/\c.1<aF
 (oB c)/\∃z,aK m (Am c) E (bI F c.1 1) (aT z)/\wT (λG A t=>nZ (λH r=>bE (cW v) (jO (↑(vJ c):Int) (fB z 1))=bE (cW G) (jO t (fB H 1))/\dV (Am c) A G/\bF (Am c) H r/\mZ (jE A t)/\wQ (!(l8 1 A t r)) (K (fD 80) m (Am c)) c.1 0 (aM (λg j=>aR (oB c).a g j/\0<=jZ c.1/\jZ c.1<aF (oB c)/\∃n,aK m (Am c) g (dN j (jZ c.1) 1) (aT n)/\yI v (iV (↑(vJ c):Int) n) (Am c) (λL J=>bJ J g (dN j (jZ c.1) 1) (aT n)/\yI v (iV (↑(vJ c):Int) z) J (λM u=>bJ u g (dN j (jZ c.1) 1) (aT n)/\rG L M u (λa O=>iA (cV a O) 0 (K (fD 80) m u) (∃d,I2 d/\f d<f c/\bM 1/\cR/\bP (vJ c) (vJ d)/\bC (oB c) (oB d)/\aH s/\aY s/\bP (vJ c) (vJ d)/\bC (oB c) (oB d)/\cT (oB c) (oB d)/\fI (bA c.1 1)=bR d.1/\bX (aW v) m m u (Am d))))))) (∃d,I2 d/\f d<f c/\bM 1/\cR/\bP (vJ c) (vJ d)/\bC (oB c) (oB d)/\aH s/\aY s/\bP (vJ c) (vJ d)/\bC (oB c) (oB d)/\cT (oB c) (oB d)/\fI (bA c.1 1)=bR d.1/\bX (aW v) m m (Am c) (Am d)))))) (∃d,I1 d/\D d<D e/\bM 1/\cR/\aH s/\aY s/\fI (bA (vJ
 c) 1)=bR d.1/\aW v/\gM m m (Am c) d.2))) (K (fD 0) m e.2))))))
theorem cGX{v t sl r}(R:dV h s v)(C:bF h sl r)(e:jE s t=true)(n:K (cB (l8 1 s t r)) m h):Ly v t sl m h K:=by
 dsimp only[Ly,push_cast];have V:=R.c.e;have W:=aU.e C;have X:=aU.len C;have D:=e;simp only[jE,su,s0]at D;obtain⟨d,u⟩:∃d,s.c[t.toNat]?=some d:=⟨_,sh aC⟩
 have⟨b,o,y,S,rd,E⟩:=aU.at R.c u;rw[wF u e]at n;have Y:=aU.e E.aa;have hk:=E.key;refine aE (λZ=>by omega) (λ_=>aE (λZ=>by omega) (λ_=>⟨b,o,S,D.1,aC,y.aa,.ay (bJ.part rd 1 1),aB (λT=>?_) (λT=>?_)⟩))
 .have:qO 1 d r=false:=by
   grind[qO,jK]
  rw[this]at n;exact n
 have F:r.length=d.aa.length:=by simp at T;omega
 have G:∀i,i<r.length->xJ 1 d.key (d.aa.getD i ⟨⟨#[]⟩,0⟩).kind i (r.getD i al)=false->K (cB false) m h:=λi hi hf=>by
  grind[qO,jK]
 refine⟨λi=>i<=r.length/\∀j,j<i->xJ 1 d.key (d.aa.getD j ⟨⟨#[]⟩,0⟩).kind j (r.getD j al)=true,λi=>r.length-i,⟨0,⟨bu,λj H=>by simp at H⟩,MT⟩,?_⟩;rintro i⟨hi,z⟩;refine aE (λa'=>?_) (λa0=>?_)
 .have I:i<r.length:=by omega
  have U:r[i]?=some (r.getD i al):=da
  have⟨b2,o2,x,J,A,L⟩:=aU.at C U;subst L;have hc:d.aa[i]?=some (d.aa.getD i ⟨⟨#[]⟩,0⟩):=da
  have⟨b3,o3,c,M,O,P⟩:=aU.at E.aa hc;have f:=G i I
  have g:xJ 1 d.key (d.aa.getD i ⟨⟨#[]⟩,0⟩).kind i (r.getD i al)=true->∀j,j<i+1->xJ 1 d.key (d.aa.getD j ⟨⟨#[]⟩,0⟩).kind j (r.getD j al)=true:=λhf j H=>by
   grind
  generalize r.getD i al=x at f g A U;rw[P]at f g;refine⟨b2,o2,J,aC,aC,x,.ay A,x,rfl,aB (λev=>f ?_) (λev=>?_)⟩
  .grind[lU,xJ]
  have ev:lU x=true:=mp ev
  have B:xJ 1 d.key c.kind i x=(x.kind==c.kind):=by
   simp[xJ,ev]
  refine⟨b,o,S,D.1,aC,y.aa,.ay (bJ.part rd 1 1),b3,o3,M,aC,aC,c.kind,.ay (bJ.part O 1 1),aB (λQ=>⟨i+1,⟨aC,g (by rw[B];exact Q)⟩,da,?_⟩) (λQ=>?_)⟩
  .rw[fH aC];exact MT
  .have:=f (by rw[B];exact Q);exact aB (λ_=>aB (λ_=>this) λ_=>this) (λ_=>aB (λ_=>this) λ_=>this)
 .have:qO 1 d r=true:=jK.2 ⟨F,λj H=>z j aC⟩;rw[this]at n;exact n
theorem QU:uz 128 cXZ:=by
 refine gV func128 ?_;rintro d m h K⟨v,s,t,c,r,rfl,e,f,g,j⟩;refine⟨b8X t v c m h,rfl,aD Vg aG,Ly v t c,bt,?_⟩;exact cGX e f g j
theorem Yn st i:dQ (st.take i)<=dQ st:=by
 induction st generalizing i with
 |nil=>simp[dQ]
 |cons a l c=>
  cases i with
  |zero=>
   have:=c 0
   grind[dQ]
  |succ i=>
   grind[dQ]
theorem aNQ:uz 85 bBX:=by
 refine Lr func85 ?_;rintro b7 m h K⟨v,s,sl,g,rfl,Y,hl,hn,hK⟩;refine⟨cpZ v sl m,rfl,aD js (aD QU (aD BY (aD yV aG))),Pk v sl m h (pY h K),bt,?_⟩;show Pk v sl m h (pY h K);dsimp only[Pk,push_cast];have b8:=Y.c.e;have Z:=aU.e hl;have en:∀(d:PH)(x:Int),PH.le h d->nC 1 s g=x->pY h K (.val (.int .i64 x)) m d:=λd x O e=>.en (dh.refl m) O (by rw[<-e];exact hK);refine⟨v,s,rfl,Y,aB (λe=>en h _ (.refl _) (by simp_all[nC])) (λe=>?_)⟩;have e:dO s=0:=mp e
 have h8:=uY e;refine⟨λz=>h=z.2.2/\z.1<=g.length/\z.2.1=dQ (g.take z.1)/\0<=z.2.1/\z.2.1<=512,λz=>g.length-z.1,⟨(0,0,h),⟨rfl,bu,by simp[dQ],bu,bu⟩,MT⟩,?_⟩;rintro⟨i,n,_⟩⟨rfl,hi,V,n0,n5⟩;dsimp only at hi V n0 n5⊢
 refine aE (λP=>?_) (λa'=>?_)
 .have⟨l,d⟩:=eF Z P;have⟨b,o,u,ea,rd,F⟩:=aU.at hl d;have a0:=aU.e F;have b9:=aU.len F;have c':=HW d;refine⟨b,o,ea,aC,aC,u,.ay rd,?_⟩;rw[dW aC aC];refine aE (λhb=>en _ _ (.refl _) ?_) (λhb=>⟨(i+1,n+u.len,_),⟨rfl,?_,?_,?_,?_⟩,?_,?_⟩)
  .unfold nC;rw[if_neg aC,if_pos];have:=Yn g (i+1)
   grind[dQ]
  .omega
  .grind
  .grind
  .grind
  .omega
  .rw[dW aC aC,fH aC];exact MT
 have c0:¬512<(g.map λl=>(l.length:Int)).sum:=by
  grind[dQ,sm]
 refine aB (λe3=>en _ _ (.refl _) ?_) (λe3=>?_)
 .grind[nC]
 have b5:g.length=s.c.length:=by simp at e3;omega
 have ok:L5 1 s g->nC 1 s g=0:=λhb=>by
  simp_all[nC,if_neg]
 have a5:∀(d:PH),PH.le h d->¬L5 1 s g->pY h K (cI 80) m d:=λd O hb=>en d 80 O (by
  simp_all[nC,if_neg])
 clear V n0 n5 a' hi i n;refine⟨λz=>PH.le h z.2/\z.1<=g.length/\∀(j:Nat) t l,j<z.1->s.c[j]?=some t->g[j]?=some l->Sg 1 t l,λz=>g.length-z.1,⟨(0,_),⟨.refl _,bu,λj t l hj=>by simp at hj⟩,MT⟩,?_⟩;rintro⟨i,d⟩⟨le,hi,J⟩;dsimp only at le hi J⊢
 refine aE (λP=>?_) (λa'=>?_)
 .have⟨l,Q⟩:=eF Z P;have a6:bm d sl g:=aU.mono hl le λl s F=>aU.mono F le λr t W=>bF.mono W le;have⟨b,o,u,ea,rd,F⟩:=aU.at a6 Q;have a0:=aU.e F;have c1:=aU.len F;obtain⟨G,c⟩:∃G,s.c[i]?=some G:=⟨_,sh aC⟩
  have c2:=h8 G (si c);have H:jE s (i:Int)=true:=by simp[jE];omega
  have L:∀y,PH.le h y->¬Sg 1 G l->pY h K (cI 80) m y:=λy le hb=>a5 y le λB=>hb (B i G l c Q);refine⟨b,o,ea,aC,aC,u,.ay rd,λz=>z.2.2.1=i/\z.2.1=u/\PH.le d z.2.2.2/\z.1<=l.length/\(∀k r,k<z.1->l[k]?=some r->qO 1 G r=true)/\∀k r X,k+1<z.1->l[k]?=some r->l[k+1]?=some X->cV (eR G r) (eR G X)<0,λz=>l.length-z.1,⟨(0,u,i,d),⟨rfl,rfl,.refl _,bu,λk r R=>by simp at R,λk r X R=>by simp at R⟩,MT⟩,?_⟩;rintro⟨j,u',S,y⟩⟨e1,e2,f,hj,C,M⟩;dsimp only at e1 e2 f hj C M⊢
  subst e1 e2;refine aE (λa1=>?_) (λb6=>?_)
  .have⟨r,a2⟩:=eF a0 a1;have a3:Go.Ps.Rows y u' l:=aU.mono F f λr t W=>bF.mono W f;have⟨b2,o2,w,a7,a8,W⟩:=aU.at a3 a2;have D:=le.trans f;refine⟨b2,o2,a7,aC,aC,w,.ay a8,v,s,S,w,r,rfl,Y.mono D,W,H,aB (λef=>L _ D λB=>?_) (λef=>?_)⟩
   .rw[N2 c,B.1 r (si a2)]at ef;cases ef
   have hf:qO 1 G r=true:=by grind[N2]
   have E:∀k r,k<j+1->l[k]?=some r->qO 1 G r=true:=λk X R c3=>by
    grind
   have c4:=(N1 (coZ hf)).1;refine aE (λa9=>?_) (λa9=>?_)
   .have hw:IntKind.i64.wrap ((j:Int)-1)=((j-1:Nat):Int):=by grind[dW]
    obtain⟨r0,T⟩:∃r0,l[j-1]?=some r0:=⟨_,sh aC⟩
    have⟨b3,o3,w3,b',U,b0⟩:=aU.at a3 T;have c5:=(N1 (coZ (C (j-1) r0 aC T))).1;rw[hw];refine⟨b3,o3,b',aC,aC,w3,.ay U,v,s,S,w3,r0,rfl,Y.mono D,b0,aC,λs1 h3 A b1=>⟨U.mono A,v,s,S,w,r,rfl,Y.mono (D.trans A),bF.mono W A,aC,λs2 h4 I b4=>⟨(U.mono A).mono I,s1,s2,_,_,rfl,bF.mono b1 I,b4,aE (λV=>L _ ((D.trans A).trans I) λB=>?_) (λV=>?_)⟩⟩⟩
    .rw[pA c,pA c]at V;have:=B.2 (j-1) r0 r T da;omega
    .rw[pA c,pA c]at V;refine⟨(j+1,u',S,h4),⟨rfl,rfl,(f.trans A).trans I,aC,E,λk r1 r2 R h1 y=>?_⟩,aC,?_⟩
     .grind
     .dsimp only;rw[fH aC];exact MT
   .refine⟨(j+1,u',S,y),⟨rfl,rfl,f,aC,E,λk r1 r2 R h1 y=>by omega⟩,aC,?_⟩;dsimp only;rw[fH aC];exact MT
  .refine⟨(S+1,y),⟨le.trans f,aC,λk t l' R ht a4=>?_⟩,aC,?_⟩
   .by_cases e5:k=S
    .subst e5;rw[c]at ht;cases ht;rw[Q]at a4;cases a4;refine⟨λr F=>?_,λk r X h1 y=>M k r X ?_ h1 y⟩
     .obtain⟨n,hn,rfl⟩:=mem_iff_getElem.1 F;exact C n _ aC (sh hn)
     grind
    grind
   .rw[fH aC];exact MT
 .exact en d 0 le (ok λj t l h1 y=>J j t l da h1 y)
structure Qe(m m':MH)(cb:Nat)(s:Sl)(r:to):Prop where
 row:cH m' s 58 3 (r.map VV.ag)
 f:∀b i,s.a=some ⟨b,i,none⟩->m b=none
 br:∀b o,b≠cb->m b=some o->m' b=some o
def dDZ:AC:=λc m h K=>∃cb s key ks,c=[cP cb,cS s,cI key,cI 1]/\aJ m h cb/\an h s ks/\ks.length<=1000/\(∀k∈ks,k=3\/k=4\/k=5)/\∀d r m',Qe m m' cb d r->KM key ks r->Dj ks r->aJ m' h cb->K (cS d) m' h
def crX cb key s h:=tH [(20,FZ),(62,Qd)] [(3,{A:=Nat×Sl×MH,st:=λ⟨i,w,m⟩=>bO 59 63 ([(0,pv cb),(2,iv key),(3,iv 1),(9,sv w)]++WF 12 s i) [] m h})] [] [] [1075] [] false
abbrev C1(a:Nat×Sl×MH):=a.2.1
abbrev MS(a:Nat)(b:Int)(c:Nat×Sl×MH)(d:PH)(e:VV->MH->(List tm)->Prop):=KT (λx j=>dZ (mn a 0) b=dZ (mn x 0) j/\aJ c.2.2 d x/\∀f g,LO f->Ug j f->aZ c.2.2 g x->aJ g d x->∃n,e f g n)
abbrev MR(a:MH)(b:Nat×Sl×MH)(c:Nat)(d:List tm)(e:VV)(g:Sl->MH->(Nat×Sl×MH)->Prop):=fY (λx f=>cL a f (bK (C1 b)) x 58 c (hZ d e.ag)->∃j,g x f j)
attribute [push_cast] C1 MS MR
def VA(cb:Nat)(s:Sl)(key:Int):ST:=λm h K=>∃(I:Nat×Sl×MH->Prop)(f:Nat×Sl×MH->Nat),(∃x,I x/\cK cb/\bM key/\bM 1/\qe=Zq (C1 x)/\aH s/\aY s/\bB x.1/\gM m x.2.2 h h)/\∀x,I x->aX x.1 (aF s) (aM (λb o=>aR s.a b o/\0<=(↑x.1:Int)/\x.1<aF s/\∃y,let A:=MS cb y x h (λv e d=>cH e (bK (C1 x)) 58 3 d/\cJ (fS d 1*32)/\fA d/\MR e x 3 d v (λg j c=>I c/\f c<f x/\cK cb/\bM key/\bM 1/\bC g (C1 c)/\aH s/\aY s/\bX (fI (bA x.1 1)=bR c.1) j c.2.2 h h));let B:=decide (x.1>=key);aK x.2.2 h b (bI o x.1 1) (bV y)/\dJ B (iA x.1 key A A) B A A)) (K (tV (C1 x)) x.2.2 h)
theorem Qe.nil m cb:Qe m m cb bS []:=⟨cH.nil _ _ _,λb i e=>(by cases e),λb o _ e=>e⟩
theorem Qe.ai{f m2 s r}(x:Qe m f cb s r)(n:aJ m h cb)(o:aZ f m2 cb):Qe m m2 cb s r:=by
 refine⟨⟨x.row.rows,?_⟩,x.f,λb t g e=>by rw[o.ai b g];exact x.br b t g e⟩;rcases x.row.ex with e|⟨b,c,d,e,u,y⟩
 .exact .inl e
 .refine .inr ⟨b,c,d,e,?_,y⟩;rw[o.ai b λz=>?_]
  .exact u
  .have⟨cs,j⟩:=n.cj;rw[<-z,x.f b 0 (by rw[e])]at j;cases j
theorem Qe.jm{n m2 y s z r v}(x:Qe m n cb s r)(B:aJ m h cb)(t:aJ n y cb)(g:cL n m2 s z 58 3 (r.map VV.ag++[v.ag])):Qe m m2 cb z (r++[v])/\aJ m2 y cb:=by
 refine⟨⟨by rw[sn];exact g.row,λb i e=>?_,λb o d e=>g.ai b o (x.br b o d e) λi u=>by rw[x.f b i u]at e;cases e⟩,t.br ?_ (.refl _)⟩
 .rcases g.f b i e with f|⟨j,f⟩
  .by_cases d:b=cb
   .subst d;have⟨cs,c⟩:=t.cj
    grind
   .cases c:m b with
    |none=>rfl
    |some o=>rw[x.br b o d c]at f;cases f
  .exact x.f b j f
 .have⟨cs,c⟩:=t.cj;have⟨C,A⟩:=B.cj;rw[c];exact g.ai cb _ c λi u=>by rw[x.f cb i u]at A;cases A
theorem aPX:uz 28 dDZ:=by
 refine gV func28 ?_;rintro S m h K⟨cb,s,key,ks,rfl,G,P,hl,T,U⟩;refine⟨crX cb key s h,rfl,aD qR (aD Gt aG),VA cb s key,bt,?_⟩;dsimp only[VA,push_cast];have J:=P.e;refine⟨λz=>z.1<=ks.length/\∃l,Qe m z.2.2 cb z.2.1 l/\KM key (ks.take z.1) l/\Dj (ks.take z.1) l/\aJ z.2.2 h cb,λz=>ks.length-z.1,⟨(0,bS,m),⟨bu,[],.nil m cb,⟨bu,bu,λj u k h=>by simp at h⟩,λj u k h=>by simp at h,G⟩,MT⟩,?_⟩;rintro⟨i,w,C⟩⟨V,l,H,f,A,L⟩;dsimp only at V H f A L⊢
 have M:l.length=i:=by rw[f.1,length_take];omega
 refine aE (λO=>?_) (λW=>?_)
 .have⟨k,I⟩:=eF J O;have⟨b,o,X,rd⟩:=P.im I;have D:=T k (si I)
  have E:∃(c:Nat)(n:Int),[mn cb 0,fD k]=[mn c 0,fD n]/\aJ C h c/\∀(v:VV)(m':MH),LO v->Ug n v->aZ C m' c->aJ m' h c->∃xs,cH m' ⟨w.a,w.len,w.cap⟩ 58 3 xs/\(xs.length+1)*32<=140737488355328/\xs.length<140737488355328/\∀(t:Sl)(d:MH),cL m' d ⟨w.a,w.len,w.cap⟩ t 58 3 (xs++[v.ag])->Qe m d cb t (l++[v])/\KM key (ks.take (i+1)) (l++[v])/\Dj (ks.take (i+1)) (l++[v])/\aJ d h cb:=by
   refine⟨cb,k,rfl,L,λv m' Y F R Z=>⟨l.map VV.ag,(H.ai G R).row,da,da,λt d g=>?_⟩⟩;have⟨n2,c3⟩:=(H.ai G R).jm G Z g;exact⟨n2,f.cw I Y (Vd D F),A.cw M I (F D).2,c3⟩
  have y:∀{Q:Nat×Sl×MH->Sl->MH->Prop},(∀t d,Q (i+1,t,d) t d)->∃(c:Nat)(n:Int),[mn cb 0,fD k]=[mn c 0,fD n]/\aJ C h c/\∀(v:VV)(m':MH),LO v->Ug n v->aZ C m' c->aJ m' h c->∃xs,cH m' ⟨w.a,w.len,w.cap⟩ 58 3 xs/\(xs.length+1)*32<=140737488355328/\xs.length<140737488355328/\∀(t:Sl)(d:MH),cL m' d ⟨w.a,w.len,w.cap⟩ t 58 3 (xs++[v.ag])->∃B:Nat×Sl×MH,(B.1<=ks.length/\∃l,Qe m B.2.2 cb B.2.1 l/\KM key (ks.take B.1) l/\Dj (ks.take B.1) l/\aJ B.2.2 h cb)/\ks.length-B.1<ks.length-i/\Q B t d:=fun{Q} hQ=>by
   obtain⟨c',k',e,h1,h2⟩:=E;refine⟨c',k',e,h1,λv m' a1 a2 a3 a4=>?_⟩;have⟨xs,b1,b2,b3,b4⟩:=h2 v m' a1 a2 a3 a4;refine⟨xs,b1,b2,b3,λt d g=>?_⟩;exact⟨(i+1,t,d),⟨aC,_,b4 t d g⟩,aC,hQ t d⟩
  rw[show IntKind.i64.wrap ((i:Int)+1)=((i+1:Nat):Int)from fH aC];refine⟨b,o,X,aC,aC,k,.ay rd,aE (λ_=>aE (λ_=>y λt d=>MT) (λ_=>y λt d=>MT)) (λ_=>aE (λ_=>y λt d=>MT) (λ_=>y λt d=>MT))⟩
 .rw[sm aC]at f A;exact U w l C H f A L
def c2Z:AC:=λc m h K=>c=[]/\kN m/\K (cB true) m h
def crJ(n:Int):ST:=λm h K=>K (mX (bD 4 n wR)) m h
theorem b2J:uz 23 bFZ:=by
 refine gV func23 ?_;rintro c m h K⟨n,rfl,d⟩;refine⟨WP [],rfl,aG,crJ n,bt,?_⟩;exact d
theorem ZB{k}(c:dO s=0)(h:y9 q=true)(d:cX s [] q=(k,0)):iG s [] q=(k,0):=by
 grind[iG]
def xU(n:Int):VV:=⟨4,n,⟨#[]⟩⟩
theorem Yi a b:R2 (xU a) (xU b)=(a==b):=by simp[R2,xU]
theorem Kg key i n c:BX key 4 i (xU n)=true/\xJ c key 4 i (xU n)=true:=by simp[BX,xJ,xU,aGQ]
def gS:kD:=⟨0,[⟨⟨⟨[116,97,115,107,115]⟩⟩,[⟨⟨⟨[105,100]⟩⟩,4⟩,⟨⟨⟨[116,105,116,108,101]⟩⟩,4⟩,⟨⟨⟨[115,97,108,97,114,121]⟩⟩,4⟩],1,[],[]⟩]⟩
def dBZ:ae:=.mk 1 0 jU [] [] [] [] 0 []
def gQ:ae:=.mk 3 0 jU [0] [] [] [] 0 [dBZ]
def ED:jV:=⟨2,0,[1],gQ⟩
def uI x y:=[xU 1,xU x,xU y]
theorem bsX:dO gS=0:=cgQ bx (λt c=>by simp_all[gS]) bx bx (by
 refine HN ⟨⟨?_,?_,?_,?_,HN ⟨⟨?_,?_,?_⟩,⟨?_,?_,?_⟩,⟨?_,?_,?_⟩,trivial⟩⟩,trivial⟩
 all_goals first|rfl|(simp;done)|decide)
theorem cnQ:cX gS [] gQ=([4],0):=by
 have e:fC gS 0=[4,4,4]:=rfl
 have h:cX gS [] dBZ=([4,4,4],0):=by
  have:=Lp (s:=gS) (ps:=[]) (t:=0) bx bx da;rw[e]at this;exact this
 exact F9 h bx bx bx
theorem dBJ:iG gS [] gQ=([4],0):=ZB bsX (by rfl) cnQ
theorem bsZ:eY [] gQ=gQ:=by rfl
theorem dMX x y:pX gS [[uI x y]]=0:=by
 unfold pX;rw[if_neg (by simp[bsX]),if_neg bu,if_neg (by simp[gS]),if_pos];intro i t l c d
 match i,c,d with
 |0,c,d=>
  simp[gS]at c;simp at d;subst c d;refine⟨λr e=>?_,λi r j n g=>by simp at g⟩;simp at e;subst e;refine CR.2 ⟨rfl,λi f=>?_⟩
  match i,f with
  |0,_=>exact(Kg 1 0 1 1).1
  |1,_=>exact(Kg 1 1 x 1).1
  |2,_=>exact(Kg 1 2 y 1).1
  |i+3,f=>grind[uI]
 |i+1,c,d=>grind
theorem Z6 x y:l8 1 gS 0 (uI x y)=true:=by
 rw[wF (tb:=gS.c.getD 0 ⟨⟨#[]⟩,[],0,[],[]⟩) rfl bx];refine jK.2 ⟨rfl,λi c=>?_⟩
 match i,c with
 |0,_=>exact(Kg 1 0 1 1).2
 |1,_=>exact(Kg 1 1 x 1).2
 |2,_=>exact(Kg 1 2 y 1).2
 |i+3,c=>grind[uI]
theorem c9X x y:nC 1 gS [[uI x y]]=0:=by
 unfold nC;rw[if_neg (by simp[bsX]),if_neg bu,if_neg (by simp[gS]),if_pos];intro i t l c d
 match i,c,d with
 |0,c,d=>
  simp[gS]at c;simp at d;subst c d;refine⟨λr e=>?_,λi r g j f=>by simp at f⟩;simp at e;subst e;have:=Z6 x y;rw[wF (tb:=gS.c.getD 0 ⟨⟨#[]⟩,[],0,[],[]⟩) rfl bx]at this;exact this
 |i+1,c,d=>grind
theorem dUQ x y:GK [[uI x y]] gQ=[[xU 1]]:=by rfl
theorem QQ x y:uQ gS [[uI x y]] (eY [] gQ)=([[xU 1]],0):=by
 simp_all[uQ,bsZ,dBJ,dMX,dUQ]
def gC(x y:Int):sZ:=⟨0,uI 2 3,uI x y⟩
theorem dUZ x y:sV 1 gS (gC x y)=true:=by
 simp only[sV,gC,Z6,Bool.or_true,Bool.and_true];rfl
theorem dNQ x y:kU 1 gS [[uI 2 3]] [gC x y]=([[uI x y]],0):=by
 unfold kU;rw[if_neg (by simp[c9X]),oV,if_neg (by rw[dUZ];decide)];rw[show mW gS ([[uI 2 3]].getD (gC x y).j.toNat []) (gC x y)=some [uI x y]from rfl];rfl
theorem dUX:qU gS [] [ED]=0:=by
 have c:nL gS ED=true:=bx
 have d:iM gS [] ED=0:=by
  unfold iM;rw[if_neg da,show ED.av=gQ from rfl,dBJ,if_neg bu];exact if_pos rfl
 unfold qU;rw[if_neg (by simp[bsX]),if_neg bu,if_neg bu]
 grind[oT,iM,gS,ED]
theorem Z5{x y}(hx:KJ x)(f:KJ y):sd [[uI x y]]:=λl c r d v e=>by
 simp at c;subst c;simp at d;subst d;simp[uI]at e;rcases e with rfl|rfl|rfl
 .exact⟨by constructor<;>decide,by constructor<;>decide⟩
 .exact⟨⟨by show _<=(4:Int);decide,by show(4:Int)<=_;decide⟩,hx⟩
 .exact⟨⟨by show _<=(4:Int);decide,by show(4:Int)<=_;decide⟩,f⟩
theorem dBX x y:Um [[uI x y]] (eY [] gQ):=⟨1,bx,λl c=>da,by rw[bsZ];decide⟩
theorem dBQ{x y}(hx:KJ x)(e:KJ y):wB gS [] [ED] [] [[uI 2 3]] [[uI x y]] [gC x y]:=by
 have f:iY [[xU 1]]:=pairwise_singleton _ _;refine⟨dUX,by rfl,dNQ x y,λr d _=>?_,λr d _=>?_,Z5 hx e,bu,λc g=>?_,bu⟩
 .simp at d;subst d;show(uQ gS [[uI 2 3]] (eY [] gQ)).2=0/\_;refine⟨by rw[QQ],?_,?_,dBX 2 3⟩
  .show iY (uQ gS [[uI 2 3]] (eY [] gQ)).1
   grind[QQ]
  .show(uQ gS [[uI 2 3]] (eY [] gQ)).1.length<=_;rw[QQ];simp
 .simp at d;subst d;show(uQ gS [[uI x y]] (eY [] gQ)).2=0/\_;refine⟨by rw[QQ],?_,?_,dBX x y⟩
  .show iY (uQ gS [[uI x y]] (eY [] gQ)).1
   grind[QQ]
  .show(uQ gS [[uI x y]] (eY [] gQ)).1.length<=_;rw[QQ];simp
 grind[gC,uI]
theorem d1Q x y:As gS [] [[uI 2 3]] [[uI x y]] [gC x y] [ED] 0=[⟨[1],[[xU 1]],[[xU 1]]⟩]:=by
 unfold As;rw[show[ED].filter (λr=>r.kind==2&&uX [gC x y] r.ah&&r.ah==0)=[ED]from rfl];show[(⟨[1],(uQ gS [[uI 2 3]] (eY [] gQ)).1,(uQ gS [[uI x y]] (eY [] gQ)).1⟩:Wr)]=_;rw[QQ,QQ]
theorem cmJ x y:Ee gS (As gS [] [[uI 2 3]] [[uI x y]] [gC x y] [ED]) [gC x y] 0=if y=3 then[]else[⟨0,false,0,[xU 1],2⟩,⟨0,true,0,[xU 1],2⟩]:=by
 rw[Ee,Ee,append_nil,show(gC x y).j=0 from rfl,d1Q];have c:xR gS (gC x y)=[xU 1]:=rfl;unfold Yk;rw[if_neg (by simp[gC,uI]),if_neg (by simp[gC,uI]),c];have f:∀a,pG [⟨[1],[[xU 1]],[[xU 1]]⟩] [xU 1] a 1=true:=λa=>by cases a<;>rfl
 have g:∀a,pG [⟨[1],[[xU 1]],[[xU 1]]⟩] [xU 1] a 2=false:=λa=>by cases a<;>rfl
 show(List.range 3).flatMap _=_;rw[show List.range 3=[0,1,2]from rfl];simp only[flatMap_cons,flatMap_nil,append_nil];rw[show(gC x y).bj.getD 0 al=xU 1 from rfl,show(gC x y).new.getD 0 al=xU 1 from rfl,show(gC x y).bj.getD 1 al=xU 2 from rfl,show(gC x y).new.getD 1 al=xU x from rfl,show(gC x y).bj.getD 2 al=xU 3 from rfl,show(gC x y).new.getD 2 al=xU y from rfl,Yi,Yi,Yi]
 have d:∀(p:Prop)[Decidable p](A:List fw),A=[]->(if p then[]else A)=[]:=λp _ A h=>by
  grind
 rw[if_pos bu,nil_append,d _ _ (by rfl),nil_append];by_cases e:y=3
 .grind
 .rw[if_neg da,if_neg e];rfl
theorem bPX{pk ps}(h:lH pk ps=true):ps.length=pk.length/\∀i,i<ps.length->kF (ps.getD i al)=true/\(ps.getD i al).kind=pk.getD i 0:=by
 simp_all[lH,all_eq_true,mem_range,beq_iff_eq]
theorem bQJ{ak pk ps o}(h:lH pk ps=true)(c:ca ak pk o≠0):ca ak [] (lE ps o)=ca ak pk o:=by
 have⟨g,j⟩:=bPX h;by_cases d:o.kind=2
 .have e:ca ak pk o=wU pk o:=by simp[ca,d]
  rw[e]at c⊢
  unfold wU at c⊢
  split at c
  .omega
  rename_i f;simp only[Bool.or_eq_true,s0,not_or,Int.not_lt,ge_iff_le,Int.not_le]at f;simp_all[lE,al,ca,if_neg]
 simp_all[lE,ca]
theorem SA{ps c l r}(h:Li c l r=true):Li c (lE ps l) (lE ps r)=true:=by
 have h':=h;simp only[Li,oe,su,beq_iff_eq]at h';have d:l.kind=0:=h'.1.2.1
 grind[lE]
theorem T0(ps:to):∀l:List ao,(zL ps l).length=l.length
 |[]=>rfl
 |p::l=>by simp[zL,T0 ps l]
mutual
theorem QE(ps:to):∀(p:ao)(n:Int),qW (sW ps p) n=qW p n
 |.mk _ _ _ _ args,n=>by simp only[sW,qW];exact Mu ps args (n+1)
theorem Mu(ps:to):∀(l:List ao)(n:Int),mL (zL ps l) n=mL l n
 |[],n=>rfl
 |p::l,n=>by simp only[zL,mL,QE ps p n,Mu ps l]
end
mutual
theorem Om(ps:to):∀(p:ao)(n:Nat),oH (sW ps p) n=oH p n
 |.mk _ _ _ _ args,0=>rfl
 |.mk _ _ _ _ args,n+1=>by simp only[sW,oH];exact KZ ps args n
theorem KZ(ps:to):∀(l:List ao)(n:Nat),uK (zL ps l) n=uK l n
 |[],n=>rfl
 |p::l,n=>by simp only[zL,uK,Om ps p n,KZ ps l n]
end
mutual
theorem Qo{ak pk:ti}{ps:to}(h:lH pk ps=true):∀p:ao,mI ak pk p=true->mI ak [] (sW ps p)=true
 |.mk op d l r args,e=>by
  simp only[sW,mI]at e⊢
  rw[T0];split at e
  .simp_all[SA]
  rename_i f;rw[if_neg f];split at e
  .rename_i c;rw[if_pos c];simp only[su,bne_iff_ne,beq_iff_eq]at e⊢
   grind[bQJ]
  rename_i c;rw[if_neg c];split at e
  .rename_i g;rw[if_pos g];rw[su]at e⊢
   exact⟨SA e.1,LY h args e.2⟩
  .cases e
theorem LY{ak pk:ti}{ps:to}(h:lH pk ps=true):∀l:List ao,B7 ak pk l=true->B7 ak [] (zL ps l)=true
 |[],_=>rfl
 |p::l,e=>by
  simp only[zL,B7,su]at e⊢
  exact⟨Qo h p e.1,LY h l e.2⟩
end
theorem XN{ak pk ps}(h:lH pk ps=true)(e:kE ak pk w=0):kE ak [] (sW ps w)=0:=by
 unfold kE at e⊢
 split at e
 .cases e
 rename_i c;simp only[Bool.or_eq_true,Bool.not_eq_true',not_or,Bool.not_eq_false]at c;rw[if_neg (by simp[c.1])];rw[QE,Om];split at e
 .cases e
 rename_i d;rw[if_neg d];split at e
 .cases e
 rename_i f;simp only[Bool.not_eq_true',Bool.not_eq_false]at f;rw[if_neg (by grind[Qo])]
theorem Za{ps op on args c}(h:gL (.mk op ta w co on gr od li args)):gL (.mk op ta (sW ps w) co on gr od li c):=by
 obtain⟨d,f,g⟩:=h;exact⟨d,f.imp id λe=>by rw[e];rfl,g⟩
theorem bPZ{pk ps op ks b on args c}(h:lH pk ps=true)(e:lS s pk (.mk op ta w co on gr od li args) a b=(ks,0)):lS s [] (.mk op ta (sW ps w) co on gr od li c) a b=(ks,0):=by
 unfold lS at e⊢
 dsimp only at e⊢
 split at e
 .simp[nY]at e
 rename_i d;rw[not_or,Classical.not_not]at d;rw[if_neg (not_or.2 ⟨d.1,Classical.not_not.2 (Za d.2)⟩)];by_cases f:op=2
 .subst f;rw[if_neg bx,if_pos rfl]at e⊢
  split at e
  .rename_i g;rw[if_pos (XN h g)];exact e
  grind[nY,Prod.mk.injEq]
 grind
mutual
theorem QJ{s:kD}{pk:ti}{ps:to}(h:lH pk ps=true):∀(q:ae){ks:ti},cX s pk q=(ks,0)->cX s [] (eY ps q)=(ks,0)
 |.mk op ta w co on gr od li args,ks,e=>by
  simp only[eY,cX]at e⊢
  cases c:gK s pk args with
  |mk l g=>
   rw[c]at e;dsimp only at e;split at e
   .rename_i d;subst d;rw[NW h args c];dsimp only;rw[if_pos rfl];split at e
    .rename_i f;rw[if_pos f];exact bPZ h e
    grind
   grind[nY,Prod.mk.injEq]
theorem NW{s:kD}{pk:ti}{ps:to}(h:lH pk ps=true):∀(qs:List ae){l:List ti},gK s pk qs=(l,0)->gK s [] (zK ps qs)=(l,0)
 |[],l,e=>by grind[gK,zK]
 |q::qs,l,e=>by
  simp only[zK,gK]at e⊢
  cases c:cX s pk q with
  |mk k j=>
   rw[c]at e;dsimp only at e;split at e
   .rename_i f;subst f;rw[QJ h q c];dsimp only;rw[if_pos rfl];cases d:gK s pk qs with
    |mk n o=>
     rw[d]at e;dsimp only at e;split at e
     .rename_i g;subst g;rw[NW h qs d];simpa using e
     grind
   grind
end
mutual
theorem QB(ps:to):∀(p:ae)(n:Int),qV (eY ps p) n=qV p n
 |.mk _ _ _ _ _ _ _ _ args,n=>by simp only[eY,qV];exact Mt ps args (n+1)
theorem Mt(ps:to):∀(l:List ae)(n:Int),mA (zK ps l) n=mA l n
 |[],n=>rfl
 |p::l,n=>by simp only[zK,mA,QB ps p n,Mt ps l]
end
mutual
theorem Oi(ps:to):∀(p:ae)(n:Nat),pC (eY ps p) n=pC p n
 |.mk _ _ _ _ _ _ _ _ args,0=>rfl
 |.mk _ _ _ _ _ _ _ _ args,n+1=>by simp only[eY,pC];exact KY ps args n
theorem KY(ps:to):∀(l:List ae)(n:Nat),uJ (zK ps l) n=uJ l n
 |[],n=>rfl
 |p::l,n=>by simp only[zK,uJ,Oi ps p n,KY ps l n]
end
mutual
theorem KC(ps:to)(c:Nat):∀p:ae,rE c (eY ps p)=rE c p
 |.mk op _ _ _ _ _ _ _ args=>by simp only[eY,rE,Sh ps c args,Qw ps c args]
theorem Sh(ps:to)(c:Nat):∀l:List ae,BF c (zK ps l)=BF c l
 |[]=>rfl
 |p::l=>by simp only[zK,BF,KC ps c p,Sh ps c l]
theorem Qw(ps:to)(c:Nat):∀l:List ae,Av c (zK ps l)=Av c l
 |[]=>rfl
 |p::l=>by simp only[zK,Av,KC ps c p,Qw ps c l]
end
theorem Lh{pk ks ps}(h:lH pk ps=true)(e:iG s pk q=(ks,0)):iG s [] (eY ps q)=(ks,0)/\cX s [] (eY ps q)=(ks,0):=by
 unfold iG at e
 grind[y9,nY,QJ,ZB,QB,Oi,Prod.mk.injEq]
theorem Sz{pk rs}:qU s pk rs=0↔dO s=0/\rs.length<=16/\pk.length<=8/\pk.all eA=true/\∀r∈rs,iM s pk r=0:=by
 have j:∀l:ti,oT l=0↔∀e∈l,e=0:=λl=>⟨λh=>by
  induction l with
  |nil=>intro e c;cases c
  |cons x l o=>
   rw[oT]at h;split at h
   .rename_i f;intro e c;rcases mem_cons.1 c with rfl|c
    .exact f
    .exact o h e c
   .rename_i f;exact absurd h f,wG l⟩
 unfold qU;constructor
 .intro h;split at h
  .rename_i d;exact absurd h d
  rename_i d;split at h
  .cases h
  rename_i t;split at h
  .cases h
  rename_i n;refine⟨Classical.not_not.1 d,aC,aC,mp n,λr g=>(j _).1 h _ (mem_map_of_mem g)⟩
 .rintro⟨d,t,n,u,y⟩;rw[if_neg (by simp[d]),if_neg aC,if_neg (by simp[u])];refine(j _).2 λe c=>?_;obtain⟨r,g,rfl⟩:=mem_map.1 c;exact y r g
theorem qN{pk r}:iM s pk r=0↔nL s r=true/\iG s pk r.av=(kX s r.ah,0):=by
 unfold iM;constructor
 .intro h;split at h
  .cases h
  rename_i d;split at h
  .rename_i c;exact absurd h c
  rename_i c;split at h
  .rename_i e;exact⟨mp d,Prod.ext e (Classical.not_not.1 c)⟩
  .cases h
 .rintro⟨d,c⟩;rw[if_neg (by simp[d]),c,if_neg bu];exact if_pos rfl
theorem Zu{pk ks ps st c}(n:lH pk ps=true)(o:iG s pk q=(ks,0))(h:pX s st=0)(t:sd st)(g:∀l∈st,l.length<=c)(j:1<=c)(d:rE c q<=8000000):
 (uQ s st (eY ps q)).2=0/\iY (uQ s st (eY ps q)).1/\(uQ s st (eY ps q)).1.length<=8000000/\Um st (eY ps q):=by
 have⟨u,y⟩:=Lh n o;have d:rE c (eY ps q)<=8000000:=by rw[KC];exact d
 have⟨_,_,f,len⟩:=XI h t g j y d
 have e:uQ s st (eY ps q)=(GK st (eY ps q),0):=by
  unfold uQ;rw[u,if_neg bu,if_neg (by rw[h];decide)]
 rw[e];exact⟨rfl,f.jw,len,c,j,g,d⟩
def cUX:AC:=λc m h K=>∃cb s t a b,c=[cP cb,cS s,cS t]/\aJ m h cb/\an h s a/\an h t b/\a.length<=1000/\b.length<=1000/\
 ∀o on m' h',PH.le h h'->l9 h' o on->on.length<=10->cn (AR a b) on->aZ m m' cb->aJ m' h' cb->K (cS o) m' h'
theorem cn.cw{α}{T:List α->α->Prop}{l x}(h:cn T l)(t:T l x):cn T (l++[x]):=λj y e=>by
 rcases Nat.lt_trichotomy j l.length with c|c|c
 .rw[getElem?_append_left c]at e;rw[take_append_of_le_length aC];exact h j y e
 .grind
 grind
theorem ni:uz 55 cUX:=by
 refine gV func55 ?_;rintro W m h K⟨cb,s,t,a,b,rfl,X,M,O,l1,l2,Y⟩;refine⟨nw cb s t h,rfl,aD EP aG,jl cb s t,bt,?_⟩;dsimp only[jl,push_cast];have Z:=M.e;have a':=O.e;refine⟨cb,3,rfl,X,λk o P k1 d u=>⟨λ⟨n,on,D⟩=>0<=n/\n<=2/\(on.length:Int)<=2-n/\aZ m D cb/\aJ D h cb/\cn (AR a b) on,λ⟨n,_,_⟩=>n.toNat,⟨(k,[],o),⟨P,aC,cv,d,u,λj x e=>by simp at e⟩,MT⟩,?_⟩⟩;clear P k1 d u o;rintro⟨n,on,o⟩⟨n0,n1,a0,d,u,G⟩;dsimp only;have en:∀(g:Sl)(h':PH),PH.le h h'->bT h' g 2 (on.map oY)->K (.val (.slice g.a g.len g.cap)) o h':=λg h' z A=>Y g on o h' z ⟨A,aC⟩ aC G d (u.mono z);refine aE (λhn=>aE (λhp=>aE (λE=>?_) (λ_=>en)) (λ_=>en)) (λ_=>en);refine⟨cb,s.len,rfl,u,λx m2 Q x1 R c2=>⟨cb,t.len,rfl,c2,λy c S y1 T U=>?_⟩⟩;have⟨b1,f1,V,r1⟩:=M.nt (n:=x) Q aC;have⟨b2,f2,H,r2⟩:=O.nt (n:=y) S aC;refine⟨aC,aC,b1,f1,V,Q,aC,_,.ay r1,aC,aC,b2,f2,H,S,aC,_,.ay r2,?_⟩;have ix:IK a x=true:=by simp[IK];omega
 have iy:IK b y=true:=by simp[IK];omega
 refine⟨λ⟨n',i,I,p,f,D⟩=>n'=n/\I=on/\D=c/\i<=on.length/\p=(x,y)/\(f=true->a.getD x.toNat 0=b.getD y.toNat 0/\∀q∈on.take i,q.1≠x/\q.2≠y),λ⟨_,i,_,_,_,_⟩=>on.length-i,⟨(n,0,on,(x,y),a.getD x.toNat 0==b.getD y.toNat 0,c),⟨rfl,rfl,rfl,aC,rfl,λe=>⟨mp e,λq E=>by simp at E⟩⟩,?_⟩,?_⟩
 .rw[length_map];exact MT
 rintro⟨n,i,on,p,f,c⟩⟨rfl,rfl,rfl,hi,rfl,J⟩;dsimp only;refine aE (λa1=>?_) (λa2=>?_)
 .have hl:i<on.length:=by omega
  have B:(on.map oY)[i]?=some (oY on[i]):=da
  have a3:on.take (i+1)=on.take i++[on[i]]:=bz
  have C:∀L:Bool,L=false->L=true->a.getD x.toNat 0=b.getD y.toNat 0/\∀q∈on.take (i+1),q.1≠x/\q.2≠y:=λL e H=>da
  refine⟨aC,da,_,B,on[i],rfl,aB (λF=>⟨aC,aC,aC,aC,aB (λV=>⟨aC,aC,aC,aC,(n,i+1,on,(x,y),_,c),⟨rfl,rfl,rfl,gt,rfl,λH=>⟨(J F).1,λq E=>?_⟩⟩,ge,MT⟩) (λ_=>⟨(n,i+1,on,(x,y),false,c),⟨rfl,rfl,rfl,da,rfl,C _ rfl⟩,da,MT⟩)⟩) (λ_=>⟨(n,i+1,on,(x,y),false,c),⟨rfl,rfl,rfl,da,rfl,C _ rfl⟩,da,MT⟩)⟩
  grind
 .have hw:IntKind.i64.wrap (n-1)=n-1:=dW aC aC;rw[hw];refine aB (λF=>⟨da,da,(n-1,on++[(x,y)],c),⟨aC,aC,cv,(d.trans R).trans T,U,G.cw ⟨ix,iy,(J F).1,λq E=>(J F).2 q da⟩⟩,aC,?_⟩) (λ_=>⟨(n-1,on,c),⟨aC,aC,da,(d.trans R).trans T,U,G⟩,aC,MT⟩);rw[sn];exact MT
end Go.Ps
