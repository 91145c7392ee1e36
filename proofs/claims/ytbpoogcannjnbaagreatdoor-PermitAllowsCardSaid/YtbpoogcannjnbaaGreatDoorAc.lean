/- Own work. -/
import Derived.Test.YtbpoogcannjnbaaGreatDoorAb
noncomputable section
namespace Go.Ps
open Go Go.Vc Go.Proofs List Tryz
variable{K:tt}{m:MH}{h:PH}{s:kD}{ps:ti}{cb:Nat}{sc:bQ}{v:QV}{q:ae}{p:ao}{l:ti}{i N:Nat}{m':MH}{h':PH}{co gr:ti}{od:tp}{w:ao}{ta li:Int}{sz:Nat}{ks:List ti}{r:Sl}{a:ti}{b:Nat}
theorem Xx:Tryz.prog.underlying 9=some .string:=bt
theorem GJ:dz Tryz.prog 9 (λv=>∃s,v=.string s):=by
 refine⟨⟨_,Xx⟩,?_,?_,?_⟩
 .rintro _ w b⟨s,rfl⟩
  have e:∀n:Nat,(Instr.checkKey b (n+1) 9 (.string s)).run Tryz.prog w=.ok () w:=λn=>by
   simp_all[Instr.checkKey,Result.andThen,Sem.run_bind,run_underlying]
  exact e 9999
 .rintro _ _ w⟨s,rfl⟩⟨t,rfl⟩;refine⟨_,run_equalIn_string w 9999 9 s t Xx,?_⟩;rw[beq_iff_eq]
  grind[Ej]
 .rintro d _ _ r c⟨s,rfl⟩⟨t,rfl⟩ h;rw[Xx]at c;cases c;simp only[Instr.sameNow,ss]at h;subst h;rw[beq_toListBytes,beq_iff_eq]
  grind[Ej]
def jD{α}(T:List α->α->Prop)(l:List α)(i:Nat):=∀j x,j<i->l[j]?=some x->T (l.take j) x
def cn{α}(T:List α->α->Prop)(l:List α):=∀(j:Nat) x,l[j]?=some x->T (l.take j) x
theorem jD.zero{α}{T:List α->α->Prop}{l}:jD T l 0:=λ_ _ h=>by omega
theorem jD.succ{α}{T:List α->α->Prop}{l x}(h:jD T l i)(hx:l[i]?=some x)(t:T (l.take i) x):jD T l (i+1):=by
 intro j y d c;by_cases e:j=i
 .grind
 .exact h j y aC c
theorem jD.all{α}{T:List α->α->Prop}{l}(h:jD T l i)(d:l.length<=i):cn T l:=λj x c=>h j x da c
theorem cn.not{α}{T:List α->α->Prop}{l x}(hx:l[i]?=some x)(t:¬T (l.take i) x):¬cn T l:=λh=>t (h i x hx)
def aEX(d:List oI)(c:oI):=tA c.name=true/\eA c.kind=true/\c.name∉d.map oI.name
def GA(c:List xK)(t:xK):=tA t.name=true/\1<=t.key/\t.key<=t.aa.length/\t.name∉c.map xK.name/\cn aEX t.aa
def fC(s:kD)(t:Int):=if t<0 then[]else match s.c[t.toNat]? with|none=>[]|some t=>t.aa.map oI.kind
def jE(s:kD)(t:Int):=decide (0<=t)&&decide (t<s.c.length)
def aS(v:bQ):CV:=.val (.agg ⟨v.ag⟩)
def pE(s:kD):=∀t∈s.c,t.aa.length<=8
def cdQ:AC:=λc m h K=>∃v s t,c=[aS v,cI t]/\dV h s v/\K (cB (jE s t)) m h
def yB:AC:=λc m h K=>∃v s t,c=[aS v,cI t]/\dV h s v/\pE s/\∀d h',PH.le h h'->an h' d (fC s t)->K (cS d) m h'
def Yh m h:=
 dD [] [(5,{A:=Nat×Sl×ti,st:=λx=>bO 35 37 [(5,.at (.au 32)),(22,sv x.2.1),(23,iv x.2.1.len),(24,iv x.1)] [(32,.au 3 1 (x.2.2.map eI))] m h})] [] [] false
def cIJ m h:=
 dD [(113,cdQ)] [(5,{A:=Nat×Sl×ti,st:=λx=>bO 38 40 [(5,.at (.au 19)),(25,sv x.2.1),(26,iv x.2.1.len),(27,iv x.1)] [(19,.au 3 1 (x.2.2.map eI))] m h})] [] [] false
abbrev iS(a:bQ):=aF a.c
abbrev LE E n l:=some (fi.au E n l)
abbrev kI(a:bQ):=a.c.a
abbrev dG a:=a+1
abbrev aT a:=[fW a]
abbrev RD(a:bQ)(b c:Int)(d:MH)(e:PH)(g:Nat->Nat)(i:Sl->(Nat×Sl×ti->Prop)->(Nat×Sl×ti)->Prop)(j:(Nat×Sl×ti->Prop)->(Nat×Sl×ti->Nat)->(Nat×Sl×ti)->Prop):=aM (λx n=>aR (kI a) x n/\b<=c/\c<aF a.c/\∃o,aK d e x (dG (dN (g n) c 5)) (aT o)/\∃t u,(∃f,i o t f)/\∀f,j t u f)
abbrev bC a b:=Zq a=Zq b
abbrev rW(a:Nat×Sl×ti):=a.2.1
abbrev cT(a b:Sl):=bR a.len=bR b.len
abbrev cE a b c:=LE a b c
abbrev wX a:=cE 3 1 []=cE 3 1 (List.map eI a)
abbrev vN(a:Nat×Sl×ti):=a.2.2
abbrev cJ a:=a<=140737488355328
abbrev fS(a:List tm)(b:Nat):=a.length+b
abbrev gE a:=List.map eI a
abbrev fA(a:List tm):=a.length<140737488355328
abbrev RC(a:Prop)(b:Nat×Sl×ti)(c:Nat->Nat->oI->Prop)(d:Nat)(e:oI->(Nat×Sl×ti)->Prop)(g:Prop):=a->aX b.1 (aF (rW b)) (aM (λx f=>aR (rW b).a x f/\0<=(↑b.1:Int)/\b.1<aF (rW b)/\∃j,c x f j/\cJ (fS (gE (vN b)) 1*d)/\fA (gE (vN b))/\∃n,e j n)) g
abbrev qH a b:=.string a::pW b::[]
abbrev tO a b:=cE 3 1 a=cE 3 1 (List.map eI b)
abbrev iQ(a:tm):=[a]
abbrev hZ(a:List tm)(b:tm):=a++[b]
abbrev yM a b c:=tO (hZ (gE a) (bV b)) c
abbrev jA(a:Sl->PH->Prop):=∀x c,a x c
abbrev cO a b c d:=PH.le a b->c->d
abbrev bN(a:PH)(b:Nat)(c:List tm)(d:Sl->PH->Prop):=jA (λx e=>cO a e (bT e x b c) (d x e))
abbrev rH(a:Nat->Nat->Option Value)(b:List tm)(c:tt)(d:MH):=bN a 1 b (λx e=>c (tV x) d e)
abbrev CN(a:bQ->kD->Prop):=∃x c,a x c
abbrev wT(a:bQ->kD->Int->Prop):=CN (λx c=>∃d,a x c d)
abbrev cW(a:bQ):=BH a.dc (fW a.c)
abbrev jS a:=mX (cW a)
abbrev E7(a:bQ)(b:Int)(c:PH)(d:kD->Int->Prop):=wT (λx e f=>dZ (jS a) b=dZ (jS x) f/\dV c e x/\d e f)
abbrev BV(a:Int):=a<=281474976710656
attribute [push_cast] iS LE kI dG aT RD bC rW cT cE wX vN cJ fS gE fA RC qH tO iQ hZ yM jA cO bN rH CN wT cW jS E7 BV
def WO(v:bQ)(t:Int):ST:=λm h K=>iA t 0 (K (AU (decide (t<iS v))) m h) (K bH m h)
def alJ v t:=λm h K=>aX t 0 (K EO m h) (iA t (iS v) (K EO m h) (RD v 0 t m h (λo=>o) (λy I x=>I x/\eL 32/\bC y (rW x)/\cT y (rW x)/\bB x.1/\wX (vN x)/\m=m/\h=h/\True) (λI d x=>RC (I x) x (λb o y=>aK m h b (bI o x.1 2) (qH y.name y.kind)) 8 (λy c=>I c/\d c<d x/\eL 32/\bC (rW x) (rW c)/\cT (rW x) (rW c)/\fI (bA x.1 1)=bR c.1/\yM (vN x) y.kind (vN c)/\m=m/\dC h h) (rH h (gE (vN x)) K m))))
def WT v t:=λm h K=>E7 v t h (λs g=>cC (jE s g) (K EO m h) (aM (λb o=>aR (kI v) b o/\0<=t/\t<aF v.c/\∃y,aK m h b (dG (dN o t 5)) (aT y)/\dK 0/\dK (aF y)/\BV (aF y*8)/\BV (aF y)/\RD v 0 t m h (λe=>e) (λc I x=>I x/\eL 19/\bC c (rW x)/\cT c (rW x)/\bB x.1/\wX (vN x)/\m=m/\h=h/\True) (λI f x=>RC (I x) x (λj e c=>aK m h j (bI e x.1 2) (qH c.name c.kind)) 8 (λc d=>I d/\f d<f x/\eL 19/\bC (rW x) (rW d)/\cT (rW x) (rW d)/\fI (bA x.1 1)=bR d.1/\yM (vN x) c.kind (vN d)/\m=m/\dC h h) (rH h (gE (vN x)) K m)))))
theorem bJ.part{o l}(r:bJ h b o l) k n:bJ h b (o+k) ((l.drop k).take n):=
 ⟨λi v e=>by
  have:l[k+i]?=some v:=by
   grind
  have:=r.rd (k+i) v this
  grind⟩
theorem Ij.at{s l}(r:Ij h s l){x}(c:l[i]?=some x):∃b o,s.a=some ⟨b,o,none⟩/\bJ h b (o+i*2) (oI.ag x):=by
 obtain⟨b,o,v,e,k,rfl⟩:=aU.at r c
 grind
theorem IF{t:Int}(h:¬(0<=t/\t<s.c.length)):fC s t=[]:=by
 grind[fC]
theorem QI{t x}(h:0<=t)(hx:s.c[t.toNat]?=some x):fC s t=x.aa.map oI.kind:=by
 grind[fC]
theorem dV.ah{v}(c:dV h s v){t}(f:0<=t)(g:t<(v.c.len:Int)):∃x b o w,s.c[t.toNat]?=some x/\v.c.a=some ⟨b,o,none⟩/\bJ h b (o+t.toNat*5) (cD.ag w)/\T8 h x w:=by
 have j:=c.c.e;have d:s.c[t.toNat]?=some (s.c[t.toNat]'(by omega)):=sh _;have⟨b,o,w,e,r,k⟩:=c.c.at d
 grind
theorem j4{α β}{f:α->β}{l:List α}{x}(hx:l[i]?=some x):(l.take (i+1)).map f=(l.take i).map f++[f x]:=by
 grind[sy]
theorem EF:uz 113 cdQ:=by
 refine gV func113 ?_;rintro d m h K⟨v,s,t,rfl,e,c⟩;refine⟨WP [],rfl,aG,WO v t,bt,?_⟩;dsimp only[WO,push_cast];have g:=e.c.e;refine aE (λf=>lQ c ?_) (λf=>lQ c ?_)
 .simp_all[jE,decide_eq_true,Bool.true_and]
 simp_all[jE,decide_eq_false,Bool.false_and]
theorem AQ:uz 29 yB:=by
 refine gV func29 ?_;rintro D m h K⟨v,s,t,rfl,A,E,n⟩;refine⟨Yh m h,rfl,aG,alJ v t,bt,?_⟩;dsimp only[alJ,push_cast];have M:=A.c.e;have d:fC s t=[]->K (.val (.slice none 0 0)) m h:=λe=>n ⟨none,0,0⟩ h (.refl _) (by rw[e];exact⟨.nil _ _,bu⟩);refine aE (λF=>d (IF aC)) (λF=>aE (λG=>d (IF aC)) (λG=>?_));have⟨x,b,o,w,B,H,I,f⟩:=A.ah (t:=t) aC aC;have J:=E x (si B);have u:=aU.e f.aa;rw[QI aC B]at n;refine⟨b,o,H,aC,aC,w.aa,.ay (bJ.part I 1 1),λ⟨i,y,l⟩=>y=w.aa/\i<=x.aa.length/\l=(x.aa.take i).map oI.kind,λ⟨i,_,_⟩=>x.aa.length-i,⟨(0,w.aa,[]),⟨rfl,bu,bu⟩,MT⟩,?_⟩;rintro⟨i,_,_⟩⟨rfl,O,rfl⟩;dsimp only;refine aE (λj=>?_) (λL y h' z g=>?_)
 .have⟨c,C⟩:=eF u j;have⟨b,o,e,r⟩:=Ij.at f.aa C;refine⟨b,o,e,aC,j,c,.ay r,?_,?_,(i+1,w.aa,(x.aa.take (i+1)).map oI.kind),⟨rfl,aC,rfl⟩,aC,?_⟩
  .simp;omega
  .simp;omega
  .rw[j4 C,sn];exact MT
 .rw[sm aC]at g;exact n y h' z ⟨g,cv⟩
theorem LA:uz 109 yB:=by
 refine gV func109 ?_;rintro G m h K⟨v,s,t,rfl,n,H,u⟩;refine⟨cIJ m h,rfl,aD EF aG,WT v t,bt,?_⟩;dsimp only[WT,push_cast];have L:=n.c.e;have g:fC s t=[]->K (.val (.slice none 0 0)) m h:=λe=>u ⟨none,0,0⟩ h (.refl _) (by rw[e];exact⟨.nil _ _,bu⟩);refine⟨v,s,t,rfl,n,aB (λB=>g (IF ?_)) (λB=>?_)⟩
 .grind[jE,Bool.not_eq_true',Bool.and_eq_false_iff,decide_eq_false_iff_not]
 simp only[jE,Bool.not_eq_false',su,s0]at B;have⟨x,b,o,w,C,D,E,d⟩:=n.ah (t:=t) aC aC;have I:=H x (si C);have y:=aU.e d.aa;rw[QI aC C]at u;refine⟨b,o,D,aC,aC,w.aa,.ay (bJ.part E 1 1),aC,aC,aC,aC,b,o,D,aC,aC,w.aa,.ay (bJ.part E 1 1),λ⟨i,z,l⟩=>z=w.aa/\i<=x.aa.length/\l=(x.aa.take i).map oI.kind,λ⟨i,_,_⟩=>x.aa.length-i,⟨(0,w.aa,[]),⟨rfl,bu,bu⟩,MT⟩,?_⟩;rintro⟨i,_,_⟩⟨rfl,M,rfl⟩;dsimp only;refine aE (λj=>?_) (λJ z h' A f=>?_)
 .have⟨c,F⟩:=eF y j;have⟨b,o,e,r⟩:=Ij.at d.aa F;refine⟨b,o,e,aC,j,c,.ay r,?_,?_,(i+1,w.aa,(x.aa.take (i+1)).map oI.kind),⟨rfl,aC,rfl⟩,aC,?_⟩
  .simp;omega
  .simp;omega
  .rw[j4 F,sn];exact MT
 .rw[sm aC]at f;exact u z h' A ⟨f,cv⟩
def dh(m m':MH):=∀b o,m b=some o->m' b=some o
theorem dh.refl m:dh m m:=λ_ _ e=>e
theorem dh.trans{c}(d:dh m m')(f:dh m' c):dh m c:=λb o e=>f b o (d b o e)
theorem dh.jb(h:dh m m')(c:m' b=none):m b=none:=by
 cases e:m b with
 |none=>rfl
 |some o=>rw[h b o e]at c;cases c
theorem dh.dv{f}(h:dh m f)(j:m b=none)(g:∀c,c≠b->m' c=f c):dh m m':=λc o e=>by
 have d:c≠b:=λn=>da
 rw[g c d,h c o e]
def Qf(m:MH)(b:Nat)(c:List ByteArray):=xZ m b (c.map λn=>(.string n,.bool true))
theorem Qf.ai{d e}(h:Qf m b e)(f:b≠d)(o:∀c,c≠d->m' c=m c):Qf m' b e:=by
 have⟨g,j,t,n⟩:=h.ex;exact⟨g,j,da,n⟩
def cUJ:AC:=λc m h K=>∃v s,c=[aS v]/\dV h s v/\∀r:Bool,(r=true↔cn GA s.c)->K (cB r) m h
def cQJ:AC:=λc m h K=>∃v s t,∃i:Nat,c=[aS v,cI i]/\dV h s v/\s.c[i]?=some t/\∀r:Bool,(r=true↔GA (s.c.take i) t)->K (cB r) m h
def cJX(v:bQ)(h:PH):=
 dD [(143,bGQ)] [(3,{A:=Nat×Nat×MH,st:=λ⟨i,c,d⟩=>bO 79 80 ([(3,vv (.map (some c)))]++WF 11 v.c i) [] d h}),
  (10,{A:=Nat×Nat×Nat×Nat×Sl×MH,st:=λ⟨i,k,c,f,e,d⟩=>bO 79 80 ([(3,vv (.map (some c))),(6,vv (.map (some f))),(11,sv v.c),(12,iv v.c.len),(13,iv i)]++WF 45 e k) [] d h})] [] [] false
def daJ(v:bQ)(i:Nat)(m:MH)(h:PH):=
 dD [(137,bGQ),(99,cVZ)] [(5,{A:=Nat×cD,st:=λ⟨k,w⟩=>bO 94 96 [(1,iv i),SW 2,SW 5,(6,iv k)] [UV 2 29 v.ag,UV 5 74 w.ag] m h}),
  (10,{A:=Nat×cD,st:=λ⟨k,w⟩=>bO 94 96 [SW 5,(53,iv w.aa.len),(54,iv k)] [UV 5 74 w.ag] m h}),
  (15,{A:=Nat×Nat×cD,st:=λ⟨k,j,w⟩=>bO 94 96 [SW 5,(7,iv k),(8,iv j),(53,iv w.aa.len),(54,iv k)] [UV 5 74 w.ag] m h})] [] [] false
abbrev He(a:MH)(b:PH)(c:Nat->MH->Prop):=∀x d,eT a b x->iZ a d x (Obj.map (.mk []) 0)->c x d
abbrev oO a b:=SV.at (At.val (.map (some a)))=SV.at (At.val (.map (some b)))
abbrev tE(a:bQ):=aH a.c
abbrev lB(a:bQ):=aY a.c
abbrev JN(a:Prop)(b:Nat)(c:bQ)(d:Nat->Nat->cD->Prop)(e:Prop):=a->aX b (aF c.c) (aM (λx f=>aR (kI c) x f/\0<=(↑b:Int)/\b<aF c.c/\∃g,d x f g)) e
abbrev Af(a:cD):=.string a.name::fW a.aa::pW a.key::fW a.ba::aT a.cd
abbrev iR(a:ByteArray):CV:=.val (.string a)
abbrev mG a b:=dz Tryz.prog a b
abbrev JD(a:MH)(b:Nat)(c:(Value->Prop)->Prop)(d:Value)(e:Prop)(g:(List (Value×Bool))->Bool->Prop):=∃x j,xZ a b (List.map (λf=>(f.1,.bool f.2)) x)/\mG 9 j/\c j/\(∀f,List.Mem f x->j f.1)/\((∀f,List.Mem f x->f.1=d->False)->e)/\∀f,g x f
abbrev Fw(a:cD):Value:=.string a.name
abbrev qD(a:tt)(b:Nat×Nat×MH)(c:PH):=a bH (jG b) c
abbrev Ap(a:cD):=aF a.aa
abbrev aJZ(a:tz->(Value->Prop)->Prop):=∃x c,a x c
abbrev hU(a:tz)(b c:Value)(d:tz):=a++(b,c)::d
abbrev zH:Value:=.bool true
abbrev G2(a:Nat->Option Obj)(b:Nat)(c:(Value->Prop)->Prop)(d:Value)(e:MH->Prop):=aJZ (λx g=>xZ a b x/\mG 9 g/\c g/\(∀f,List.Mem f x->g f.1)/\(∀f,List.Mem f x->f.1=d->False)/\∀f,kM a f b->xZ f b (hU x d zH [])->e f)
abbrev Et(a:Nat×Nat×Nat×Nat×Sl×MH):=a.2.2.2.1
abbrev bP a b:=bR a=bR b
abbrev AD(a:Nat×Nat×Nat×Nat×Sl×MH):=a.2.2.2.2.1
abbrev wK(a:Nat×Nat×Nat×Nat×Sl×MH):=a.2.2.2.2.2
abbrev vP(a:oI):Value:=.string a.name
abbrev yH(a:oI)(b:Int)(c:Prop)(d:Nat×Nat×Nat×Nat×Sl×MH->Prop)(e:Nat×Nat×Nat×Nat×Sl×MH->Nat)(g:Nat×Nat×Nat×Nat×Sl×MH)(i:bQ)(j:(Nat×Nat×Nat×Nat×Sl×MH)->Prop):=cM a.kind b c (∃x,d x/\e x<e g/\oO g.2.2.1 x.2.2.1/\oO (Et g) (Et x)/\tE i/\lB i/\bP g.1 x.1/\bC (AD g) (AD x)/\j x)
abbrev yJ(a b:Nat×Nat×Nat×Nat×Sl×MH)(c:MH)(d:PH):=mP (cT (AD a) (AD b)) (fI (bA a.2.1 1)=bR b.2.1) (c=wK b) (d=d)
abbrev HJ(a:Value)(b:Bool)(c:List (Value×Bool))(d:Prop):=List.Mem (a,b) c->d
abbrev Rx(a:(Nat×cD->Prop)->(Nat×cD)->Prop)(b:(Nat×cD->Prop)->(Nat×cD->Nat)->(Nat×cD)->Prop):=∃x d,(∃c,a x c)/\∀c,b x d c
abbrev KV(a:bQ):=jX a.dc
abbrev KU(a:bQ):=rF a.c
abbrev aW a:=eQ (oQ 29 [KV a,KU a])
abbrev vW(a:At):=[a]
abbrev zU a:=[rF a]
abbrev jR(a:cD):=LV a.name::rF a.aa::jX a.key::rF a.ba::zU a.cd
abbrev Hh(a:cD)(b:Nat×cD):=oQ 74 (jR a)=oQ 74 (jR b.2)
abbrev fJ a:=a+0
abbrev Bv(a:ByteArray):tm:=[.string a]
abbrev DC(a:Nat×cD):=a.2.aa
abbrev vH(a:Nat×Nat×cD):=a.2.1
abbrev pT(a:Nat×Nat×cD):=a.2.2
abbrev mF(a:(Nat->Prop)->Nat->Prop)(b:(Nat->Prop)->(Nat->Nat)->Nat->Prop):=∃x d,lN (∃c,a x c) (λc=>b x d c)
abbrev gY:=eP 1
abbrev FF(a b:cD):=bC a.ba b.ba
abbrev D6(a b:cD):=cT a.ba b.ba
abbrev eW a b c:=fW a::pW b::c
abbrev Ep a b:=eW a b []
abbrev zC(a:Nat×Nat×Nat×cD×cD×Sl):=a.2.2.2.1
abbrev Ch(a:Nat×Nat×Nat×cD×cD×Sl):=a.2.2.2.2.2
abbrev Bf(a:Nat×Nat×Nat×cD×cD×Sl):=a.2.2.1
abbrev J7(a:Nat×Nat×Nat×cD×cD×Sl):=a.2.2.2.2.1
abbrev eZ:=eP 4
abbrev zD(a:Nat×Nat×cD×Ii):=a.2.2.1
abbrev yK(a:Nat×Nat×cD×Ii):=a.2.2.2.aa
abbrev Hg(a:Nat×Nat×cD×Ii):=a.2.2.2.ah
attribute [push_cast] He oO tE lB JN Af iR mG JD Fw qD Ap aJZ hU zH G2 Et bP AD wK vP yH yJ HJ Rx KV KU aW vW zU jR Hh fJ Bv DC vH pT mF gY FF D6 eW Ep zC Ch Bf J7 eZ zD yK Hg
def PX v:=λm h K=>He m h (λb E=>∃(I:Nat×Nat×MH->Prop)(z:Nat×Nat×MH->Nat),RW (λx=>I x/\oO b (lM x)/\tE v/\lB v/\bX (bB x.1) E (jG x) h h) (λx=>JN (I x) x.1 v (λF o y=>aK (jG x) h F (bI o x.1 5) (Af y)/\∃s,eO (iR y.name) (iR s)/\cC (tA s) (K bH (jG x) h) (JD (jG x) (lM x) (λO=>O (Fw y)) (Fw y) (aX y.key 1 (qD K x h) (eH y.key (Ap y) (qD K x h) (G2 (jG x) (lM x) (λO=>O (Fw y)) (Fw y) (λA=>He A h (λB C=>∃I1 j,(∃c,I1 c/\oO (lM x) c.2.2.1/\oO B (Et c)/\tE v/\lB v/\bP x.1 c.1/\bC y.aa (AD c)/\cT y.aa (AD c)/\bX (bB c.2.1) C (wK c) h h)/\∀c,I1 c->aX c.2.1 (aF (AD c)) (aM (λn t=>aR (AD c).a n t/\0<=(↑c.2.1:Int)/\c.2.1<aF (AD c)/\∃e,aK (wK c) h n (bI t c.2.1 2) (qH e.name e.kind)/\∃u,let H:=G2 (wK c) (Et c) (λO=>O (vP e)) (vP e) (λf=>yH e 3 (yH e 4 (yH e 5 (K bH f h) I1 j c v (λd=>yJ c d f h)) I1 j c v (λd=>yJ c d f h)) I1 j c v (λd=>yJ c d f h));eO (iR e.name) (iR u)/\cC (tA u) (K bH (wK c) h) (JD (wK c) (Et c) (λO=>O (vP e)) (vP e) H (λk g=>HJ (vP e) g k (branch g (K bH (wK c) h) H))))) (∃d,I d/\z d<z x/\oO c.2.2.1 (lM d)/\tE v/\lB v/\fI (bA c.1 1)=bR d.1/\wK c=jG d/\h=h/\True)))))) (λk e=>HJ (Fw y) e k (branch e (qD K x h) (aX y.key 1 (qD K x h) (eH y.key (Ap y) (qD K x h) (G2 (jG x) (lM x) (λO=>O (Fw y)) (Fw y) (λA=>He A h (λB C=>∃I1 j,(∃c,I1 c/\oO (lM x) c.2.2.1/\oO B (Et c)/\tE v/\lB v/\bP x.1 c.1/\bC y.aa (AD c)/\cT y.aa (AD c)/\bX (bB c.2.1) C (wK c) h h)/\∀c,I1 c->aX c.2.1 (aF (AD c)) (aM (λn t=>aR (AD c).a n t/\0<=(↑c.2.1:Int)/\c.2.1<aF (AD c)/\∃g,aK (wK c) h n (bI t c.2.1 2) (qH g.name g.kind)/\∃u,eO (iR g.name) (iR u)/\cC (tA u) (K bH (wK c) h) (JD (wK c) (Et c) (λO=>O (vP g)) (vP g) (G2 (wK c) (Et c) (λO=>O (vP g)) (vP g) (λf=>yH g 3 (yH g 4 (yH g 5 (K bH f h) I1 j c v (λd=>yJ c d f h)) I1 j c v (fun d=>yJ c d f h)) I1 j c v (λd=>yJ c d f h))) (λG D=>HJ (vP g) D G (branch D (K bH (wK c) h) (G2 (wK c) (Et c) (λO=>O (vP g)) (vP g) (λf=>yH g 3 (yH g 4 (yH g 5 (K bH f h) I1 j c v (λd=>yJ c d f h)) I1 j c v (λd=>yJ c d f h)) I1 j c v (λd=>yJ c d f h)))))))) (∃d,I d/\z d<z x/\oO c.2.2.1 (lM d)/\tE v/\lB v/\fI (bA c.1 1)=bR d.1/\wK c=jG d/\h=h/\True)))))))))) (K eE (jG x) h)))
def aaJ(v:bQ)(i:Nat):ST:=λm h K=>aM (λb o=>aR (kI v) b o/\0<=(↑i:Int)/\i<aF v.c/\∃y,aK m h b (bI o i 5) (Af y)/\∃s,eO (iR y.name) (iR s)/\dJ (!(tA s)) (K bH m h) (Ap y==0) (K bH m h) (aX y.key 1 (K bH m h) (eH y.key (Ap y) (K bH m h) (Rx (λI x=>I x/\qZ i/\eP 2/\bY/\bB x.1/\aW v/\Hh y x/\m=m/\dC h h) (λI n x=>I x->aX x.1 i (aM (λf g=>aR (kI v) f g/\0<=(↑x.1:Int)/\x.1<aF v.c/\∃j,aK m h f (fJ (bI g x.1 5)) (Bv j)/\branch (j.toList==x.2.name.toList) (K bH m h) (∃d,I d/\n d<n x/\qZ i/\gZ/\bY/\fI (bA x.1 1)=bR d.1/\aW v/\Hh x.2 d/\gM m m h h))) (Rx (λI1 d=>I1 d/\bY/\cT (DC x) (DC d)/\bB d.1/\bX (Hh x.2 d) m m h h) (λI1 t d=>I1 d->aX d.1 (aF (DC d)) (aM (λf g=>aR (DC d).a f g/\0<=(↑d.1:Int)/\d.1<aF (DC d)/\∃j,aK m h f (fJ (bI g d.1 2)) (Bv j)/\∃u,eO (iR j) (iR u)/\cC (tA u) (K bH m h) (aM (λz A=>aR d.2.aa.a z A/\0<=(↑d.1:Int)/\d.1<aF (DC d)/\∃B,aK m h z (dG (bI A d.1 2)) (bV B)/\∃k,iJ B k/\cC (eA k) (K bH m h) (∃(I2:Nat×Nat×cD->Prop)(C:Nat×Nat×cD->Nat),(∃c,I2 c/\bY/\bP d.1 c.1/\bB (vH c)/\cT (DC d) (pT c).aa/\bP d.1 c.1/\oQ 74 (jR d.2)=oQ 74 (jR (pT c))/\m=m/\dC h h)/\∀c,I2 c->aX (↑(vH c):Int) c.1 (aM (λD E=>aR (pT c).aa.a D E/\0<=(↑(vH c):Int)/\(↑(vH c):Int)<aF (pT c).aa/\∃F,aK m h D (fJ (bI E (vH c) 2)) (Bv F)/\aM (λG H=>aR (pT c).aa.a G H/\0<=(↑c.1:Int)/\c.1<aF (pT c).aa/\∃J,aK m h G (fJ (bI H c.1 2)) (Bv J)/\branch (F.toList==J.toList) (K bH m h) (∃e,I2 e/\C e<C c/\bY/\bP c.1 e.1/\fI (bA (vH c) 1)=bR (vH e)/\cT (pT c).aa
 (pT e).aa/\bP c.1 e.1/\oQ 74 (jR (pT c))=oQ 74 (jR (pT e))/\gM m m h h)))) (∃e,I1 e/\t e<t d/\bY/\cT (pT c).aa (DC e)/\fI (bA c.1 1)=bR e.1/\Hh (pT c) e/\m=m/\h=h/\True)))))) (K eE m h))))))))
theorem Qf.cw{c n}(h:xZ m b ((c.map λn=>(.string n,.bool true))++[(.string n,.bool true)])):Qf m b (c++[n]):=by
 unfold Qf;grind
theorem Qf.ic{c}(h:Qf m b c):xZ m b (List.map (λp=>(p.fst,.bool p.snd)) (c.map λn=>(.string n,true))):=by
 rw[map_map];exact h
theorem Mv{β}{c:List ByteArray}{x}:∀e:Value×β,e∈(c.map λn=>(.string n,x))->∃s,e.fst=.string s:=λe d=>by
 grind
theorem ZP{β}{c:List ByteArray}{x n}(h:n∉c):∀e:Value×β,e∈(c.map λn=>(.string n,x))->e.fst=.string n->False:=λe d h'=>by
 grind
theorem Jo{β}{c:List ByteArray}{x n}(h:∀e:Value×β,e∈(c.map λn=>(.string n,x))->e.fst=.string n->False):n∉c:=λd=>h (.string n,x) (mem_map.2 ⟨n,d,rfl⟩) rfl
theorem ZQ{β}{c:List ByteArray}{x:β}{y n}(h:(.string n,y)∈(c.map λn=>(Value.string n,x))):n∈c/\y=x:=by
 grind
theorem beZ:uz 107 cUJ:=by
 refine Lr func107 ?_;rintro b0 m h K⟨v,s,rfl,hs,hK⟩;refine⟨cJX v h,rfl,aD a9Z aG,PX v m h (pY h K),bt,?_⟩;show PX v m h (pY h K);dsimp only[PX,push_cast];have hl:=hs.c.e;have a9:=hs.c.len;have hf:¬cn GA s.c->K (cB false) m h:=λh=>hK false ⟨λe=>(by cases e),λe=>(h e).elim⟩;intro b m1 hb T;refine⟨λ⟨i,C,mx⟩=>i<=s.c.length/\dh m mx/\m C=none/\Qf mx C ((s.c.take i).map xK.name)/\jD GA s.c i,λ⟨i,_,_⟩=>s.c.length-i,⟨(0,b,m1),⟨aC,(dh.refl m).dv hb.m_ T.ai,hb.m_,⟨_,_,T.y,rfl⟩,.zero⟩,MT⟩,?_⟩;rintro⟨i,C,mx⟩⟨hi,n,U,F,u⟩;dsimp only;refine aE (λV=>?_) (λb3=>.sub n (hK true ⟨λ_=>u.all aC,λ_=>rfl⟩));have⟨t,W⟩:=eF hl V;have⟨bb,o,w,ea,hr,f⟩:=hs.c.at W;have a4:=aU.e f.aa;have b4:=aU.len f.aa;have X:=f.name;have b5:=f.key;have D:¬GA (s.c.take i) t->pY h K (.val (.bool false)) mx h:=λhn=>.sub n (hf (cn.not W hn));have Y:t.name∉(s.c.take i).map xK.name->tA w.name=true->1<=w.key->w.key<=w.aa.len->cn aEX t.aa->GA (s.c.take i) t:=λh1 h2 h3 h4 h5=>⟨da,aC,aC,h1,h5⟩
 refine⟨bb,o,ea,aC,V,w,.ay hr,w.name,rfl,aB (λh1=>D λg=>?_) (λh1=>⟨_,_,F.ic,GJ,⟨_,rfl⟩,Mv,λZ=>aE (λh2=>D λg=>?_) (λh2=>aE (λh3=>D λg=>?_) (λh3=>⟨_,_,F,GJ,⟨_,rfl⟩,Mv,ZP (Jo Z),λm2 a5 z S m3 L M=>?_⟩)),λy hy=>?_⟩)⟩
 .have:=g.1;grind
 .have:=g.2.1;omega
 .have:=g.2.2.1;omega
 .have z:=Qf.cw z;have j:dh m m2:=n.dv U a5.ai;have O:dh m m3:=j.dv (j.jb L.m_) M.ai
  have a':C≠S:=λe=>by
   have⟨es,cl,e1,_⟩:=z.ex;rw[e,L.m_]at e1;cases e1
  have a0:t.name∉(s.c.take i).map xK.name:=by rw[<-X];exact Jo Z
  rw[X,<-j4 W]at z
  refine⟨λ⟨i',k,a6,a7,sl,P⟩=>i'=i/\a6=C/\a7=S/\sl=w.aa/\k<=t.aa.length/\dh m P/\Qf P C ((s.c.take (i+1)).map xK.name)/\Qf P S ((t.aa.take k).map oI.name)/\jD aEX t.aa k,λ⟨_,k,_,_,_,_⟩=>t.aa.length-k,
   ⟨(i,0,C,S,w.aa,m3),⟨rfl,rfl,rfl,rfl,aC,O,z.ai a' M.ai,⟨_,_,M.y,rfl⟩,.zero⟩,MT⟩,?_⟩
  rintro⟨i,k,C,S,_,P⟩⟨rfl,rfl,rfl,rfl,hk,d,G,H,a1⟩;dsimp only;refine aE (λI=>?_) (λb'=>?_)
  .have⟨c,hc⟩:=eF a4 I;have⟨bc,oc,ec,rc⟩:=Ij.at f.aa hc;have A:∀mz,dh m mz->¬aEX (t.aa.take k) c->pY h K (.val (.bool false)) mz h:=λmz hz hn=>.sub hz (hf (cn.not W (λg=>cn.not hc hn g.2.2.2.2)));refine⟨bc,oc,ec,aC,I,c,.ay rc,c.name,rfl,aB (λh4=>A P d λg=>?_) (λh4=>⟨_,_,H.ic,GJ,⟨_,rfl⟩,Mv,λJ=>⟨_,_,H,GJ,⟨_,rfl⟩,Mv,ZP (Jo J),λm4 a2 E=>?_⟩,λy hy=>?_⟩)⟩
   .rw[g.1]at h4;cases h4
   .have E:=Qf.cw E;rw[<-j4 hc]at E;have B:dh m m4:=d.dv (j.jb L.m_) a2.ai;have Q:eA c.kind=true->aEX (t.aa.take k) c:=λe=>⟨da,e,Jo J⟩
    have R:eA c.kind=false->¬aEX (t.aa.take k) c:=λe g=>by rw[g.2.1]at e;cases e
    have a8:=G.ai a' a2.ai
    repeat' (first|(refine aB (λ_=>?_) (λ_=>?_))|(refine A m4 B (R ?_);grind[eA])|exact⟨(i,k+1,C,S,w.aa,m4),⟨rfl,rfl,rfl,rfl,gt,B,a8,E,a1.succ hc (Q (by simp_all[eA]))⟩,ge,MT⟩)
   .obtain⟨a3,rfl⟩:=ZQ hy;exact aB (λ_=>A P d λg=>g.2.2 a3) (λe=>by cases e)
  .refine⟨(i+1,C,P),⟨aC,d,U,G,u.succ W (Y a0 da aC aC (a1.all aC))⟩,?_,MT⟩;omega
 .obtain⟨a3,rfl⟩:=ZQ hy;exact aB (λ_=>D λg=>g.2.2.2.1 da) (λe=>by cases e)
theorem SE{α}{f:α->ByteArray}{l:List α}{x n}(hx:l[i]?=some x)(h:n∉(l.take i).map f)(c:f x≠n):n∉(l.take (i+1)).map f:=by
 grind[j4]
theorem dCQ{α}{f:α->ByteArray}{l:List α}{k x n}(hx:l[i]?=some x)(d:i<k)(c:f x=n):n∈(l.take k).map f:=
 mem_map.2 ⟨x,mem_of_getElem? (i:=i) da,c⟩
theorem bTX:uz 97 cQJ:=by
 refine gV func97 ?_;rintro a2 m h K⟨v,s,t,i,rfl,G,V,W⟩;refine⟨daJ v i m h,rfl,aD baJ (aD Vf aG),aaJ v i,by kernel_rfl,?_⟩;dsimp only[aaJ,push_cast];have hl:=G.c.e;have X:=G.c.len;have a3:i<s.c.length:=(List.getElem?_eq_some_iff.1 V).1;have g:¬GA (s.c.take i) t->K (.val (.bool false)) m h:=λh=>W false ⟨λe=>(by cases e),λe=>(h e).elim⟩;obtain⟨bb,o,w,ea,hr,d⟩:=G.c.at V;have H:=aU.e d.aa;have a4:=aU.len d.aa;have E:=d.name;have a5:=d.key;refine⟨bb,o,ea,aC,aC,w,.ay hr,w.name,rfl,aB (λh1=>g λf=>?_) (λh1=>aB (λh2=>g λf=>?_) (λh2=>aE (λh3=>g λf=>?_) (λh3=>aE (λh4=>g λf=>?_) (λh4=>?_))))⟩
 .have:=f.1;grind
 .have:=f.2.1;have:=f.2.2.1;grind
 .have:=f.2.1;omega
 .have:=f.2.2.1;omega
 refine⟨λ⟨k,B⟩=>B=w/\k<=i/\t.name∉(s.c.take k).map xK.name,λ⟨k,_⟩=>i-k,⟨(0,w),⟨rfl,aC,by simp⟩,MT⟩,?_⟩;rintro⟨k,w⟩⟨rfl,hk,F⟩;dsimp only;refine aE (λn=>?_) (λa6=>?_)
 .obtain⟨Y,C⟩:∃Y,s.c[k]?=some Y:=⟨s.c[k]'(by omega),getElem?_eq_getElem _⟩
  obtain⟨b',o',B,I,J,u⟩:=G.c.at C;refine⟨b',o',I,aC,aC,B.name,.ay (bJ.part J 0 1),aB (λe=>g λf=>?_) (λe=>?_)⟩
  .refine f.2.2.2.1 (dCQ C aC ?_);rw[<-u.name,<-E];grind[Ej]
  .refine⟨(k+1,w),⟨rfl,aC,SE C F λZ=>?_⟩,aC,MT⟩;rw[<-u.name,<-E]at Z
   grind
 .have L:k=i:=by omega
  subst L;refine⟨λ⟨k,B⟩=>B=w/\k<=t.aa.length/\jD aEX t.aa k,λ⟨k,_⟩=>t.aa.length-k,⟨(0,w),⟨rfl,aC,.zero⟩,MT⟩,?_⟩;rintro⟨c,w⟩⟨rfl,hc,hg⟩;dsimp only;refine aE (λn=>?_) (λa'=>W true ⟨λ_=>⟨by grind,aC,aC,F,hg.all aC⟩,λ_=>rfl⟩);obtain⟨x,D⟩:=eF H n;obtain⟨M,O,P,Q⟩:=Ij.at d.aa D;have z:¬aEX (t.aa.take c) x->K (.val (.bool false)) m h:=λhn=>g λf=>cn.not D hn f.2.2.2.2;refine⟨M,O,P,aC,n,x.name,.ay (bJ.part Q 0 1),x.name,rfl,aB (λR=>z λf=>?_) (λR=>⟨M,O,P,aC,n,x.kind,.ay (bJ.part Q 1 1),x.kind,rfl,aB (λS=>z λf=>?_) (λS=>?_)⟩)⟩
  .rw[f.1]at R;cases R
  .rw[f.2.1]at S;cases S
  refine⟨λ⟨c',j,B⟩=>B=w/\c'=c/\j<=c/\x.name∉(t.aa.take j).map oI.name,λ⟨_,j,_⟩=>c-j,⟨(c,0,w),⟨rfl,rfl,aC,by simp⟩,MT⟩,?_⟩;rintro⟨c,j,w⟩⟨rfl,rfl,hj,A⟩;dsimp only;refine aE (λa0=>?_) (λa1=>?_)
  .obtain⟨y,T⟩:∃y,t.aa[j]?=some y:=⟨t.aa[j]'(by omega),getElem?_eq_getElem _⟩
   obtain⟨U,oy,ey,ry⟩:=Ij.at d.aa T;refine⟨U,oy,ey,aC,aC,y.name,.ay (bJ.part ry 0 1),M,O,P,aC,n,x.name,.ay (bJ.part Q 0 1),aB (λe=>z λf=>?_) (λe=>?_)⟩
   .exact f.2.2 (dCQ T aC (Ej (by simpa using e)))
   .refine⟨(c,j+1,w),⟨rfl,rfl,by grind,SE T A λZ=>?_⟩,by grind,MT⟩
    grind
  .have:j=c:=by omega
   subst this;exact⟨(j+1,w),⟨rfl,aC,hg.succ D ⟨by grind,by grind,A⟩⟩,aC,MT⟩
def LQ(t g:xK)(k:Nat)(c:Int):=0<=c/\c<t.aa.length/\∃x y,t.aa[c.toNat]?=some x/\g.aa[k]?=some y/\x.kind=y.kind
def cTX(km:List xK)(t:xK)(_:List Ref)(r:Ref):=0<=r.ah/\r.ah<km.length/\∃g,km[r.ah.toNat]?=some g/\(r.aa.length:Int)=g.key/\cn (λd c=>LQ t g d.length c) r.aa
def Ic(km _:List xK)(t:xK):=cn (cTX km t) t.ga
def cTQ:AC:=λc m h K=>∃v s,c=[aS v]/\dV h s v/\cn GA s.c/\∀r:Bool,(r=true↔cn (Ic s.c) s.c)->K (cB r) m h
def bDZ:AC:=λc m h K=>∃v s t,∃i:Nat,c=[aS v,cI i]/\dV h s v/\cn GA s.c/\s.c[i]?=some t/\∀r:Bool,(r=true↔Ic s.c [] t)->K (cB r) m h
def cJQ(v:bQ)(m:MH)(h:PH):=
 dD [] [(2,{A:=Nat,st:=λi=>bO 82 83 ([SW 1]++WF 11 v.c i) [UV 1 29 v.ag] m h}),
  (5,{A:=Nat×Nat×cD,st:=λ⟨i,k,w⟩=>bO 82 83 ([SW 1,SW 4,(11,sv v.c),(12,iv v.c.len),(13,iv i)]++WF 18 w.ba k) [UV 1 29 v.ag,UV 4 74 w.ag] m h}),
  (13,{A:=Nat×Nat×Nat×cD×cD×Sl,st:=λ⟨i,k,j,w,g,c⟩=>bO 82 83 ([SW 1,SW 4,SW 7,(11,sv v.c),(12,iv v.c.len),(13,iv i),(18,sv w.ba),(19,iv w.ba.len),(20,iv k)]++WF 48 c j) [UV 1 29 v.ag,UV 4 74 w.ag,UV 7 74 g.ag] m h})] [] [] false
def daZ(v:bQ)(m:MH)(h:PH):=
 dD [] [(3,{A:=Nat×cD,st:=λ⟨k,w⟩=>bO 85 87 ([SW 2,SW 5]++WF 16 w.ba k) [UV 2 29 v.ag,UV 5 74 w.ag] m h}),
  (8,{A:=Nat×Nat×cD×Ii,st:=λ⟨k,j,w,r⟩=>bO 85 87 ([SW 2,SW 5,SW 7,(16,sv w.ba),(17,iv w.ba.len),(18,iv k)]++WF 47 r.aa j) [UV 2 29 v.ag,UV 5 74 w.ag,UV 7 126 r.ag] m h})] [] [] false
def PU(v:bQ):ST:=λm h K=>mF (λI x=>I x/\gY/\tE v/\lB v/\bB x/\aW v/\m=m/\h=h/\True) (λI n x=>JN (I x) x v (λb o y=>aK m h b (bI o x 5) (Af y)/\∃(I1:Nat×Nat×cD->Prop)(t:Nat×Nat×cD->Nat),(∃d,I1 d/\gY/\eP 4/\tE v/\lB v/\bP x d.1/\FF y (pT d)/\D6 y (pT d)/\bB (vH d)/\aW v/\oQ 74 (jR y)=oQ 74 (jR (pT d))/\m=m/\dC h h)/\∀d,I1 d->aX (↑(vH d):Int) (aF (pT d).ba) (aM (λu z=>aR (pT d).ba.a u z/\0<=(↑(vH d):Int)/\(↑(vH d):Int)<aF (pT d).ba/\∃f:Ii,aK m h u (bI z (vH d) 2) (Ep f.aa f.ah)/\aX
 f.ah 0 (K bH m h) (iA f.ah (iS v) (K bH m h) (aM (λA B=>aR (kI v) A B/\0<=f.ah/\f.ah<aF v.c/\∃j,aK m h A (dN B f.ah 5) (Af j)/\cM (aF f.aa) j.key (K bH m h) (∃(I2:Nat×Nat×Nat×cD×cD×Sl->Prop)(C:Nat×Nat×Nat×cD×cD×Sl->Nat),(∃c,I2 c/\gY/\eP 4/\eP 7/\tE v/\lB v/\bP d.1 c.1/\FF (pT d) (zC c)/\D6 (pT d) (zC c)/\bP (vH d) c.2.1/\bC f.aa (Ch c)/\cT f.aa (Ch c)/\bB (Bf c)/\aW v/\oQ 74 (jR (pT d))=oQ 74 (jR (zC c))/\oQ 74 (jR j)=oQ 74 (jR (J7 c))/\gM m m h h)/\∀c,I2 c->aX (↑(Bf c):Int) (aF (Ch c)) (aM (λD E=>aR (Ch c).a D E/\0<=(↑(Bf c):Int)/\(↑(Bf c):Int)<aF (Ch c)/\∃g,aK m h D (bI E (Bf c) 1) (bV g)/\aX g 0 (K bH m h) (iA g (Ap (zC c)) (K bH m h) (aM (λF G=>aR (zC c).aa.a F G/\0<=g/\g<aF (zC c).aa/\∃H,aK m h F (dG (dN G g 2)) (bV H)/\aM (λJ L=>aR (J7 c).aa.a J L/\0<=(↑(Bf c):Int)/\(↑(Bf c):Int)<aF (J7 c).aa/\∃M,aK m h J (dG (bI L (Bf c) 2)) (bV M)/\cM H M (K bH m h) (∃e,I2 e/\C e<C c/\gY/\eZ/\eP 7/\tE v/\lB v/\bP c.1 e.1/\FF (zC c) (zC e)/\D6 (zC c) (zC e)/\bP c.2.1 e.2.1/\bC (Ch c) (Ch e)/\cT (Ch c) (Ch e)/\fI (bA (Bf c) 1)=bR (Bf e)/\aW v/\oQ 74 (jR (zC c))=oQ 74 (jR (zC e))/\bX (oQ 74 (jR (J7 c))=oQ 74 (jR (J7 e))) m m h h))))))) (∃e,I1 e/\t e<t d/\gY/\eZ/\tE v/\lB v/\bP c.1 e.1/\FF (zC c) (pT e)/\D6 (zC c) (pT e)/\fI (bA c.2.1 1)=bR (vH e)/\aW v/\oQ 74 (jR (zC c))=oQ 74 (jR (pT e))/\eV (m=m) (h=h)))))))) (∃c,I c/\n c<n x/\gY/\tE v/\lB v/\fI (bA d.1 1)=bR c/\aW v/\m=m/\dC h h)) (K eE m h))
def Th(v:bQ)(i:Nat):ST:=λm h K=>aM (λb o=>aR (kI v) b o/\0<=(↑i:Int)/\i<aF v.c/\∃y,aK m h b (bI o i 5) (Af y)/\Rx (λI x=>I x/\gZ/\eP 5/\FF y x.2/\D6 y x.2/\bB x.1/\aW v/\Hh y x/\gM m m h h) (λI j x=>I x->aX x.1 (aF x.2.ba) (ab x.2.ba x.1 2 (λe:Ii=>Ep e.aa e.ah) m h (λe=>aX e.ah 0 (K bH m h) (iA e.ah (iS v) (K bH m h) (aM (λu z=>aR (kI v) u z/\0<=e.ah/\e.ah<aF v.c/\∃A,aK m h u (dN z e.ah 5+2) (bV A)/\cM (aF e.aa) A (K bH m h) (∃(I1:Nat×Nat×cD×Ii->Prop)(B:Nat×Nat×
 cD×Ii->Nat),(∃c,I1 c/\gZ/\eP 5/\eP 7/\FF x.2 (zD c)/\D6 x.2 (zD c)/\bP x.1 c.1/\bC e.aa (yK c)/\cT e.aa (yK c)/\bB c.2.1/\aW v/\oQ 74 (jR x.2)=oQ 74 (jR (zD c))/\bX (oQ 126 ([rF e.aa,jX e.ah])=oQ 126 ([rF (yK c),jX (Hg c)])) m m h h)/\∀c,I1 c->aX c.2.1 (aF (yK c)) (aM (λC D=>aR (yK c).a C D/\0<=(↑c.2.1:Int)/\c.2.1<aF (yK c)/\∃f,aK m h C (bI D c.2.1 1) (bV f)/\aX f 0 (K bH m h) (iA f (Ap (zD c)) (K bH m h) (aM (λE F=>aR (zD c).aa.a E F/\0<=f/\f<aF (zD
 c).aa/\∃G,aK m h E (dG (dN F f 2)) (bV G)/\aM (λH J=>aR (kI v) H J/\0<=Hg c/\Hg c<aF v.c/\∃g,aK m h H (dG (dN J (Hg c) 5)) (aT g)/\aM (λL M=>aR g.a L M/\0<=(↑c.2.1:Int)/\c.2.1<aF g/\∃O,aK m h L (dG (bI M c.2.1 2)) (bV O)/\cM G O (K bH m h) (∃d,I1 d/\B d<B c/\gZ/\bY/\eP 7/\bC (zD c).ba (zD d).ba/\D6 (zD c) (zD d)/\bP c.1 d.1/\bC (yK c) (yK d)/\cT (yK c) (yK d)/\fI (bA c.2.1 1)=bR d.2.1/\aW v/\oQ 74 (jR (zD c))=oQ 74 (jR (zD d))/\oQ 126 ([rF (yK c),jX (Hg
 c)])=oQ 126 ([rF (yK d),jX (Hg d)])/\m=m/\h=h/\True)))))))) (∃d,I d/\j d<j x/\gZ/\bY/\FF (zD c) d.2/\D6 (zD c) d.2/\fI (bA c.1 1)=bR d.1/\aW v/\bX (Hh (zD c) d) m m h h))))))) (K eE m h)))
theorem an.im{s}(r:an h s l){x}(c:l[i]?=some x):∃b o,s.a=some ⟨b,o,none⟩/\bJ h b (o+i*1) [.int .i64 x]:=by
 have⟨b,o,e,k⟩:=r.at c
 grind
theorem Zd{α}{l:List α}{x}(h:l[i]?=some x):(l.take i).length=i:=by
 grind
theorem cn.qp{km}(h:cn GA km){g}(c:km[i]?=some g):g.key<=g.aa.length:=(h i g c).2.2.1
theorem dvZ{v}(O:dV h s v)(D:cn GA s.c)(hK:∀r:Bool,(r=true↔cn (Ic s.c) s.c)->K (cB r) m h):PU v m h K:=by
 dsimp only[PU,push_cast];have hl:=O.c.e;have a9:=O.c.len;have hf:¬cn (Ic s.c) s.c->K (.val (.bool false)) m h:=λh=>hK false ⟨λe=>(by cases e),λe=>(h e).elim⟩;refine⟨λi=>i<=s.c.length/\jD (Ic s.c) s.c i,λi=>s.c.length-i,⟨0,⟨aC,.zero⟩,MT⟩,λi⟨hi,hg⟩=>aE (λI=>?_) (λb7=>hK true ⟨λ_=>hg.all aC,λ_=>rfl⟩)⟩;have⟨t,Q⟩:=eF hl I;have⟨b,o,w,ea,hr,f⟩:=O.c.at Q;have b8:=aU.e f.aa;have R:=aU.e f.ga;have b9:=aU.len f.ga;refine⟨b,o,ea,aC,I,w,.ay hr,λ⟨S,k,T⟩=>S=i/\T=w/\k<=t.ga.length/\jD (cTX s.c t) t.ga k,λ⟨_,k,_⟩=>t.ga.length-k,⟨(i,0,w),⟨rfl,rfl,aC,.zero⟩,MT⟩,?_⟩;rintro⟨i,k,w⟩⟨rfl,rfl,hk,J⟩;dsimp only;refine aE (λB=>?_) (λb'=>⟨i+1,⟨aC,hg.succ Q (J.all aC)⟩,aC,MT⟩);have⟨r,E⟩:=eF R B;have⟨b2,o2,G,U,V,d⟩:=f.ga.at E;have W:=d.aa.e;have c':=d.aa.len;have rt:=d.ah;have A:¬cTX s.c t (t.ga.take k) r->K (.val (.bool false)) m h:=λhn=>hf (cn.not Q (cn.not E hn));refine⟨b2,o2,U,aC,B,G,.ay V,aE (λh1=>A λu=>?_) (λh1=>aE (λh2=>A λu=>?_) (λh2=>?_))⟩
 .have:=u.1;omega
 .have:=u.2.1;omega
 have⟨g,b3,o3,H,L,X,Y,n⟩:=O.ah (t:=G.ah) aC aC;have c0:=aU.e n.aa;have b0:=D.qp L;have gk:=n.key;refine⟨b3,o3,X,aC,aC,H,.ay Y,aB (λh3=>A λu=>?_) (λh3=>?_)⟩
 .obtain⟨_,_,Z,F,c1,_⟩:=u
  grind
 have h3:(G.aa.len:Int)=H.key:=da
 refine⟨λ⟨S,k',j,T,Z,sl⟩=>S=i/\k'=k/\T=w/\Z=H/\sl=G.aa/\j<=r.aa.length/\jD (λa' c=>LQ t g a'.length c) r.aa j,λ⟨_,_,j,_,_,_⟩=>r.aa.length-j,⟨(i,k,0,w,H,G.aa),⟨rfl,rfl,rfl,rfl,rfl,aC,.zero⟩,MT⟩,?_⟩;rintro⟨i,k,j,w,H,_⟩⟨rfl,rfl,rfl,rfl,rfl,hj,M⟩;dsimp only;refine aE (λC=>?_) (λb1=>⟨(i,k+1,w),⟨rfl,rfl,da,J.succ E ⟨aC,aC,g,da,aC,M.all aC⟩⟩,da,MT⟩);have⟨c,P⟩:=eF W C;have⟨b4,o4,a0,a1⟩:=d.aa.im P;have c2:=Zd P
 have z:¬LQ t g j c->K (.val (.bool false)) m h:=λhn=>A λu=>by
  obtain⟨_,_,Z,F,_,a2⟩:=u;rw[<-rt,L]at F;cases F;have:=a2 j c P
  grind
 refine⟨b4,o4,a0,aC,C,c,.ay a1,aE (λh5=>z λu=>?_) (λh5=>aE (λh6=>z λu=>?_) (λh6=>?_))⟩
 .have:=u.1;omega
 .have:=u.2.1;omega
 obtain⟨x,a3⟩:∃x,t.aa[c.toNat]?=some x:=⟨t.aa[c.toNat]'(by omega),sh _⟩
 obtain⟨y,a4⟩:∃y,g.aa[j]?=some y:=⟨g.aa[j]'(by omega),sh _⟩
 have⟨b5,o5,a5,a6⟩:=Ij.at f.aa a3;have⟨b6,o6,a7,a8⟩:=Ij.at n.aa a4;refine⟨b5,o5,a5,aC,aC,x.kind,.ay (bJ.part a6 1 1),b6,o6,a7,aC,aC,y.kind,.ay (bJ.part a8 1 1),aB (λh7=>z λu=>?_) (λh7=>?_)⟩
 .obtain⟨_,_,x',y',e1,e2,e3⟩:=u
  grind
 .exact⟨(i,k,j+1,w,H,G.aa),⟨rfl,rfl,rfl,rfl,rfl,da,M.succ P (by grind[LQ,List.take])⟩,da,MT⟩
theorem beX:uz 108 cTQ:=by
 refine gV func108 ?_;rintro c m h K⟨v,s,rfl,d,e,f⟩;refine⟨cJQ v m h,rfl,aG,PU v,bt,?_⟩;exact dvZ d e f
theorem dNJ{v t}(O:dV h s v)(D:cn GA s.c)(hx:s.c[i]?=some t)(hK:∀r:Bool,(r=true↔Ic s.c [] t)->K (cB r) m h):Th v i m h K:=by
 dsimp only[Th,push_cast];have hl:=O.c.e;have a5:=O.c.len;have a9:i<s.c.length:=(sg hx);have hf:¬Ic s.c [] t->K (.val (.bool false)) m h:=λh=>hK false ⟨λe=>(by cases e),λe=>(h e).elim⟩;have⟨b,o,w,ea,hr,f⟩:=O.c.at hx;have b':=aU.e f.aa;have Q:=aU.e f.ga;have b0:=aU.len f.ga;refine⟨b,o,ea,aC,aC,w,.ay hr,λ⟨k,R⟩=>R=w/\k<=t.ga.length/\jD (cTX s.c t) t.ga k,λ⟨k,_⟩=>t.ga.length-k,⟨(0,w),⟨rfl,aC,.zero⟩,MT⟩,?_⟩;rintro⟨k,w⟩⟨rfl,hk,H⟩;dsimp only;refine aE (λB=>?_) (λa6=>hK true ⟨λ_=>H.all aC,λ_=>rfl⟩);have⟨r,E⟩:=eF Q B;have⟨b2,o2,F,S,T,d⟩:=f.ga.at E;have U:=d.aa.e;have b1:=d.aa.len;have rt:=d.ah;have A:¬cTX s.c t (t.ga.take k) r->K (.val (.bool false)) m h:=λhn=>hf (cn.not E hn);refine⟨b2,o2,S,aC,B,F,.ay T,aE (λh1=>A λu=>?_) (λh1=>aE (λh2=>A λu=>?_) (λh2=>?_))⟩
 .have:=u.1;omega
 .have:=u.2.1;omega
 have⟨g,b3,o3,V,I,J,L,n⟩:=O.ah (t:=F.ah) aC aC;have b7:=aU.e n.aa;have a7:=D.qp I;have gk:=n.key;refine⟨b3,o3,J,aC,aC,V.key,.ay (bJ.part L 2 1),aB (λh3=>A λu=>?_) (λh3=>?_)⟩
 .obtain⟨_,_,g',G,b8,_⟩:=u
  grind
 have h3:(F.aa.len:Int)=V.key:=da
 refine⟨λ⟨k',j,R,r'⟩=>k'=k/\R=w/\r'=F/\j<=r.aa.length/\jD (λW c=>LQ t g W.length c) r.aa j,λ⟨_,j,_,_⟩=>r.aa.length-j,⟨(k,0,w,F),⟨rfl,rfl,rfl,aC,.zero⟩,MT⟩,?_⟩;rintro⟨k,j,w,F⟩⟨rfl,rfl,rfl,hj,M⟩;dsimp only;refine aE (λC=>?_) (λa8=>⟨(k+1,w),⟨rfl,aC,H.succ E ⟨aC,aC,g,da,aC,M.all aC⟩⟩,aC,MT⟩);have⟨c,P⟩:=eF U C;have⟨b4,o4,X,Y⟩:=d.aa.im P;have b9:=Zd P
 have z:¬LQ t g j c->K (.val (.bool false)) m h:=λhn=>A λu=>by
  obtain⟨_,_,g',G,_,Z⟩:=u;rw[<-rt,I]at G;cases G;have:=Z j c P
  grind
 refine⟨b4,o4,X,aC,C,c,.ay Y,aE (λh5=>z λu=>?_) (λh5=>aE (λh6=>z λu=>?_) (λh6=>?_))⟩
 .have:=u.1;omega
 .have:=u.2.1;omega
 obtain⟨x,a'⟩:∃x,t.aa[c.toNat]?=some x:=⟨t.aa[c.toNat]'(by omega),sh _⟩
 obtain⟨y,a0⟩:∃y,g.aa[j]?=some y:=⟨g.aa[j]'(by omega),sh _⟩
 have⟨b5,o5,a1,a2⟩:=Ij.at f.aa a';have⟨b6,o6,a3,a4⟩:=Ij.at n.aa a0;refine⟨b5,o5,a1,aC,aC,x.kind,.ay (bJ.part a2 1 1),b3,o3,J,aC,aC,V.aa,.ay (bJ.part L 1 1),b6,o6,a3,aC,aC,y.kind,.ay (bJ.part a4 1 1),aB (λh7=>z λu=>?_) (λh7=>?_)⟩
 .obtain⟨_,_,x',y',e1,e2,e3⟩:=u
  grind
 .exact⟨(k,j+1,w,F),⟨rfl,rfl,rfl,da,M.succ P (by grind[LQ,List.take])⟩,da,MT⟩
theorem bTQ:uz 98 bDZ:=by
 refine gV func98 ?_;rintro c m h K⟨v,s,t,i,rfl,d,e,f,g⟩;refine⟨daZ v m h,rfl,aG,Th v i,bt,?_⟩;exact dNJ d e f g
def T4(t:xK):=t.aa.length<=8/\t.ga.length<=4/\t.cd.length<=4
def Gb(s:kD):=s.c.length<=8/\cn (λ_ t=>T4 t) s.c
def OB(s:kD):=0<=s.dc/\s.dc<=1000/\cn GA s.c/\cn (Ic s.c) s.c
def oT:ti->Int
 |[]=>0
 |e::r=>if e=0 then oT r else e
def AX(s:kD)(i:Nat):=match s.c[i]? with|some t=>t.cd.map (kE (fC s i) [])|none=>[]
theorem Aq a b(h:∀e∈a,e=0):oT (a++b)=oT b:=by
 induction a with
 |nil=>rfl
 |cons x a c=>
  simp_all[oT,cons_append]
theorem wG a(h:∀e∈a,e=0):oT a=0:=by
 have:=Aq a [] h
 grind[oT]
theorem QT{n k f e}(o:i<n)(t:∀j<i,∀x∈f j,x=0)(c:∀x∈(f i).take k,x=0)(d:(f i)[k]?=some e)(g:e≠0):oT ((List.range n).flatMap f)=e:=by
 obtain⟨r,rfl⟩:∃r,n=i+(1+r):=⟨n-i-1,aC⟩
 rw[range_add,flatMap_append,Aq]
 .rw[show(List.range (1+r)).map (i+ ·)=i::(range' (i+1) r)from ?_,flatMap_cons,<-take_append_drop k (f i),append_assoc,Aq _ _ c,ci d]
  .simp[oT,g]
  .rw[Nat.add_comm 1 r,range_succ_eq_map];simp[range'_eq_map_range,Nat.add_assoc,Nat.add_comm 1]
 grind
open Classical in
def dO(s:kD):Int:=if Gb s then(if OB s then oT ((List.range s.c.length).flatMap (AX s))else 70)else 2
def yY:AC:=λc m h K=>∃v s,c=[aS v]/\dV h s v/\K (cI (dO s)) m h
def dhJ(v:bQ)(m:MH)(h:PH):=
 dD [(107,cUJ),(108,cTQ),(109,yB),(110,AH)] [(4,{A:=Nat,st:=λi=>bO 83 84 ([SW 1]++WF 16 v.c i) [UV 1 29 v.ag] m h}),
  (12,{A:=Nat×PH,st:=λ⟨i,c⟩=>bO 83 84 ([SW 1]++WF 58 v.c i) [UV 1 29 v.ag] m c}),
  (16,{A:=Nat×Nat×Sl×Sl×PH,st:=λ⟨i,k,ks,cs,c⟩=>bO 83 84 ([SW 1,(7,sv ks),(58,sv v.c),(59,iv v.c.len),(60,iv i)]++WF 69 cs k) [UV 1 29 v.ag] m c})] [] [] false
def f58_ctx(v:bQ)(m:MH)(h:PH):=
 dD [(97,cQJ),(98,bDZ),(29,yB),(95,AH)] [(4,{A:=Nat,st:=λi=>bO 96 97 ([SW 1]++WF 16 v.c i) [UV 1 29 v.ag] m h}),
  (12,{A:=Nat,st:=λi=>bO 96 97 [SW 1,(49,iv v.c.len),(50,iv i)] [UV 1 29 v.ag] m h}),
  (18,{A:=Nat,st:=λi=>bO 96 97 [SW 1,(60,iv v.c.len),(61,iv i)] [UV 1 29 v.ag] m h}),
  (24,{A:=Nat×PH,st:=λ⟨i,c⟩=>bO 96 97 [SW 1,(71,iv v.c.len),(72,iv i)] [UV 1 29 v.ag] m c}),
  (27,{A:=Nat×Nat×Sl×PH,st:=λ⟨i,k,cs,c⟩=>bO 96 97 ([SW 1,(7,iv i),(71,iv v.c.len),(72,iv i)]++WF 80 cs k) [UV 1 29 v.ag] m c})] [] [] false
abbrev Dx(a:bQ)(b:PH)(c:kD->Prop):=CN (λx d=>eO (jS a) (jS x)/\dV b d x/\c d)
abbrev RI(a:(Nat×PH->Prop)->(Nat×PH)->Prop)(b:(Nat×PH->Prop)->(Nat×PH->Nat)->(Nat×PH)->Prop):=∃x d,(∃c,a x c)/\∀c,b x d c
abbrev Cd(a:uc)(b:Nat->Nat->Option Value)(c:Sl->PH->Prop):=wT (λx d f=>a=dZ (jS x) f/\dV b d x/\pE d/\jA (λg e=>cO b e (an e g (fC d f)) (c g e)))
abbrev yR(a:bQ)(b:Nat):=dZ (jS a) b
abbrev pH(a:Nat×Sl×Sl×PH):=a.2.2.1
abbrev sM(a:Nat×Sl×Sl×PH):=a.2.2.2
abbrev Jz(a:uc)(b:PH)(c:ti->ti->ao->Prop):=lC (λx d=>∃e,C7 (λf g=>∃j,a=bU x (bL (tV d) e.ag)/\an b x f/\an b d g/\fV b j e/\c f g j))
abbrev Br(a:kD)(b:Nat)(c:xK):=a.c[b]?=some c
attribute [push_cast] Dx RI Cd yR pH sM Jz Br
def Tl(v:bQ):ST:=λm h K=>eH (iS v) 8 (K (fD 2) m h) (mF (λI x=>I x/\gY/\tE v/\lB v/\bB x/\aW v/\m=m/\h=h/\True) (λI j x=>JN (I x) x v (λb o y=>aK m h b (bI o x 5) (Af y)/\wQ (decide (Ap y>8)) (K (fD 2) m h) (aF y.ba) 4 (K (fD 2) m h) (eH (aF y.cd) 4 (K (fD 2) m h) (∃e,I e/\j e<j x/\gY/\tE v/\lB v/\fI (bA x 1)=bR e/\aW v/\m=m/\dC h h))) (aX v.dc 0 (K (fD 70) m h) (eH v.dc 1000 (K (fD 70) m h) (Dx v h (λs=>∀r,(mZ r↔cn GA s.c)->cC r (K (fD 70) m h) (CN (λn g=>eO (jS v) (jS n)/\dV h g n/\cn GA g.c/\∀t,(mZ t↔cn (Ic g.c) g.c)->cC t (K (fD 70) m h)
 (RI (λI1 e=>I1 e/\gY/\tE v/\lB v/\bB e.1/\aW v/\m=m/\h=e.2/\True) (λI1 u e=>JN (I1 e) e.1 v (λb o y=>aK m e.2 b (bI o e.1 5) (Af y)/\Cd (yR v e.1) e.2 (λE F=>∃(I2:Nat×Nat×Sl×Sl×PH->Prop)(z:Nat×Nat×Sl×Sl×PH->Nat),(∃d,I2 d/\gY/\bC E d.2.2.1/\tE v/\lB v/\bP e.1 d.1/\bC y.cd (pH d.2)/\cT y.cd (pH d.2)/\mP (bB d.2.1) (aW v) (m=m) (F=sM d.2))/\∀d,I2 d->aX d.2.1 (aF (pH d.2)) (aM (λA B=>aR (pH d.2).a A B/\0<=(↑d.2.1:Int)/\d.2.1<aF (pH d.2)/\∃C:PV,aK m (sM d.2) A (bI B d.2.1 13)
 C.ag/\Jz (bU d.2.2.1 (bL EO C.ag)) (sM d.2) (λc p D=>cM (kE c p D) 0 (K (fD (kE c p D)) m (sM d.2)) (∃f,I2 f/\z f<z d/\gY/\bC d.2.2.1 f.2.2.1/\tE v/\lB v/\bP d.1 f.1/\bC (pH d.2) (pH f.2)/\cT (pH d.2) (pH f.2)/\fI (bA d.2.1 1)=bR f.2.1/\aW v/\m=m/\dC (sM d.2) (sM f.2))))) (∃f,I1 f/\u f<u e/\gY/\tE v/\lB v/\fI (bA d.1 1)=bR f.1/\aW v/\m=m/\dC (sM d.2) f.2))) (K (fD 0) m e.2)))))))))))
def ka(v:bQ):ST:=λm h K=>eH (iS v) 8 (K (fD 2) m h) (mF (λI x=>I x/\gY/\tE v/\lB v/\bB x/\aW v/\m=m/\h=h/\True) (λI z x=>JN (I x) x v (λb o y=>aK m h b (bI o x 5) (Af y)/\wQ (decide (Ap y>8)) (K (fD 2) m h) (aF y.ba) 4 (K (fD 2) m h) (eH (aF y.cd) 4 (K (fD 2) m h) (∃g,I g/\z g<z x/\gY/\tE v/\lB v/\fI (bA x 1)=bR g/\aW v/\m=m/\dC h h))) (aX v.dc 0 (K (fD 70) m h) (eH v.dc 1000 (K (fD 70) m h) (mF (λI1 g=>I1 g/\gY/\lB v/\bB g/\bX (aW v) m m h h) (λI1 A g=>I1 g->aX g (aF v.c) (CN (λn s=>∃t i,D4 (yR v g) (yR n i) (dV h s n) (Br s i t) (GA (List.take
 i s.c) t) (λr=>cC r (K (fD 70) m h) (∃j,I1 j/\A j<A g/\gY/\lB v/\fI (bA g 1)=bR j/\aW v/\m=m/\h=h/\True)))) (mF (λI2 j=>I2 j/\gY/\lB v/\bB j/\bX (aW v) m m h h) (λI2 B j=>I2 j->aX j (aF v.c) (CN (λn s=>∃t i,yR v j=yR n i/\dV h s n/\cn GA s.c/\Br s i t/\∀r,(mZ r↔Ic s.c [] t)->cC r (K (fD 70) m h) (∃e,I2 e/\B e<B j/\gY/\lB v/\fI (bA j 1)=bR e/\aW v/\m=m/\h=h/\True))) (RI (λI3 e=>I3 e/\gY/\lB v/\bB e.1/\bX (aW v) m m h e.2) (λI3 C e=>I3 e->aX e.1 (aF v.c) (aM
 (λb o=>aR (kI v) b o/\0<=(↑e.1:Int)/\e.1<aF v.c/\∃y,aK m e.2 b (bI o e.1 5+4) (aT y)/\∃(I4:Nat×Nat×Sl×PH->Prop)(D:Nat×Nat×Sl×PH->Nat),(∃d,I4 d/\gY/\bP e.1 d.1/\lB v/\bP e.1 d.1/\bC y d.2.2.1/\cT y d.2.2.1/\bB d.2.1/\bX (aW v) m m e.2 d.2.2.2)/\∀d,I4 d->aX d.2.1 (aF d.2.2.1) (ab d.2.2.1 d.2.1 13 PV.ag m d.2.2.2 (λG=>Cd (yR v d.1) d.2.2.2 (λs u=>Jz (bU s (bL EO G.ag)) u (λc p H=>cM (kE c p H) 0 (K (fD (kE c p H)) m u) (∃f,I4
 f/\D f<D d/\gY/\bP d.1 f.1/\lB v/\bP d.1 f.1/\bC d.2.2.1 f.2.2.1/\cT d.2.2.1 f.2.2.1/\mP (fI (bA d.2.1 1)=bR f.2.1) (aW v) (m=m) (u=f.2.2.2)))))) (∃f,I3 f/\C f<C e/\gY/\lB v/\fI (bA d.1 1)=bR f.1/\aW v/\m=m/\d.2.2.2=f.2/\True))) (K (fD 0) m e.2)))))))))))
theorem pY.en{hx r}(d:dh m m')(c:PH.le h hx)(e:K r m h):pY h K r m' hx:=⟨m,h,d,.refl _,c,e⟩
theorem Au(h:¬Gb s):dO s=2:=by simp_all[dO]
theorem Le(h:Gb s)(h':¬OB s):dO s=70:=by grind[dO]
theorem OR(h:Gb s)(h':OB s):dO s=oT ((List.range s.c.length).flatMap (AX s)):=by grind[dO]
theorem GG{k:Nat}{t}(hx:s.c[i]?=some t)(c:t.cd[k]?=some p):(AX s i)[k]?=some (kE (fC s i) [] p):=by
 grind[AX]
theorem Qq{t}(hx:s.c[i]?=some t):(AX s i).length=t.cd.length:=by
 grind[AX]
theorem Je{k e}(c:l[k]?=some e)(h:∀x∈l.take k,x=0)(d:e=0):∀x∈l.take (k+1),x=0:=by
 grind[sy]
theorem Y1{f:Nat->ti}{k}(h:∀j<i,∀x∈f j,x=0)(d:(f i).length<=k)(c:∀x∈(f i).take k,x=0):∀j<i+1,∀x∈f j,x=0:=by
 intro j n x g;by_cases e:j=i
 .subst e;rw[sm d]at c;exact c x g
 grind
theorem Kk:uz 66 yY:=by
 refine Lr func66 ?_;rintro a0 m h K⟨v,s,rfl,z,hK⟩;refine⟨dhJ v m h,rfl,aD beZ (aD beX (aD LA (aD TN aG))),Tl v m h (pY h K),bt,?_⟩;show Tl v m h (pY h K);dsimp only[Tl,push_cast];have X:=z.c.e;have Y:=z.c.len;have Z:=z.dc;have en:∀(g:PH)(x:Int),PH.le h g->dO s=x->pY h K (.val (.int .i64 x)) m g:=λg x n e=>.en (dh.refl m) n (by rw[<-e];exact hK);refine aE (λh1=>en h _ (.refl _) (Au λe=>by have:=e.1;omega)) (λh1=>?_);refine⟨λi=>i<=s.c.length/\jD (λ_ t=>T4 t) s.c i,λi=>s.c.length-i,⟨0,⟨aC,.zero⟩,MT⟩,λi⟨hi,hg⟩=>aE (λu=>?_) (λP=>?_)⟩
 .have⟨t,g⟩:=eF X u;have⟨b,o,w,Q,C,c⟩:=z.c.at g;have e1:=aU.e c.aa;have e2:=aU.e c.ga;have e3:=aU.e c.cd;have d:¬T4 t->pY h K (.val (.int .i64 2)) m h:=λR=>en h _ (.refl _) (Au λe=>cn.not g R e.2);refine⟨b,o,Q,aC,u,w,.ay C,aE (λS=>d λe=>?_) (λS=>aE (λT=>d λe=>?_) (λT=>aE (λI=>d λe=>?_) (λI=>⟨i+1,⟨aC,hg.succ g ⟨aC,aC,aC⟩⟩,da,MT⟩)))⟩
  .have:=e.1;omega
  .have:=e.2.1;omega
  .have:=e.2.2;omega
 have D:Gb s:=⟨aC,hg.all aC⟩
 have h8:pE s:=λt J=>by
  have⟨j,hj⟩:=mem_iff_getElem?.1 J;exact(D.2 j t hj).1
 have d:¬OB s->pY h K (.val (.int .i64 70)) m h:=λR=>en h _ (.refl _) (Le D R);refine aE (λS=>d λe=>?_) (λS=>aE (λT=>d λe=>?_) (λT=>⟨v,s,rfl,z,λr C=>aB (λI=>d λe=>?_) (λI=>⟨v,s,rfl,z,C.1 da,λr2 L=>aB (λU=>d λe=>?_) (λU=>?_)⟩)⟩))
 .have:=e.1;omega
 .have:=e.2.1;omega
 .rw[C.2 e.2.2.1]at I;cases I
 .rw[L.2 e.2.2.2]at U;cases U
 have ok:OB s:=⟨aC,aC,C.1 da,L.1 da⟩
 rw[OR D ok]at en;refine⟨λ⟨i,g⟩=>i<=s.c.length/\PH.le h g/\∀j<i,∀x∈AX s j,x=0,λ⟨i,_⟩=>s.c.length-i,⟨(0,h),⟨aC,.refl _,λj hj=>by omega⟩,MT⟩,?_⟩;rintro⟨i,g⟩⟨hi,n,hz⟩;dsimp only;refine aE (λu=>?_) (λP=>en g _ n (wG _ λe he=>?_))
 .have⟨t,J⟩:=eF X u;have⟨b,o,w,Q,C,c⟩:=(z.mono n).c.at J;have cl:=aU.e c.cd;have cb:=aU.len c.cd;refine⟨b,o,Q,aC,u,w,.ay C,v,s,i,rfl,z.mono n,h8,λsl h' A E=>?_⟩;refine⟨λ⟨i',k,ks,cs,F⟩=>i'=i/\cs=w.cd/\k<=t.cd.length/\PH.le h' F/\an F ks (fC s i)/\∀x∈(AX s i).take k,x=0,λ⟨_,k,_,_,_⟩=>t.cd.length-k,⟨(i,0,sl,w.cd,h'),⟨rfl,rfl,aC,.refl _,E,λx g=>by simp at g⟩,MT⟩,?_⟩;rintro⟨i,k,ks,_,F⟩⟨rfl,rfl,hk,y,f,G⟩;dsimp only;have M:PH.le h F:=(n.trans A).trans y;refine aE (λB=>?_) (λa'=>⟨(i+1,F),⟨aC,M,Y1 hz (k:=k) (by grind[Qq]) G⟩,aC,MT⟩);have⟨p,V⟩:=eF cl B;have⟨b2,o2,pv,W,O,H⟩:=((c.cd.mono A).mono y).at V;refine⟨b2,o2,W,aC,B,pv,.ay O,ks,⟨none,0,0⟩,pv,fC s i,[],p,rfl,f,⟨.nil _ _,bu⟩,H,aB (λh6=>?_) (λh6=>?_)⟩
  .exact en F _ M (QT aC hz G (GG J V) da)
  .exact⟨(i,k+1,ks,w.cd,F),⟨rfl,rfl,da,y,f,Je (GG J V) G da⟩,da,MT⟩
 .grind
theorem js:uz 58 yY:=by
 refine Lr func58 ?_;rintro a1 m h K⟨v,s,rfl,D,hK⟩;refine⟨f58_ctx v m h,rfl,aD bTX (aD bTQ (aD AQ (aD Ph aG))),ka v m h (pY h K),bt,?_⟩;show ka v m h (pY h K);dsimp only[ka,push_cast];have R:=D.c.e;have Z:=D.c.len;have a':=D.dc;have en:∀(c:PH)(x:Int),PH.le h c->dO s=x->pY h K (.val (.int .i64 x)) m c:=λc x u e=>.en (dh.refl m) u (by rw[<-e];exact hK);refine aE (λh1=>en h _ (.refl _) (Au λe=>by have:=e.1;omega)) (λh1=>?_);refine⟨λi=>i<=s.c.length/\jD (λ_ t=>T4 t) s.c i,λi=>s.c.length-i,⟨0,⟨aC,.zero⟩,MT⟩,λi⟨O,y⟩=>aE (λf=>?_) (λn=>?_)⟩
 .have⟨t,c⟩:=eF R f;have⟨b,o,w,T,B,d⟩:=D.c.at c;have e1:=aU.e d.aa;have e2:=aU.e d.ga;have e3:=aU.e d.cd;have g:¬T4 t->pY h K (.val (.int .i64 2)) m h:=λU=>en h _ (.refl _) (Au λe=>cn.not c U e.2);refine⟨b,o,T,aC,f,w,.ay B,aE (λV=>g λe=>?_) (λV=>aE (λW=>g λe=>?_) (λW=>aE (λC=>g λe=>?_) (λC=>⟨i+1,⟨aC,y.succ c ⟨aC,aC,aC⟩⟩,da,MT⟩)))⟩
  .have:=e.1;omega
  .have:=e.2.1;omega
  .have:=e.2.2;omega
 have G:Gb s:=⟨aC,y.all aC⟩
 have h8:pE s:=λt P=>by
  have⟨j,hj⟩:=mem_iff_getElem?.1 P;exact(G.2 j t hj).1
 have g:¬OB s->pY h K (.val (.int .i64 70)) m h:=λU=>en h _ (.refl _) (Le G U);refine aE (λV=>g λe=>?_) (λV=>aE (λW=>g λe=>?_) (λW=>?_))
 .have:=e.1;omega
 .have:=e.2.1;omega
 clear O y n;refine⟨λi=>i<=s.c.length/\jD GA s.c i,λi=>s.c.length-i,⟨0,⟨aC,.zero⟩,MT⟩,λi⟨O,y⟩=>aE (λf=>?_) (λn=>?_)⟩
 .have⟨t,c⟩:=eF R f;refine⟨v,s,t,i,rfl,D,c,λr B=>aB (λC=>g λe=>?_) (λC=>⟨i+1,⟨aC,y.succ c (B.1 da)⟩,da,MT⟩)⟩;rw[B.2 (e.2.2.1 i t c)]at C;cases C
 have E:=y.all aC;clear O y n;refine⟨λi=>i<=s.c.length/\jD (Ic s.c) s.c i,λi=>s.c.length-i,⟨0,⟨aC,.zero⟩,MT⟩,λi⟨O,y⟩=>aE (λf=>?_) (λn=>?_)⟩
 .have⟨t,c⟩:=eF R f;refine⟨v,s,t,i,rfl,D,E,c,λr B=>aB (λC=>g λe=>?_) (λC=>⟨i+1,⟨aC,y.succ c (B.1 da)⟩,da,MT⟩)⟩;rw[B.2 (e.2.2.2 i t c)]at C;cases C
 have H:=y.all aC;clear O y n;have ok:OB s:=⟨aC,aC,E,H⟩
 rw[OR G ok]at en;refine⟨λ⟨i,c⟩=>i<=s.c.length/\PH.le h c/\∀j<i,∀x∈AX s j,x=0,λ⟨i,_⟩=>s.c.length-i,⟨(0,h),⟨aC,.refl _,λj hj=>by omega⟩,MT⟩,?_⟩;rintro⟨i,c⟩⟨O,u,hz⟩;dsimp only;refine aE (λf=>?_) (λn=>en c _ u (wG _ λe he=>?_))
 .have⟨t,P⟩:=eF R f;have⟨b,o,w,T,B,d⟩:=(D.mono u).c.at P;have cl:=aU.e d.cd;have cb:=aU.len d.cd;refine⟨b,o,T,aC,f,w.cd,.ay (bJ.part B 4 1),?_⟩;refine⟨λ⟨i',k,cs,S⟩=>i'=i/\cs=w.cd/\k<=t.cd.length/\PH.le c S/\∀x∈(AX s i).take k,x=0,λ⟨_,k,_,_⟩=>t.cd.length-k,⟨(i,0,w.cd,c),⟨rfl,rfl,aC,.refl _,λx c=>by simp at c⟩,MT⟩,?_⟩;rintro⟨i,k,_,S⟩⟨rfl,rfl,hk,z,I⟩;dsimp only;have J:PH.le h S:=u.trans z;refine aE (λF=>?_) (λa0=>⟨(i+1,S),⟨aC,J,Y1 hz (k:=k) (by grind[Qq]) I⟩,aC,MT⟩);have⟨p,X⟩:=eF cl F;have⟨b2,o2,pv,Y,Q,L⟩:=(d.cd.mono z).at X;refine⟨b2,o2,Y,aC,F,pv,.ay Q,v,s,i,rfl,D.mono J,h8,λsl h' A M=>⟨sl,⟨none,0,0⟩,pv,fC s i,[],p,rfl,M,⟨.nil _ _,bu⟩,L.mono A,aB (λh6=>?_) (λh6=>?_)⟩⟩
  .exact en h' _ (J.trans A) (QT aC hz I (GG P X) da)
  .exact⟨(i,k+1,w.cd,h'),⟨rfl,rfl,da,z.trans A,Je (GG P X) I da⟩,da,MT⟩
 .grind
mutual
def qV:ae->Int->Int
 |.mk _ _ _ _ _ _ _ _ args,n=>mA args (n+1)
def mA:List ae->Int->Int
 |[],n=>n
 |p::ps,n=>if n<=24 then mA ps (qV p n)else n
end
mutual
def pC:ae->Nat->Bool
 |.mk _ _ _ _ _ _ _ _ _,0=>true
 |.mk _ _ _ _ _ _ _ _ args,n+1=>uJ args n
def uJ:List ae->Nat->Bool
 |[],_=>false
 |p::ps,n=>pC p n||uJ ps n
end
mutual
theorem GQ:∀(p:ae)(n:Int),n<=24->n<qV p n/\qV p n<=25
 |.mk _ _ _ _ _ _ _ _ args,n,h=>by
  have:=KO args (n+1) aC
  grind[qV]
theorem KO:∀(ps:List ae)(n:Int),n<=25->n<=mA ps n/\mA ps n<=25
 |[],n,h=>by grind[mA]
 |p::ps,n,h=>by
  simp only[mA];split
  .rename_i c;have d:=GQ p n c;have e:=KO ps (qV p n) d.2;omega
  .omega
end
theorem XP ps{n}(h:¬n<=24):mA ps n=n:=by
 cases ps
 .simp[mA]
 simp_all[mA,if_neg]
theorem Oh(n:Nat):∀ps:List ae,uJ ps n=ps.any (pC · n)
 |[]=>by simp[uJ]
 |p::ps=>by simp[uJ,Oh n ps]
theorem cQ.args{p}(r:cQ h p v):FX h v.args p.args:=by
 cases p;exact r.parts.bf
def y9 q:=decide (qV q 0<=24)&& !pC q 8
def cm(op:Int):=
 if op==1 then 0 else if op==2||op==3||op==9 then 1 else if op==4||op==5||op==6||op==7||op==8||op==10 then 2 else-1
def YI(N:Nat):AC:=λc m h K=>∃v p k,c=[aQ v,cI k,cI 24]/\cQ h p v/\SizeOf.sizeOf p<N/\0<=k/\k<=24/\K (cI (qV p k)) m h
def Ul(N:Nat):AC:=λc m h K=>∃v p,∃k:Nat,c=[aQ v,cI k]/\cQ h p v/\SizeOf.sizeOf p<N/\k<=100/\K (cB (pC p k)) m h
def bBZ:AC:=λc m h K=>∃v p,c=[aQ v]/\cQ h p v/\K (cB (y9 p)) m h
def bmJ:AC:=λc m h K=>∃op,c=[cI op]/\K (cI (cm op)) m h
def IK(l:ti)(n:Int):=decide (0<=n)&&decide (n<l.length)
def InS:AC:=λc m h K=>∃s l n,c=[cS s,cI n]/\an h s l/\K (cB (IK l n)) m h
def cKZ(N:Nat)(v:QV)(m:MH)(h:PH):=
 dD [(100,YI N)] [(3,{A:=Nat×Int,st:=λx=>bO 31 34 [(1,iv x.2),(2,iv 24),SW 3,(7,iv x.1)] [UV 3 68 v.ag] m h})] [] [] false
def cKX(N:Nat)(v:QV)(k:Nat)(m:MH)(h:PH):=
 dD [(101,Ul N)] [(4,{A:=Nat,st:=λi=>bO 23 25 [(1,iv k),SW 2,(10,iv v.args.len),(11,iv i)] [UV 2 68 v.ag] m h})] [] [] false
abbrev RH(a:(Nat×Int->Prop)->(Nat×Int)->Prop)(b:(Nat×Int->Prop)->(Nat×Int->Nat)->(Nat×Int)->Prop):=∃x d,(∃c,a x c)/\∀c,b x d c
abbrev C6(a:QV):=oQ 68 (List.map At.val a.ag)
abbrev eJ a:=eQ (C6 a)
abbrev rQ(a:QV):=aY a.args
attribute [push_cast] RH C6 eJ rQ
def WZ(N:Nat)(v:QV)(k:Int):ST:=λm h K=>RH (λI x=>I x/\cG (j6 k 1) x.2/\bM 24/\cR/\bB x.1/\eJ v/\m=m/\h=h/\True) (λI e x=>I x->aX x.1 (aF v.args) (F3 x.2 24 (ab v.args x.1 21 QV.ag m h (λy=>mQ (λf p=>∃c,bE y.ag (dZ (fD x.2) 24)=bE f.ag (dZ (fD c) 24)/\cQ h p f/\pR p N/\dK c/\c<=24/\∃d,I d/\e d<e x/\cG (qV p c) d.2/\bM 24/\cR/\fI (bA x.1 1)=bR d.1/\eJ v/\m=m/\dC h h))) (K (fD x.2) m h)) (K (fD x.2) m h))
def WY(N:Nat)(v:QV)(k:Nat):ST:=λm h K=>dP k 0 (K eE m h) (mF (λI x=>I x/\qZ k/\eP 2/\rQ v/\bB x/\eJ v/\m=m/\h=h/\True) (λI e x=>I x->aX x (aF v.args) (ab v.args x 21 QV.ag m h (λy=>mQ (λf p=>∃c:Nat,dZ (i7 y) (jZ k)=dZ (i7 f) c/\cQ h p f/\pR p N/\c<=100/\branch (pC p c) (K eE m h) (∃d,I d/\e d<e x/\qZ k/\gZ/\rQ v/\fI (bA x 1)=bR d/\eJ v/\m=m/\dC h h)))) (K bH m h)))
def ahQ(N:Nat)(v:QV):ST:=λm h K=>mQ (λe p=>∃k,bE v.ag (dZ (fD 0) 24)=bE e.ag (dZ (fD k) 24)/\cQ h p e/\pR p N/\dK k/\k<=24/\F3 (qV p k) 24 (mQ (λf c=>∃d:Nat,dZ (i7 v) 8=dZ (i7 f) d/\cQ h c f/\pR c N/\d<=100/\K (.val (.bool (!(pC c d)))) m h)) (K bH m h))
def WX(op:Int):ST:=λm h K=>dJ (op==1) (K (fD 0) m h) (op==2) (K (fD 1) m h) (dJ (op==3) (K (fD 1) m h) (op==9) (K (fD 1) m h) (dJ (op==4) (K (fD 2) m h) (op==5) (K (fD 2) m h) (dJ (op==6) (K (fD 2) m h) (op==7) (K (fD 2) m h) (dJ (op==8) (K (fD 2) m h) (op==10) (K (fD 2) m h) (K (fD (Int.negSucc 0)) m h)))))
def Ws(s:Sl)(n:Int):ST:=λm h K=>iA n 0 (K (AU (decide (n<aF s))) m h) (K bH m h)
theorem avQ:∀N,uz 100 (YI N)
 |0=>by
  refine gV func100 ?_;rintro t m h K⟨v,p,k,rfl,D,F,_⟩;omega
 |N+1=>by
  refine gV func100 ?_;rintro t m h K⟨v,p,k,rfl,D,F,J,L,E⟩;refine⟨cKZ N v m h,rfl,aD (avQ N) aG,WZ N v k,bt,?_⟩;dsimp only[WZ,push_cast];have d:=D.args;have e:=d.e;have M:=d.len;refine⟨λx=>x.1<=p.args.length/\0<=x.2/\x.2<=25/\mA (p.args.drop x.1) x.2=qV p k,λx=>p.args.length-x.1,⟨(0,k+1),⟨bu,cv,cv,?_⟩,?_⟩,?_⟩
  .cases p;simp[qV,ae.args]
  .rw[dW aC aC];exact MT
  rintro⟨i,n⟩⟨G,f,y,z⟩;dsimp only at G f y z⊢
  refine aE (λg=>aE (λj=>?_) (λj=>Dm E ?_)) (λH=>Dm E ?_)
  .have⟨q,A⟩:=eF e g;have⟨b,o,u,I,B,C⟩:=d.at A;have O:=GQ q n j;rw[ci A,mA,if_pos j]at z;refine⟨b,o,I,aC,g,u,.ay B,u,q,n,rfl,C,?_,f,j,(i+1,qV q n),⟨aC,aC,aC,z⟩,aC,MT⟩;have:=vV (si A);omega
  .grind[XP]
  grind[mA,drop_of_length_le]
theorem auJ:∀N,uz 101 (Ul N)
 |0=>by
  refine gV func101 ?_;rintro j m h K⟨v,p,k,rfl,z,D,_⟩;omega
 |N+1=>by
  refine gV func101 ?_;rintro j m h K⟨v,p,k,rfl,z,D,H,g⟩;refine⟨cKX N v k m h,rfl,aD (auJ N) aG,WY N v k,bt,?_⟩;dsimp only[WY,push_cast];have d:=z.args;have e:=d.e;have I:=d.len;refine aB (λA=>lQ g ?_) (λA=>?_)
  .have:k=0:=da
   subst this;cases p;simp[pC]
  .have A:k≠0:=da
   have n:pC p k=p.args.any (pC · (k-1)):=by
    obtain⟨B,rfl⟩:∃B,k=B+1:=⟨k-1,aC⟩
    cases p;simp[pC,Oh,ae.args]
   rw[n]at g;refine⟨λi=>i<=p.args.length/\(p.args.take i).any (pC · (k-1))=false,λi=>p.args.length-i,⟨0,⟨aC,bu⟩,MT⟩,λi J=>aE (λf=>?_) (λE=>lQ g ?_)⟩
   .have⟨q,C⟩:=eF e f;have⟨b,o,u,F,t,y⟩:=d.at C;refine⟨b,o,F,aC,f,u,.ay t,u,q,k-1,?_,y,?_,aC,aB (λG=>lQ g ?_) (λG=>?_)⟩
    .grind[dW]
    .have:=vV (si C);omega
    .grind
    .refine⟨i+1,⟨aC,?_⟩,da,MT⟩
     grind[sy]
   grind
theorem b0X:uz 60 bBZ:=by
 refine gV func60 ?_;rintro e m h K⟨v,p,rfl,c,d⟩;refine⟨WP [(100,YI (SizeOf.sizeOf p+1)),(101,Ul (SizeOf.sizeOf p+1))],rfl,aD (avQ _) (aD (auJ _) aG),ahQ (SizeOf.sizeOf p+1) v,bt,?_⟩;dsimp only[ahQ,push_cast];refine⟨v,p,0,rfl,c,aC,aC,aC,aB (λf=>⟨v,p,8,rfl,c,aC,aC,lQ d ?_⟩) (λf=>lQ d ?_)⟩
 .simp_all[y9,Bool.true_and]
 grind[y9]
theorem TO:uz 102 bmJ:=by
 refine gV func102 ?_;rintro d m h K⟨op,rfl,c⟩;refine⟨WP [],rfl,aG,WX op,bt,?_⟩;dsimp only[WX,push_cast]
 repeat' (first|(refine aB (λ_=>?_) (λ_=>?_))|(refine Dm c ?_;simp only[cm];simp only[*,Bool.or_false,Bool.or_true,Bool.true_or,Bool.false_eq_true, ↓reduceIte];done)|(refine Dm c ?_;grind[cm]))
theorem Lx:uz 139 InS:=by
 refine gV func139 ?_;rintro d m h K⟨s,l,n,rfl,e,c⟩;refine⟨WP [],rfl,aG,Ws s n,bt,?_⟩;dsimp only[Ws,push_cast];have g:=e.e;refine aE (λf=>lQ c ?_) (λf=>lQ c ?_)
 .simp_all[IK,decide_eq_true,Bool.true_and]
 simp_all[IK,decide_eq_false,Bool.false_and]
def AR(a b:ti)(c:tu)(p:Int×Int):=IK a p.1=true/\IK b p.2=true/\a.getD p.1.toNat 0=b.getD p.2.toNat 0/\∀q∈c,q.1≠p.1/\q.2≠p.2
def Qi(a d:ti)(c:Int):=IK a c=true/\c∉d
def Ue(a:ti)(_:tp)(o:Int×Bool):=IK a o.1=true
structure Df(a:ti)(be:ti)(bh:tp)(bg:Int):Prop where
 az:cn (Qi a) be
 bd:cn (Ue a) bh
 len_:bh.length<=12
 low:0<=bg
 high:bg<=100
def bFQ:AC:=λc m h K=>∃s t u on a b,c=[cS s,cS t,cS u]/\l9 h s on/\an h t a/\an h u b/\∀r:Bool,(r=true↔cn (AR a b) on)->K (cB r) m h
def bDJ:AC:=λc m h K=>∃v t g o a,c=[aQ v,cS t]/\an h v.be g/\lF h v.bh o/\an h t a/\∀r:Bool,(r=true↔Df a g o v.bg)->K (cB r) m h
def cDJ s t u m h:=
 dD [(139,InS)] [(2,{A:=Nat,st:=λi=>bO 66 69 ([(0,sv s),(1,sv t),(2,sv u)]++WF 10 s i) [] m h}),
  (7,{A:=Nat×Nat×(Int×Int),st:=λ⟨i,k,p⟩=>bO 66 69 ([(0,sv s),(1,sv t),(2,sv u),(7,iv i),SW 8,(9,iv k)]++WF 10 s i) [(8,.cells 81 [.val (.int .i64 p.1),.val (.int .i64 p.2)])] m h})] [] [] false
def cDZ(v:QV)(t:Sl)(m:MH)(h:PH):=
 dD [(139,InS)] [(2,{A:=Nat,st:=λi=>bO 62 64 ([(1,sv t),SW 2]++WF 11 v.be i) [UV 2 68 v.ag] m h}),
  (7,{A:=Nat×Nat×Int,st:=λ⟨i,k,c⟩=>bO 62 64 ([(1,sv t),SW 2,(5,iv i),(6,iv c),(7,iv k)]++WF 11 v.be i) [UV 2 68 v.ag] m h}),
  (13,{A:=Nat,st:=λi=>bO 62 64 ([(1,sv t),SW 2]++WF 36 v.bh i) [UV 2 68 v.ag] m h})] [] [] false
abbrev fB a b:=dZ (tV a) b
abbrev Jy(a:Sl)(b:Int)(c:Nat->Nat->Option Value)(d:ti->Int->Prop):=HD (λx e=>∃f,fB a b=fB x f/\an c x e/\d e f)
abbrev eC:=eP 8
attribute [push_cast] fB Jy eC
def Wq(s t u:Sl):ST:=λm h K=>mF (λI x=>I x/\aH s/\aH t/\aH u/\aH s/\aY s/\bB x/\m=m/\dC h h) (λI e x=>I x->aX x (aF s) (ab s x 2 Bk m h (λy=>(0:Int)<=0/\(0:Int)<2/\Jy t y.1 h (λl n=>cC (IK l n) (K bH m h) (dK 1/\(1:Int)<2/\Jy u y.2 h (λL M=>cC (IK L M) (K bH m h) (dK 0/\(0:Int)<2/\ab t y.1 1 bV m h (λj=>(0:Int)<=1/\(1:Int)<2/\ab u y.2 1 bV m h (λB=>cM j B (K bH m h) (∃(I1:Nat×Nat
 ×Int×Int->Prop)(C:Nat×Nat×Int×Int->Nat),(∃c,I1 c/\aH s/\aH t/\aH u/\bP x c.1/\eC/\bB c.2.1/\aH s/\aY s/\bP x c.1/\oQ 81 ([jX y.1,jX y.2])=oQ 81 ([jX c.2.2.1,jX c.2.2.2])/\m=m/\dC h h)/\∀c,I1 c->aX c.2.1 c.1 (aM (λD E=>aR s.a D E/\vM c.2.1/\c.2.1<aF s/\dK 0/\(0:Int)<2/\∃F,aK m h D (fJ (bI E c.2.1 2)) (bV F)/\(0:Int)<=0/\(0:Int)<2/\dP F c.2.2.1 (K bH m h) (aM (λG H=>aR s.a G H/\vM c.2.1/\c.2.1<aF s/\dK 1/\(1:Int)<2/\∃J,aK m h G (dG (bI H c.2.1 2)) (bV J)/\(0:
 Int)<=1/\(1:Int)<2/\dP J c.2.2.2 (K bH m h) (∃d,I1 d/\C d<C c/\aH s/\aH t/\aH u/\bP c.1 d.1/\eC/\fI (bA c.2.1 1)=bR d.2.1/\aH s/\aY s/\bP c.1 d.1/\oQ 81 ([jX c.2.2.1,jX c.2.2.2])=oQ 81 ([jX d.2.2.1,jX d.2.2.2])/\eV (m=m) (h=h)))))) (∃d,I d/\e d<e x/\aH s/\aH t/\aH u/\aH s/\aY s/\fI (bA c.1 1)=bR d/\gM m m h h)))))))))) (K eE m h))
def Wp(v:QV)(t:Sl):ST:=λm h K=>let A:=eJ v/\m=m/\dC h h;mF (λI x=>I x/\aH t/\eP 2/\aH v.be/\aY v.be/\bB x/\A) (λI f x=>I x->aX x (aF v.be) (ab v.be x 1 bV m h (λy=>Jy t y h (λl n=>cC (IK l n) (K bH m h) (∃(I1:Nat×Nat×Int->Prop)(e:Nat×Nat×Int->Nat),(∃c,I1 c/\aH t/\eP 2/\bP x c.1/\cG y c.2.2/\bB c.2.1/\aH v.be/\aY v.be/\mP (bP x c.1) (eJ v) (m=m) (h=h))/\∀c,I1 c->aX c.2.1 c.1 (ab v.be c.2.1 1 bV m h (λu=>dP u c.2.2 (K bH m h) (∃d,I1 d/\e d<e c/\aH t/\gZ/\bP c.1 d.1/\cG c.2.2 d.2.2/\fI (bA c.2.1 1)=bR d.2.1/\aH v.be/\aY v.be/\bP c.1 d.1/\A))) (∃d,I d/\f d<f x/\aH t/\gZ/\aH v.be/\aY v.be/\fI (bA c.1 1)=bR d/\eJ v/\gM m m h h))))) (mF (λI1 c=>I1 c/\aH t/\eP 2/\aH v.bh/\aY v.bh/\bB c/\A) (λI1 e c=>I1 c->aX c (aF v.bh) (ab v.bh c 2 DP m h (λy=>Jy t y.1 h (λl n =>cC (IK l n) (K bH m h) (∃d,I1 d/\e d<e c/\aH t/\gZ/\aH v.bh/\aY v.bh/\fI (bA c 1)=bR d/\eJ v/\gM m m h h)))) (F3 (aF v.bh) 12 (iA v.bg 0 (K (AU (decide (v.bg<=100))) m h) (K bH m h)) (K bH m h)))))
theorem SQ{α}{l:List α}{k x}(hx:l[i]?=some x)(c:i<k):x∈l.take k:=mem_of_getElem? (i:=i) da
theorem Zc{α}{l:List α}{x y}(hx:l[i]?=some x)(c:y∈l.take (i+1)):y∈l.take i\/y=x:=by
 grind[sy]
theorem pB{n}:IK l n=true↔0<=n/\n<l.length:=by simp[IK]
theorem baX:uz 140 bFQ:=by
 refine gV func140 ?_;rintro T m h K⟨s,t,u,on,a,b,rfl,o,y,z,G⟩;refine⟨cDJ s t u m h,rfl,aD Lx aG,Wq s t u,bt,?_⟩;dsimp only[Wq,push_cast];have U:=o.e;have H:=o.len;have ta:=y.e;have ub:=z.e;refine⟨λi=>i<=on.length/\jD (AR a b) on i,λi=>on.length-i,⟨0,⟨aC,.zero⟩,MT⟩,λi⟨hi,I⟩=>aE (λg=>?_) (λV=>G true ⟨λ_=>I.all aC,λ_=>rfl⟩)⟩;have⟨p,A⟩:=eF U g;have⟨W,X,Y,Z⟩:=o.at A;have c:¬AR a b (on.take i) p->K (.val (.bool false)) m h:=λhn=>G false ⟨λe=>(by cases e),λe=>(cn.not A hn e).elim⟩;refine⟨W,X,Y,aC,g,p,.ay Z,aC,aC,t,a,p.1,rfl,y,aB (λB=>c λd=>?_) (λB=>⟨aC,aC,u,b,p.2,rfl,z,aB (λC=>c λd=>?_) (λC=>?_)⟩)⟩
 .rw[d.1]at B;cases B
 .rw[d.2.1]at C;cases C
 have J:IK a p.1=true:=da
 have L:IK b p.2=true:=da
 have j:=pB.1 J;have n:=pB.1 L;have⟨b2,o2,e2,r2⟩:=y.nt j.1 j.2;have⟨b3,o3,e3,r3⟩:=z.nt n.1 n.2;refine⟨aC,aC,b2,o2,e2,aC,aC,_,.ay r2,aC,aC,b3,o3,e3,aC,aC,_,.ay r3,aB (λD=>c λd=>?_) (λD=>?_)⟩
 .rw[d.2.2.1]at D;simp at D
 refine⟨λ⟨i',k,p'⟩=>i'=i/\p'=p/\k<=i/\∀q∈on.take k,q.1≠p.1/\q.2≠p.2,λ⟨_,k,_⟩=>i-k,⟨(i,0,p),⟨rfl,rfl,aC,λq f=>by simp at f⟩,MT⟩,?_⟩;rintro⟨i,k,p⟩⟨rfl,rfl,hk,E⟩;dsimp only;refine aE (λM=>?_) (λO=>?_)
 .obtain⟨q,f⟩:∃q,on[k]?=some q:=⟨on[k]'(by omega),sh _⟩
  have⟨P,Q,R,S⟩:=o.at f;refine⟨P,Q,R,aC,aC,aC,aC,q.1,.ay (bJ.part S 0 1),aC,aC,aB (λh4=>c λd=>?_) (λh4=>⟨P,Q,R,aC,aC,aC,aC,q.2,.ay (bJ.part S 1 1),aC,aC,aB (λh5=>c λd=>?_) (λh5=>?_)⟩)⟩
  .exact(d.2.2.2 q (SQ f aC)).1 da
  .exact(d.2.2.2 q (SQ f aC)).2 da
  .refine⟨(i,k+1,p),⟨rfl,rfl,da,λq' F=>?_⟩,da,MT⟩;rcases Zc f F with e|rfl
   .grind
   grind
 .have:k=i:=by omega
  subst this;exact⟨k+1,⟨aC,I.succ A ⟨J,L,da,E⟩⟩,aC,MT⟩
theorem baQ:uz 141 bDJ:=by
 refine gV func141 ?_;rintro W m h K⟨v,t,g,o,a,rfl,D,E,L,M⟩;refine⟨cDZ v t m h,rfl,aD Lx aG,Wp v t,bt,?_⟩;dsimp only[Wp,push_cast];have X:=D.e;have O:=D.len;have Y:=E.e;have P:=E.len;have d:¬Df a g o v.bg->K (.val (.bool false)) m h:=λZ=>M false ⟨λe=>(by cases e),λe=>(Z e).elim⟩;refine⟨λi=>i<=g.length/\jD (Qi a) g i,λi=>g.length-i,⟨0,⟨aC,.zero⟩,MT⟩,λi⟨Q,y⟩=>aE (λf=>?_) (λz=>?_)⟩
 .have⟨c,u⟩:=eF X f;have⟨F,G,H,I⟩:=D.im u;refine⟨F,G,H,aC,f,c,.ay I,t,a,c,rfl,L,aB (λj=>d λn=>cn.not u (λA=>?_) n.az) (λj=>?_)⟩
  .rw[A.1]at j;cases j
  refine⟨λ⟨i',k,c'⟩=>i'=i/\c'=c/\k<=i/\c∉g.take k,λ⟨_,k,_⟩=>i-k,⟨(i,0,c),⟨rfl,rfl,aC,bu⟩,MT⟩,?_⟩;rintro⟨i,k,c⟩⟨rfl,rfl,hk,B⟩;dsimp only;refine aE (λR=>?_) (λS=>?_)
  .obtain⟨q,T⟩:∃q,g[k]?=some q:=⟨g[k]'(by omega),sh _⟩
   have⟨b4,o4,e4,r4⟩:=D.im T;refine⟨b4,o4,e4,aC,aC,q,.ay r4,aB (λU=>d λn=>cn.not u (λA=>?_) n.az) (λU=>?_)⟩
   .refine A.2 ?_
    grind[SQ]
   .refine⟨(i,k+1,c),⟨rfl,rfl,da,λJ=>?_⟩,da,MT⟩;rcases Zc T J with e|rfl
    .exact B e
    .simp at U
  .have:k=i:=by omega
   subst this;exact⟨k+1,⟨aC,y.succ u ⟨da,B⟩⟩,aC,MT⟩
 have gg:=y.all aC;clear Q y z;refine⟨λi=>i<=o.length/\jD (Ue a) o i,λi=>o.length-i,⟨0,⟨aC,.zero⟩,MT⟩,λi⟨Q,C⟩=>aE (λf=>?_) (λz=>?_)⟩
 .have⟨c,u⟩:=eF Y f;have⟨F,G,H,I⟩:=E.at u;refine⟨F,G,H,aC,f,c,.ay I,t,a,c.1,rfl,L,aB (λj=>d λn=>cn.not u (λA=>?_) n.bd) (λj=>⟨i+1,⟨aC,C.succ u (by grind[Ue])⟩,da,MT⟩)⟩;rw[show IK a c.1=true from A]at j;cases j
 have oo:=C.all aC;refine aE (λj=>aE (λV=>?_) (λV=>d λn=>?_)) (λj=>d λn=>?_)
 .refine M (decide (v.bg<=100)) ⟨λe=>⟨gg,oo,aC,V,mp e⟩,λe=>decide_eq_true e.high⟩
 .have:=n.low;omega
 .have:=n.len_;omega
def jU:ao:=.mk 0 0 eU eU []
def gL:ae->Prop
 |.mk op ta w co on gr od li _=>(op=1\/ta=0)/\(op=2\/w=jU)/\(op=3\/co=[])/\(op=4\/op=5\/on=[])/\(op=9\/op=10\/(gr=[]/\od=[]/\li=0))
def Ez(l:ti):ti×Int:=if l.length<=12 then(l,0)else([],2)
def nY(e:Int):ti×Int:=([],e)
open Classical in
def lS(s:kD)(ps:ti)(q:ae)(a b:ti):ti×Int:=
 if cm (match q with|.mk op .. =>op)<0\/¬gL q then nY 100 else
 match q with
 |.mk op ta w co on gr od li _=>
  if op=1 then(if 0<=ta/\ta<s.c.length then Ez (fC s ta)else nY 100)
  else if op=2 then(if kE a ps w=0 then Ez a else nY (kE a ps w))
  else if op=3 then(if co≠[]/\cn (λ_ c=>IK a c=true) co then Ez (co.map λc=>a.getD c.toNat 0)else nY 100)
  else if op=4 then(if cn (AR a b) on then Ez (a++b)else nY 100)
  else if op=5 then(if cn (AR a b) on then Ez a else nY 100)
  else if op=9 then(if Df a gr od li then Ez a else nY 100)
  else if op=10 then(if a=b/\Df a gr od li then Ez a else nY 100)
  else(if a=b then Ez a else nY 100)
def bBQ:AC:=λc m h K=>∃v q,c=[aQ v]/\cQ h q v/\∀r:Bool,(r=true↔gL q)->K (cB r) m h
def KR(K:tt)(m:MH)(h:PH)(r:ti×Int):=∀c h',PH.le h h'->an h' c r.1->K (.dg [cS c,cI r.2]) m h'
def dEZ:=λc m h K=>∃sc p v a b s ps q d e,c=[aS sc,cS p,aQ v,cS a,cS b]/\dV h s sc/\pE s/\an h p ps/\cQ h q v/\an h a d/\an h b e/\d.length<=12/\e.length<=12/\KR K m h (lS s ps q d e)
def cKQ m:=
 dD [(102,bmJ),(138,bBQ),(29,yB),(95,AH),(139,InS),(140,bFQ),(141,bDJ),(132,CU)] [(20,{A:=Nat×Sl×Sl×ti×PH,st:=λ⟨i,a,co,l,h⟩=>bO 121 126 ([(3,sv a),(12,.at (.au 94))]++WF 78 co i) [(94,.au 3 1 (l.map eI))] m h})] [] [] false
def cEQ(v:QV)(m:MH)(h:PH):=
 d2X [(161,dzX)] [] [(2,{A:=Bool,st:=λr=>bO 78 79 [SW 1,(3,bv r)] [UV 1 68 v.ag] m h})] [(2,[(9,{A:=Bool×Bool,st:=λx=>bO 78 79 [SW 1,(3,bv x.1),(20,bv x.2)] [UV 1 68 v.ag] m h}),
  (11,{A:=Bool×Bool,st:=λx=>bO 78 79 [SW 1,(3,bv x.1),(31,bv x.2)] [UV 1 68 v.ag] m h}),
  (11,{A:=Bool×Bool,st:=λx=>bO 78 79 [SW 1,(3,bv x.1),(42,bv x.2)] [UV 1 68 v.ag] m h}),
  (16,{A:=Bool×Bool,st:=λx=>bO 78 79 [SW 1,(3,bv x.1),(58,bv x.2)] [UV 1 68 v.ag] m h})])] [] false
abbrev kJ a b:=Zr a=Zr b
abbrev C0 a:=kJ true a
abbrev M9(a:Prop)(b:(Bool×Bool->Prop)->Prop)(c:(Bool×Bool->Prop)->(Bool×Bool)->Prop):=a->∃x,b x/\∀d,c x d
abbrev pN:=pW 0
abbrev kS:=[B8]
abbrev Jx(a:Bool×Bool->Prop)(b:Bool×Bool)(c:(Bool×Bool)->Prop)(d:QV)(e:MH)(g:PH):=∃x,a x/\gY/\kJ b.1 x.1/\c x/\bX (eJ d) e e g g
abbrev A7 a:=kJ false a
abbrev fR(a:tt)(b:Int)(c:MH)(d:PH):=a (CV.dg (dZ EO b)) c d
abbrev bK(a:Sl):=Sl.mk a.a a.len a.cap
abbrev zA(a:List tm)(b:Nat):=cJ (a.length*b)
abbrev mR(a:tt)(b:Sl)(c:MH)(d:PH):=a (CV.dg (dZ (tV b) 0)) c d
abbrev nV(a:List tm):Int:=a.length
abbrev Ci(a:Nat×Sl×Sl×ti×PH):=a.2.2.1
abbrev Cj(a:Nat×Sl×Sl×ti×PH):=a.2.2.2.2
abbrev Na(a:Nat×Sl×Sl×ti×PH):=gE a.2.2.2.1
abbrev O7(a:Sl->Sl->Sl->tu->Prop):=lC (λx c=>∃d e,a x c d e)
abbrev lK(a b:List tm)(c:Nat):=cJ (fS a b.length*c)
abbrev lL(a b:List tm):=fS a b.length
abbrev gO a b:=nN (mX a) (tV b)
abbrev j5(a:QV)(b:Sl):=gO a.ag b
attribute [push_cast] kJ C0 M9 pN kS Jx A7 fR bK zA mR nV Ci Cj Na O7 lK lL gO j5
def Wt v:=λm h K=>∃I:Bool->Prop,dP v.op 9 (∃x,I x/\gY/\C0 x/\eJ v/\eV (m=m) (h=h)) (∃x,I x/\gY/\kJ (v.op==10) x/\eJ v/\eV (m=m) (h=h))/\∀x,M9 (I x) (λI1=>dP v.op 1 (∃e,I1 e/\gY/\kJ x e.1/\C0 e.2/\bX (eJ v) m m h h) (∃e,I1 e/\gY/\kJ x e.1/\kJ (v.ah==0) e.2/\bX (eJ v) m m h h)) (λI1 e=>M9 (I1 e) (λI2=>branch e.2 (dP v.op 2 (∃d,I2 d/\gY/\kJ e.1 d.1/\C0 d.2/\bX (eJ v) m m h h) (M8 (λg w p q=>D4 (bL (oK v.ap) (nP (bD 0 0 (EN::pN::bD 0 0 (pW 0::EN::kS))))) (bL (oK g) w.ag) (fV h p g) (fV h q w) (p=q) (λr =>Jx I2 e (λd=>kJ r d.2) v m h)))) (∃d,I2 d/\gY/\kJ e.1 d.1/\A7 d.2/\bX (eJ v) m m h h)) (λI2 d=>M9 (I2 d) (λI3=>branch d.2 (dP v.op 3 (∃c,I3 c/\gY/\kJ d.1 c.1/\C0 c.2/\bX (eJ v) m m h h) (Jx I3 d (λc=>kJ (aF v.aa==0) c.2) v m h)) (∃c,I3 c/\gY/\kJ d.1 c.1/\A7 c.2/\bX (eJ v) m m h h)) (λI3 c=>M9 (I3 c) (λI4=>let A:=Jx I4 c (λf=>C0 f.2) v m h;branch c.2 (dJ (v.op==4) A (v.op==5) A (Jx I4 c (λf=>kJ (aF v.on==0) f.2) v m h)) (∃f,I4 f/\gY/\kJ c.1 f.1/\A7 f.2/\bX (eJ v) m m h h)) (λI4 f=>I4 f->sI f.2 (dJ f.1 (K eE m h) (aF v.be==0) (dP (aF v.bh) 0 (K (AU (v.bg==0)) m h) (K bH m h)) (K bH m h)) K m h))))
def PY sc p v a b:=λm h K=>∃o,iJ v.op o/\aX (cm o) 0 (fR K 100 m h) (mQ (λE q=>eO (i7 v) (i7 E)/\cQ h q E/\∀r,(mZ r↔gL q)->cC r (fR K 100 m h) (∃y,let N:=O7 (λs t u f=>C7 (λj B=>bU v.on (fG a b)=bU s (fG t u)/\l9 h s f/\an h t j/\an h u B/\∀z,(mZ z↔cn (AR j B) f)->dJ (!z) (fR K 100 m h) (v.op==4) (∃e,dA 1 e/\bT h (bK b) 1 e/\lK y e 8/\cJ (lL y e)/\eH (nV (y++e)) 12 (fR K 2 m h) (bN h 1 (y++e) (λD d=>mR K D m d))) (eH (nV y) 12 (fR K 2 m h) (bN h 1 y (λD d=>mR K D m d)))));let P:=bN h 1 y (λs d=>mR K s m d);dA 1 y/\bT h (bK a) 1 y/\zA y 8/\cJ y.length/\dJ (v.op==1) (aX v.ah 0 (fR K 100 m h) (iA v.ah (iS sc) (fR K 100 m h) (Cd (dZ (jS sc) v.ah) h (λs d=>eH (aF s) 12 (fR K 2 m d) (mR K s m d))))) (v.op==2) (Jz (bU a (bL (tV p) v.ap.ag)) h (λc F G=>wQ (kE c F G !=0) (fR K (kE c F G) m h) (nV y) 12 (fR K 2 m h) P)) (dJ (v.op==3) (dP (aF v.aa) 0 (fR K 100 m h) (∃(I:Nat×Sl×Sl×ti×PH->Prop)(H:Nat×Sl×Sl×ti×PH ->Nat),(∃x,I x/\bC a x.2.1/\eL 94/\bC v.aa (Ci x)/\cT v.aa (Ci x)/\bB x.1/\wX x.2.2.2.1/\m=m/\dC h (Cj x))/\∀x,I x->aX x.1 (aF (Ci x)) (aM (λB f=>aR (Ci x).a B f/\0<=(↑x.1:Int)/\x.1<aF (Ci x)/\∃e,aK m (Cj x) B (bI f x.1 1) (bV e)/\Jy x.2.1 e (Cj x) (λl n=>cC (IK l n) (fR K 100 m (Cj x)) (ab x.2.1 e 1 bV m (Cj x) (λM=>cJ (fS (Na x) 1*8)/\fA (Na x)/\∃C,I C/\H C<H x/\bC x.2.1 C.2.1/\eL 94/\bC (Ci x) (Ci C)/\cT (Ci x) (Ci C)/\fI (bA x.1 1)=bR C.1/\yM x.2.2.2.1 M C.2.2.2.1/\gM m m (Cj x) (Cj C)))))) (eH (nV (Na x)) 12 (fR K 2 m (Cj x)) (bN (Cj x) 1 (Na x) (λs d=>mR K s m d))))) (v.op==4) N (dJ (v.op==5) N (v.op==9) (∃A,HD (λt g=>∃f j,j5 v a=j5 A t/\an h A.be g/\lF h A.bh f/\an h t j/\∀z,(mZ z↔Df j g f A.bg)->wQ (!z) (fR K 100 m h) (nV y) 12 (fR K 2 m h) P)) (E8 a b h (λz=>dJ (!z) (fR K 100 m h) (v.op==10) (∃A,HD (λt g=>∃f j,j5 v a=j5 A t/\an h A.be g/\lF h A.bh f/\an h t j/\∀O,(mZ O↔Df j g f A.bg)->wQ (!O) (fR K 100 m h) (nV y) 12 (fR K 2 m h) P)) (eH (nV y) 12 (fR K 2 m h) P))))))))
theorem NT{α n}{l:List α}(h:n=l.length):((n:Int)==0)=true↔l=[]:=by
 simp_all
theorem GL h:fV h jU ⟨0,0,eU,eU,⟨none,0,0⟩⟩:=fV.mk (v:=⟨0,0,eU,eU,⟨none,0,0⟩⟩) (.nil _ _ _ _)
theorem baZ:uz 138 bBQ:=by
 refine gV func138 ?_;rintro o m h K⟨v,q,rfl,t,g⟩;refine⟨cEQ v m h,rfl,aD a6Q aG,Wt v,bt,?_⟩;dsimp only[Wt,push_cast];obtain⟨op,ta,w,co,on,gr,od,li,args⟩:=q;have a:=t.parts;have u:=a.jp;have y:=a.dd;have z:=a.dm;have D:=NT a.aw.e;have E:=NT a.ez.e;have F:=NT a.az.e;have G:=NT a.bd.e;simp only[gL]at g;subst u y z;refine⟨λr=>(r=true↔v.op=9\/v.op=10),aB (λd=>⟨true,da,MT⟩) (λd=>⟨_,?_,MT⟩),λr j=>?_⟩
 .grind
 refine⟨λx=>x.1=r/\(x.2=true↔(v.op=1\/v.ah=0)),aB (λd=>⟨(r,true),⟨rfl,da⟩,MT⟩) (λd=>⟨(r,_),⟨rfl,?_⟩,MT⟩),?_⟩
 .grind
 rintro⟨r,c⟩⟨rfl,e⟩;dsimp only at e j⊢
 refine⟨λx=>x.1=r/\(x.2=true↔(v.op=1\/v.ah=0)/\(v.op=2\/w=jU)),aB (λd=>aB (λf=>⟨(r,true),⟨rfl,⟨λ_=>⟨e.1 d,.inl da⟩,λ_=>rfl⟩⟩,MT⟩) (λf=>⟨v.ap,⟨0,0,eU,eU,⟨none,0,0⟩⟩,w,jU,rfl,a.ap,GL h,λA B=>⟨(r,A),⟨rfl,?_⟩,MT⟩⟩)) (λd=>⟨(r,false),⟨rfl,?_⟩,MT⟩),?_⟩
 .grind
 .grind
 clear e c;rintro⟨r,c⟩⟨rfl,e⟩;dsimp only at e j⊢
 refine⟨λx=>x.1=r/\(x.2=true↔(v.op=1\/v.ah=0)/\(v.op=2\/w=jU)/\(v.op=3\/co=[])),aB (λd=>aB (λf=>⟨(r,true),⟨rfl,⟨λ_=>⟨(e.1 d).1,(e.1 d).2,.inl da⟩,λ_=>rfl⟩⟩,MT⟩) (λf=>⟨(r,_),⟨rfl,?_⟩,MT⟩)) (λd=>⟨(r,false),⟨rfl,?_⟩,MT⟩),?_⟩
 .grind
 .grind
 clear e c;rintro⟨r,c⟩⟨rfl,e⟩;dsimp only at e j⊢
 refine⟨λx=>x.1=r/\(x.2=true↔(v.op=1\/v.ah=0)/\(v.op=2\/w=jU)/\(v.op=3\/co=[])/\(v.op=4\/v.op=5\/on=[])),aB (λd=>aB (λf=>⟨(r,true),⟨rfl,⟨λ_=>⟨(e.1 d).1,(e.1 d).2.1,(e.1 d).2.2,.inl da⟩,λ_=>rfl⟩⟩,MT⟩) (λf=>aB (λn=>⟨(r,true),⟨rfl,⟨λ_=>⟨(e.1 d).1,(e.1 d).2.1,(e.1 d).2.2,.inr (.inl da)⟩,λ_=>rfl⟩⟩,MT⟩) (λn=>⟨(r,_),⟨rfl,?_⟩,MT⟩))) (λd=>⟨(r,false),⟨rfl,?_⟩,MT⟩),?_⟩
 .grind
 .grind
 clear e c;rintro⟨r,c⟩⟨rfl,e⟩;dsimp only at e j⊢
 refine aB (λd=>aB (λf=>g true ⟨λ_=>?_,λ_=>rfl⟩) (λf=>aB (λn=>aB (λC=>g _ ?_) (λC=>g false ?_)) (λn=>g false ?_))) (λd=>g false ?_)
 .grind
 .grind
 .grind
 .grind
 .grind
theorem lZ(l:ti):dA 1 (l.map eI):=by
 constructor
 .intro e c;obtain⟨x,_,rfl⟩:=mem_map.1 c;rfl
 .intro e c u d;obtain⟨x,_,rfl⟩:=mem_map.1 c;simp[eI]at d;subst d;rfl
theorem KR.fj{r e}(d:KR K m h r)(c:PH.le h h')(f:r=nY e):K (.dg [.val (.slice none 0 0),.val (.int .i64 e)]) m h':=by
 subst f;exact d ⟨none,0,0⟩ h' c ⟨.nil _ _,by simp[nY]⟩
theorem KR.mg{r}(d:KR K m h r)(c:PH.le h h')(e:r=Ez l)(f:12<l.length):K (.dg [.val (.slice none 0 0),.val (.int .i64 2)]) m h':=
 d.fj c (by rw[e,Ez,if_neg aC];rfl)
theorem KR.ok{r sl}(d:KR K m h r)(c:PH.le h h')(e:r=Ez l)(f:l.length<=12)(g:bT h' sl 1 (l.map eI)):K (.dg [.val (.slice sl.a sl.len sl.cap),.val (.int .i64 0)]) m h':=by
 rw[e,Ez,if_pos f]at d;exact d sl h' c ⟨g,da⟩
theorem dvJ{p:Sl}{a b n C}(V:dV h s sc)(h8:pE s)(hp:an h p ps)(W:cQ h q v)(B:an h a n)(L:an h b C)(X:n.length<=12)(Y:C.length<=12)(d:KR K m h (lS s ps q n C)):PY sc p v a b m h K:=by
 dsimp only[PY,push_cast];have O:=W;obtain⟨op,ta,w,co,on,gr,od,li,args⟩:=q;have x:=W.parts;have e0:=x.jp;have e1:=x.dd;have e2:=x.dm;have a0:=V.c.e;have a1:=B.e;have H:=x.aw.e;have P:=x.aw.len;subst e0 e1 e2;refine⟨v.op,rfl,aE (λZ=>d.fj (.refl _) ?_) (λZ=>⟨v,_,rfl,O,λr z=>aB (λh2=>d.fj (.refl _) ?_) (λh2=>?_)⟩)⟩
 .simp_all[lS]
 .grind[lS]
 have hu:gL (.mk v.op v.ah w co on gr od v.bg args):=z.1 da;unfold lS at d;rw[if_neg (λe=>e.elim Z (λe=>e hu))]at d;dsimp only at d;clear z h2;refine⟨n.map eI,lZ _,B.row,cv,cv,aB (λo=>?_) (λo=>aB (λy=>?_) (λy=>aB (λA=>?_) (λA=>aB (λD=>?_) (λD=>aB (λE=>?_) (λE=>aB (λI=>?_) (λI=>?_))))))⟩
 .rw[beq_iff_eq]at o;rw[if_pos o]at d;refine aE (λu=>d.fj (.refl _) (if_neg aC)) (λu=>aE (λt=>d.fj (.refl _) (if_neg aC)) (λt=>⟨sc,s,v.ah,rfl,V,h8,λF h' f j=>?_⟩));rw[if_pos aC]at d;have:=j.e;exact aE (λg=>d.mg f rfl aC) (λg=>d.ok f rfl aC j.row)
 .rw[beq_eq_false_iff_ne]at o;rw[beq_iff_eq]at y;rw[if_neg o,if_pos y]at d;refine⟨a,p,v.ap,n,ps,w,rfl,B,hp,x.ap,aB (λu=>d.fj (.refl _) (if_neg da)) (λu=>?_)⟩;rw[if_pos da]at d;exact aE (λg=>d.mg (.refl _) rfl da) (λg F h' f j=>d.ok f rfl aC j)
 .rw[beq_eq_false_iff_ne]at o y;rw[beq_iff_eq]at A;rw[if_neg o,if_neg y,if_pos A]at d;refine aB (λu=>d.fj (.refl _) (if_neg λe=>e.1 ((NT H).1 u))) (λu=>?_);have Q:co≠[]:=λe=>da
  refine⟨λ⟨i,a',R,l,hx⟩=>a'=a/\R=v.aa/\hx=h/\i<=co.length/\l=(co.take i).map (λc=>n.getD c.toNat 0)/\jD (λ_ c=>IK n c=true) co i,λ⟨i,_,_,_,_⟩=>co.length-i,⟨(0,a,v.aa,[],h),⟨rfl,rfl,rfl,aC,bu,.zero⟩,MT⟩,?_⟩;rintro⟨i,a,_,l,h⟩⟨rfl,rfl,rfl,j,rfl,hg⟩;dsimp only;refine aE (λJ=>?_) (λa2=>?_)
  .have⟨c,M⟩:=eF H J;have⟨b1,o1,S,r1⟩:=x.aw.im M;refine⟨b1,o1,S,aC,J,c,.ay r1,a,n,c,rfl,B,aB (λt=>d.fj (.refl _) (if_neg λe=>?_)) (λt=>?_)⟩
   .have:=e.2 i c M;grind
   have t:IK n c=true:=da
   have g:=pB.1 t;have⟨b2,o2,T,r2⟩:=B.nt g.1 g.2;refine⟨b2,o2,T,aC,aC,_,.ay r2,?_,?_,(i+1,a,v.aa,(co.take (i+1)).map (λc=>n.getD c.toNat 0),h),⟨rfl,rfl,rfl,aC,rfl,hg.succ M t⟩,aC,?_⟩
   .simp;omega
   .simp;omega
   .rw[j4 M,sn];exact MT
  .rw[if_pos ⟨Q,hg.all aC⟩]at d;rw[sm aC];exact aE (λg=>d.mg (.refl _) rfl da) (λg F h' f j=>d.ok f rfl da j)
 .rw[beq_eq_false_iff_ne]at o y A;have G:=beq_iff_eq.1 D;rw[if_neg o,if_neg y,if_neg A,if_pos G]at d;refine⟨v.on,a,b,on,n,C,rfl,x.ez,B,L,λr z=>aB (λu=>d.fj (.refl _) (if_neg λe=>?_)) (λu=>aB (λ_=>⟨C.map eI,lZ _,L.row,cv,cv,?_⟩) (λt=>?_))⟩
  .grind
  .rw[if_pos (z.1 da)]at d;rw[<-sn];exact aE (λg=>d.mg (.refl _) rfl da) (λg F h' f j=>d.ok f rfl da j)
  grind
 .rw[beq_eq_false_iff_ne]at o y A;have G:=beq_eq_false_iff_ne.1 D;rw[beq_iff_eq]at E;rw[if_neg o,if_neg y,if_neg A,if_neg G,if_pos E]at d;refine⟨v.on,a,b,on,n,C,rfl,x.ez,B,L,λr z=>aB (λu=>d.fj (.refl _) (if_neg λe=>?_)) (λu=>aB (λt=>?_) (λt=>?_))⟩
  .grind
  .grind
  .rw[if_pos (z.1 da)]at d;exact aE (λg=>d.mg (.refl _) rfl da) (λg F h' f j=>d.ok f rfl aC j)
 .rw[beq_eq_false_iff_ne]at o y A D E;rw[beq_iff_eq]at I;rw[if_neg o,if_neg y,if_neg A,if_neg D,if_neg E,if_pos I]at d;refine⟨v,a,gr,od,n,rfl,x.az,x.bd,B,λr z=>aB (λu=>d.fj (.refl _) (if_neg λe=>?_)) (λu=>?_)⟩
  .grind
  rw[if_pos (z.1 da)]at d;exact aE (λg=>d.mg (.refl _) rfl da) (λg F h' f j=>d.ok f rfl aC j)
 .rw[beq_eq_false_iff_ne]at o y A D E I;rw[if_neg o,if_neg y,if_neg A,if_neg D,if_neg E,if_neg I]at d;refine⟨a,b,n,C,rfl,B,L,λr z=>aB (λu=>d.fj (.refl _) ?_) (λu=>aB (λt=>⟨v,a,gr,od,n,rfl,x.az,x.bd,B,λr2 U=>aB (λd4=>d.fj (.refl _) ?_) (λd4=>?_)⟩) (λt=>?_))⟩
  .grind
  .grind
  .rw[beq_iff_eq]at t;rw[if_pos t,if_pos ⟨z.1 da,U.1 da⟩]at d;exact aE (λg=>d.mg (.refl _) rfl da) (λg F h' f j=>d.ok f rfl aC j)
  .rw[beq_eq_false_iff_ne]at t;rw[if_neg t,if_pos (z.1 da)]at d;exact aE (λg=>d.mg (.refl _) rfl da) (λg F h' f j=>d.ok f rfl aC j)
theorem bfX:uz 103 dEZ:=by
 refine gV func103 ?_;rintro c m h K⟨sc,p,v,a,b,s,ps,q,y,z,rfl,d,e,f,g,j,n,o,t,u⟩;refine⟨cKQ m,rfl,aD TO (aD baZ (aD AQ (aD Ph (aD Lx (aD baX (aD baQ (aD TE aG))))))),PY sc p v a b,bt,?_⟩;exact dvJ d e f g j n o t u
mutual
def cX(s:kD)(ps:ti):ae->ti×Int
 |.mk op ta w co on gr od li args=>
  match gK s ps args with
  |(ks,e)=>if e=0 then(if(ks.length:Int)=cm op then lS s ps (.mk op ta w co on gr od li args) (ks.getD 0 []) (ks.getD 1 [])else nY 100)else nY e
def gK(s:kD)(ps:ti):List ae->List ti×Int
 |[]=>([],0)
 |q::qs=>
  match cX s ps q with
  |(k,e)=>if e=0 then(match gK s ps qs with|(ks,c)=>if c=0 then(k::ks,0)else([],c))else([],e)
end
theorem EA{s:kD}{ps:ti}:∀{qs:List ae}{ks:List ti},qs.map (cX s ps)=ks.map (λk=>(k,0))->gK s ps qs=(ks,0)
 |[],[],_=>by simp[gK]
 |q::qs,k::ks,h=>by
  simp only[map_cons,List.cons.injEq]at h;simp only[gK,h.1,EA h.2,if_true]
 |[],_::_,h=>by simp at h
 |_::_,[],h=>by simp at h
theorem IG{s:kD}{ps:ti}{e:Int}(d:e≠0):∀{qs:List ae}{ks:List ti}{i:Nat}{q:ae},(qs.take i).map (cX s ps)=ks.map (λk=>(k,0))->qs[i]?=some q->(cX s ps q).2=e->gK s ps qs=([],e)
 |[],_,_,_,_,h,_=>by simp at h
 |q::qs,_,0,f,_,h,c=>by
  simp_all[gK]
 |q::qs,[],i+1,_,h,_,_=>by simp at h
 |q::qs,k::ks,i+1,f,h,g,c=>by
  simp only[take_succ_cons,map_cons,List.cons.injEq]at h;have:=IG d h.2 da c;simp_all[gK]
theorem clQ l:(Ez l).1.length<=12:=by unfold Ez;grind
theorem bPJ s ps q a b:(lS s ps q a b).1.length<=12:=by
 obtain⟨op,ta,w,co,on,gr,od,li,args⟩:=q
 grind[lS,nY,clQ]
theorem EB s ps q:(cX s ps q).1.length<=12:=by
 obtain⟨op,ta,w,co,on,gr,od,li,args⟩:=q
 grind[cX,nY,bPJ]
def iG s ps q:=
 if dO s=0 then(if ps.all eA=true then(if y9 q=true then cX s ps q else nY 2)else nY 1)else nY (dO s)
def gm(h:PH)(c:tq)(ks:List ti):=c.length=ks.length/\∀(j:Nat) s k,c[j]?=some s->ks[j]?=some k->an h s k
theorem gm.mono{c}(x:gm h c ks)(le:PH.le h h'):gm h' c ks:=⟨x.1,λj s k d e=>(x.2 j s k d e).mono le⟩
theorem gm.cw{c s k}(x:gm h c ks)(o:an h s k):gm h (c++[s]) (ks++[k]):=by
 refine⟨by simp[x.1],λj g n d e=>?_⟩;by_cases f:j<c.length
 .rw[getElem?_append_left f]at d;rw[getElem?_append_left (by rw[<-x.1];exact f)]at e;exact x.2 j g n d e
 .rw[getElem?_append_right aC]at d;rw[getElem?_append_right (by have:=x.1;omega),<-x.1]at e
  grind
def Ef N:=λc m h K=>∃sc p v s ps q,c=[aS sc,cS p,aQ v]/\dV h s sc/\pE s/\an h p ps/\cQ h q v/\SizeOf.sizeOf q<N/\KR K m h (cX s ps q)
def uW:=λc m h K=>∃sc p v s ps q,c=[aS sc,cS p,aQ v]/\dV h s sc/\an h p ps/\cQ h q v/\KR K m h (iG s ps q)
def djX(N:Nat)(sc:bQ)(p:Sl)(v:QV)(m:MH):=
 dD [(61,Ef N),(102,bmJ),(103,dEZ)] [(3,{A:=Nat×tq×PH,st:=λ⟨i,c,h⟩=>bO 58 61 [(1,sv p),SW 3,SW 5,(8,.at (.au 35)),(14,iv v.args.len),(15,iv i)] [UV 3 29 sc.ag,UV 5 68 v.ag,(35,.au 31 1 (c.map eS))] m h})] [] [] false
abbrev JW(a:(Nat×tq×PH->Prop)->(Nat×tq×PH)->Prop)(b:(Nat×tq×PH->Prop)->(Nat×tq×PH->Nat)->(Nat×tq×PH)->Prop):=∃x d,(∃c,a x c)/\∀c,b x d c
abbrev C3 a b c:=cE a b (List.map eS c)
abbrev gG(a:Nat×tq×PH):=a.2.2
abbrev F5(a:bQ->Sl->Prop):=∃x c,a x c
abbrev Gn(a:kD->ti->Prop):=∃x c,a x c
abbrev BR(a:Sl)(b:QV):=bL (tV a) b.ag
abbrev MC(a:bQ)(b:Sl)(c:QV)(d:PH)(e:QV->kD->ti->ae->Prop):=F5 (λx g=>∃j,Gn (λf n=>∃o,bE (cW a) (BR b c)=bE (cW x) (BR g j)/\dV d f x/\pE f/\an d g n/\e j f n o))
abbrev GS(a:PH)(b:ti×Int)(c:Sl->PH->Prop):=jA (λx d=>cO a d (an d x b.1) (c x d))
abbrev Ft(a:tt)(b:Int)(c:MH)(d:PH):=a (CV.dg (nN EO (.val (pW b)))) c d
abbrev lJ a b c:=cJ (fS a 1*b)/\fA a/\c
abbrev lX a:=List.map eS a
abbrev u9(a:Nat×tq×PH):=lX a.2.1
abbrev MX(a:Nat×tq×PH)(b:(Nat×tq×PH)->Prop):=lJ (u9 a) 24 (∃x,b x)
abbrev iI a b:=hZ a (aT b)
abbrev Nb:=kS::[kS]
abbrev yT(a:List tm)(b:Nat)(c:tm):=a[b]?=some c
attribute [push_cast] JW C3 gG F5 Gn BR MC GS Ft lJ lX u9 MX iI Nb yT
def agJ N sc p v:=λm h K=>JW (λI x=>I x/\aH p/\eP 3/\bY/\eL 35/\rQ v/\bB x.1/\aW sc/\mP (eJ v) (cE 31 1 []=C3 31 1 x.2.1) (m=m) (h=gG x)) (λI u x=>I x->aX x.1 (aF v.args) (ab v.args x.1 21 QV.ag m (gG x) (λy=>MC sc p y (gG x) (λg s c q=>cQ (gG x) q g/\pR q N/\GS (gG x) (cX s c q) (λd j=>cM (cX s c q).2 0 (Ft K (cX s c q).2 m j) (MX x (λf=>I f/\u f<u x/\aH p/\cR/\bY/\eL 35/\rQ v/\fI (bA x.1 1)=bR f.1/\aW sc/\eJ v/\cE 31 1 (iI (u9 x) d)=C3 31 1 f.2.1/\m=m/\dC j (gG f))))))) (∃o,iJ v.op o/\cM (nV (u9 x)) (cm o) (fR K 100 m (gG x)) (cJ (fS (u9 x) 2*24)/\cJ (fS (u9 x) 2)/\dK 0/\0<nV (u9 x++Nb)/\∃e,yT (u9 x++Nb) 0 e/\∃y,List.take 1 (List.drop 0 e)=aT y/\(0:Int)<=1/\1<nV (u9 x++Nb)/\∃z,yT (u9 x++Nb) 1 z/\∃A,List.take 1 (List.drop 0 z)=aT A/\F5 (λs c=>∃g,lC (λa b=>Gn (λd t=>∃q,C7 (λl n=>bE (cW sc) (bU p (bE v.ag (fG y A)))=bE (cW s) (bU c (bE g.ag (fG a b)))/\dV (gG x) d s/\pE d/\an (gG x) c t/\cQ (gG x) q g/\an (gG x) a l/\an (gG x) b n/\l.length<=12/\n.length<=12
 /\GS (gG x) (lS d t q l n) (λB j=>K (CV.dg (j8 B (.val (pW (lS d t q l n).2)))) m j))))))))
def amQ N sc p v:=λm h K=>Dx sc h (λs=>cM (dO s) 0 (fR K (dO s) m h) (Dw p h (λl=>cC (Es l) (fR K 1 m h) (mQ (λc d=>eO (i7 v) (i7 c)/\cQ h d c/\cC (y9 d) (fR K 2 m h) (MC sc p v h (λg e f q=>cQ h q g/\pR q N/\GS h (cX e f q) (λj n=>K (CV.dg (j8 j (.val (pW (cX e f q).2)))) m n))))))))
theorem Pb{qs:List ae}(h:qs.map (cX s ps)=ks.map (λk=>(k,0))) j:(ks.getD j []).length<=12:=by
 rw[getD_eq_getElem?_getD];cases e:ks[j]? with
 |none=>simp
 |some k=>
  have c:(qs.map (cX s ps))[j]?=some (k,0):=da
  grind[Option.map_eq_some_iff,EB]
theorem gm.pick{c}(x:gm h c ks) j(f:j<c.length+2):∃y:Sl,(c.map eS++[[.slice none 0 0],[.slice none 0 0]])[j]?=some [.slice y.a y.len y.cap]/\an h y (ks.getD j []):=by
 by_cases d:j<c.length
 .refine⟨c[j],?_,?_⟩
  .grind[eS,getElem?_append_left]
  .have e:j<ks.length:=by rw[<-x.1];exact d
   rw[getD_eq_getElem?_getD,sh e];exact x.2 j _ _ (sh d) (sh e)
 .refine⟨⟨none,0,0⟩,?_,?_⟩
  .grind
  .rw[getD_eq_getElem?_getD,getElem?_eq_none (by have:=x.1;omega)];exact⟨.nil _ _,bu⟩
theorem bvJ:∀N,uz 61 (Ef N)
 |0=>by
  refine gV func61 ?_;rintro C m h K⟨sc,p,v,s,ps,q,rfl,_,_,_,_,Y,_⟩;omega
 |N+1=>by
  refine gV func61 ?_;rintro C m h K⟨sc,p,v,s,ps,q,rfl,Q,R,S,T,Y,n⟩;refine⟨djX N sc p v m,rfl,aD (bvJ N) (aD TO (aD bfX aG)),agJ N sc p v,bt,?_⟩;dsimp only[agJ,push_cast];have D:=@vV q;have E:=T;obtain⟨op,ta,w,co,on,gr,od,li,args⟩:=q;have x:=T.parts;have e0:=x.jp;have Z:=x.bf.e;have U:=x.bf.len;simp only[ae.args]at D;simp only[cX]at n;refine⟨λ⟨i,y,F⟩=>i<=args.length/\PH.le h F/\∃ks,gm F y ks/\(args.take i).map (cX s ps)=ks.map (λk=>(k,0)),λ⟨i,_,_⟩=>args.length-i,⟨(0,[],h),⟨aC,.refl _,[],⟨rfl,λj s k t=>by simp at t⟩,bu⟩,MT⟩,?_⟩;rintro⟨i,y,F⟩⟨V,d,ks,A,g⟩;have G:ks.length=i:=by have:=congrArg List.length g;grind
  have a':y.length=i:=by rw[A.1,G]
  dsimp only;refine aE (λo=>?_) (λa0=>?_)
  .have⟨B,z⟩:=eF Z o;have⟨b1,o1,u,H,r1,I⟩:=(x.bf.mono d).at z;refine⟨b1,o1,H,aC,o,u,.ay r1,sc,p,u,s,ps,B,rfl,Q.mono d,R,S.mono d,I,?_,λJ h' f L=>aB (λt=>?_) (λt=>?_)⟩
   .grind
   .have M:(cX s ps B).2≠0:=da
    rw[IG M g z rfl]at n;exact n.fj (d.trans f) (if_neg M)
   .have M:(cX s ps B).2=0:=da
    refine⟨cv,cv,(i+1,y++[J],h'),⟨aC,d.trans f,ks++[(cX s ps B).1],(A.mono f).cw L,?_⟩,aC,?_⟩
    .grind[j4,sn]
    .rw[sn];exact MT
  .rw[sm aC]at g;rw[EA g]at n;simp only[if_true]at n;refine⟨v.op,rfl,aB (λt=>n.fj d (if_neg λe=>?_)) (λt=>?_)⟩
   .grind
   have t:(y.length:Int)=cm op:=da
   rw[if_pos aC]at n;have⟨W,O,i0⟩:=A.pick 0 aC;have⟨X,P,i1⟩:=A.pick 1 aC;exact⟨cv,cv,aC,cv,_,O,W,rfl,aC,cv,_,P,X,rfl,sc,p,v,W,X,s,ps,_,_,_,rfl,Q.mono d,R,S.mono d,E.mono d,i0,i1,Pb g 0,Pb g 1,λJ h' f V=>n J h' (d.trans f) V⟩
theorem BK(h:dO s=0):pE s:=by
 have c:Gb s:=Classical.byContradiction λf=>by grind[Au]
 intro t d;have⟨j,e⟩:=mem_iff_getElem?.1 d;exact(c.2 j t e).1
theorem Kl:uz 27 uW:=by
 refine gV func27 ?_;rintro n m h K⟨sc,p,v,s,ps,q,rfl,f,g,j,c⟩;refine⟨WP [(58,yY),(59,Qg),(60,bBZ),(61,Ef (SizeOf.sizeOf q+1))],rfl,aD js (aD jr (aD b0X (aD (bvJ _) aG))),amQ (SizeOf.sizeOf q+1) sc p v,bt,?_⟩;dsimp only[amQ,push_cast];unfold iG at c;refine⟨sc,s,rfl,f,aB (λd=>c.fj (.refl _) (if_neg da)) (λd=>?_)⟩;have d:dO s=0:=da
 rw[if_pos d]at c;refine⟨p,ps,rfl,g,aB (λo=>c.fj (.refl _) (if_neg λe=>da)) (λo=>?_)⟩;rw[if_pos da]at c;refine⟨v,q,rfl,j,aB (λt=>c.fj (.refl _) (if_neg λe=>da)) (λt=>?_)⟩;rw[if_pos da]at c;exact⟨sc,p,v,s,ps,q,rfl,f,BK d,g,j,aC,c⟩
def aN(n:NV):CV:=.val (.agg ⟨n.ag⟩)
structure De(h:PH)(s:kD)(ps:ti)(q:ae)(ks:List ti)(n:NV):Prop where
 s_:dV h s n.s
 ps_:an h n.params ps
 q_:cQ h q n.q
 ks_:aU h 1 eS (λk sl=>an h sl k) n.args ks
 len:∀k∈ks,k.length<=12
def ae.gs(u q:ae):ae:=match u,q with|.mk _ ta w co on gr od li _,.mk op _ _ _ _ _ _ _ args=>.mk op ta w co on gr od li args
def FY:AC:=λc m h K=>∃n k u s ps q ks d,c=[aN n,cI k,aQ u]/\De h s ps q ks n/\cQ h d u/\∀r:Bool,(r=true↔(ks.length:Int)=k/\q=d.gs q)->K (cB r) m h
def T9:AC:=λc m h K=>∃n s ps q ks,c=[aN n]/\De h s ps q ks n/\K (aQ ⟨0,0,⟨0,0,eU,eU,⟨none,0,0⟩⟩,⟨none,0,0⟩,⟨none,0,0⟩,n.q.be,n.q.bh,n.q.bg,⟨none,0,0⟩⟩) m h
def Ua:AC:=λc m h K=>∃n s ps q ks a,c=[aN n]/\De h s ps q ks n/\ks[0]?=some a/\∀r:Bool,(r=true↔∃op ta w co on gr od li args,q=.mk op ta w co on gr od li args/\Df a gr od li)->K (cB r) m h
def Rs(ks:List ti):ae->Prop
 |.mk op ta w co on gr od li _=>ks.length=2/\ta=0/\w=jU/\co=[]/\gr=[]/\od=[]/\li=0/\cn (AR (ks.getD 0 []) (ks.getD 1 [])) on
def Ud:AC:=λc m h K=>∃n s ps q ks,c=[aN n]/\De h s ps q ks n/\∀r:Bool,(r=true↔Rs ks q)->K (cB r) m h
def cwJ(n:NV)(h:PH):=
 tH [] [(4,{A:=Nat×Nat×Nat×MH,st:=λ⟨i,c,b,d⟩=>bO 72 73 ([SW 1,(3,iv c),(4,vv (.pointer (some ⟨b,0,none⟩)))]++WF 16 n.q.be i) [UV 1 206 n.ag] d h}),
  (11,{A:=Nat×Nat×MH,st:=λ⟨i,c,d⟩=>bO 72 73 ([SW 1,(3,iv c)]++WF 39 n.q.bh i) [UV 1 206 n.ag] d h})] [] [] [259] [] false
def cxX(n:NV)(h:PH):=
 tH [(191,FY)] [(6,{A:=Nat×Sl×Sl×Nat×Nat×MH,st:=λ⟨i,s,t,b,c,d⟩=>bO 80 81 ([(3,sv s),(4,sv t),(5,vv (.pointer (some ⟨b,0,none⟩))),(6,vv (.pointer (some ⟨c,0,none⟩)))]++WF 28 n.q.on i) [] d h})] [] [] [259] [] false
abbrev fM(a:QV):=a.ap.op
abbrev fN(a:QV):=a.ap.dy
abbrev AN(a:OV):=a.value.int
abbrev AO(a:OV):=a.value.text
abbrev Bb a b c:=bD a.kind a.index (bD (zW a) (AN a) (.string (AO a)::b::c))
abbrev uC(a:QV):=a.ap.left
abbrev NA(a:QV):=a.ap.right
abbrev fT a b:=bD a.index (zW a) (pW (AN a)::.string (AO a)::b)
abbrev Hr a b:=Bb (uC a) (pW (NA a).kind) (fT (NA a) (fW a.ap.args::fW a.aa::b))
abbrev C2 a:=B8::B8::a
abbrev uG:Value:=.bool false
abbrev Ry(a:MH)(b:PH)(c:Nat->MH->Prop):=∀x d,eT a b x->cF a d x (uG::uG::uG::uG::uG::uG::uG::uG::uG::uG::uG::uG::[]) 259->c x d
abbrev pU(a:QV):=jX a.ah
abbrev vD(a:QV)(b:ue):=pQ a.ap b
abbrev zB(a:At)(b:Sl)(c:QV)(d:At)(e:ue):=a::rF b::rF c.be::d::e
abbrev wP(a:QV):=rF a.aa
abbrev zE(a:QV):=rF a.bh
abbrev GX(a:NV):=eQ (oQ 206 (KV a.s::KU a.s::rF a.params::jX a.q.op::pU a.q::vD a.q (zB (wP a.q) a.q.on a.q (zE a.q) (jX a.q.bg::rF a.q.args::zU a.args))))
abbrev xF(a:Bool):tm:=[.bool a]
abbrev rC(a:Array Value)(b:Nat)(c:tm):=aq a.toList b c
abbrev aj(m:MH)(b:Nat)(v:Value)(A:MH->Prop):=i6 (λc E=>yA m b (gU c E 0)/\iP 0 c/\∀n,cF m n b (kH v 1 c) E->A n)
abbrev am(m:MH)(b i:Nat)(v:tm)(A:MH->Prop):=i6 (λc E=>yA m b (gU c E 0)/\iP i c/\∀n,cF m n b (rC c i v) E->A n)
attribute [push_cast] aj am
abbrev D8(a:kD->ti->ae->(List ti)->Prop):=Gn (λx c=>∃d e,a x c d e)
abbrev E4(a:uc)(b:NV->Int->QV->uc)(c:PH)(d:Bool->Prop):=∃x f g,D8 (λo t e j=>∃n,D4 a (b x f g) (De c o t e j x) (cQ c n g) (j.length=f/\e=ae.gs n e) (λu=>d u))
abbrev gW(a:bQ)(b:tm):=pW a.dc::fW a.c::b
abbrev dX(a:NV):=uC a.q
abbrev iC(a:NV):=Bb (NA a.q) (fW a.q.ap.args) (fW a.q.aa::fW a.q.on::fW a.q.be::fW a.q.bh::pW a.q.bg::fW a.q.args::aT a.args)
abbrev Cw a b:=fW a::B8::b
abbrev mE(a:Nat×Sl×Sl×Nat×Nat×MH):=a.2.2.2
attribute [push_cast] fM fN AN AO Bb uC NA fT Hr C2 uG Ry pU vD zB wP zE GX xF rC D8 E4 gW dX iC Cw mE
def V1(n:NV)(k:Int)(u:QV):ST:=λm h K=>dP (aF n.args) k (∃v,mQ (λw p=>∃q,D4 (bL (i7 n.q) (bD n.q.op u.ah (bD (fM u) (fN u) (Hr u (fW u.on::fW u.be::eW u.bh u.bg (aT n.q.args)))))) (bL (i7 v) w.ag) (cQ h p v) (cQ h q w) (p=q) (λr=>K (AU r) m h))) (K bH m h)
def VZ(n:NV):ST:=λm h K=>K (mX (nP (nP (EN::pN::bD 0 0 (pW 0::EN::C2 (B8::fW n.q.be::eW n.q.bh n.q.bg kS)))))) m h
def Km n:=λm h K=>aM (λb o=>aR n.args.a b o/\(0:Int)<=0/\0<aF n.args/\∃y,aK m h b (fJ o) (aT y)/\Ry m h (λA B=>∃(I:Nat×Nat×Nat×MH->Prop)(u:Nat×Nat×Nat×MH->Nat),(∃x,I x/\gY/\bR y.len=bR x.2.1/\fL A (lM x.2)/\aH n.q.be/\aY n.q.be/\bB x.1/\GX n/\gM B (jG x.2) h h)/\∀x,I x->aX x.1 (aF n.q.be) (ab n.q.be x.1 1 bV (jG x.2) h (λe=>aX e 0 (qD K x.2 h) (iA e x.2.1 (qD K x.2 h) (dK e/\e<12/\∃z,aK (jG x.2) h (lM x.2) (dN 0 e 1) (xF z)/\branch z (qD K x.2 h)
 (dK e/\e<12/\i6 (λc E=>yA (jG x.2) (lM x.2) (gU c E 0)/\iP (dN 0 e 1) c/\∀j,cF (jG x.2) j (lM x.2) (rC c (dN 0 e 1) [zH]) E->∃d,I d/\u d<u x/\gY/\bP x.2.1 d.2.1/\fL (lM x.2) (lM d.2)/\aH n.q.be/\aY n.q.be/\fI (bA x.1 1)=bR d.1/\bX (GX n) j (jG d.2) h h)))))) (∃(I1:Nat×Nat×MH->Prop)(j:Nat×Nat×MH->Nat),RW (λd=>I1 d/\gY/\bP x.2.1 (lM d)/\aH n.q.bh/\aY n.q.bh/\bB d.1/\GX n/\jG x.2=jG d/\dC h h) (λd=>I1 d->aX d.1 (aF n.q.bh) (aM (λf g=>aR n.q.bh.a f g/\0<=(↑d.1:Int)/\d.1<aF n.q.bh/\∃
 (e:Int×Bool),aK (jG d) h f (bI g d.1 2) (DP e)/\aX e.1 0 (qD K d h) (iA e.1 (↑(lM d):Int) (qD K d h) (∃t,I1 t/\j t<j d/\gY/\bP (lM d) (lM t)/\aH n.q.bh/\aY n.q.bh/\fI (bA d.1 1)=bR t.1/\GX n/\gM (jG d) (jG t) h h)))) (F3 (aF n.q.bh) 12 (iA n.q.bg 0 (K (AU (decide (n.q.bg<=100))) (jG d) h) (qD K d h)) (qD K d h))))))
def Kn n:=λm h K=>E4 (bE (gW n.s (eW n.params n.q.op (bD n.q.ah (fM n.q) (bD (fN n.q) (dX n).kind (fT (dX n) (iC n)))))) (bL (fD 2) (nP (nP (EN::pN::bD 0 0 (pW 0::EN::C2 (Cw n.q.on (B8::pN::kS)))))))) (λe k u=>bE (gW e.s (eW e.params e.q.op (bD e.q.ah (fM e.q) (bD (fN e.q) (dX e).kind (fT (dX e) (iC e)))))) (bL (fD k) u.ag)) h (λr=>cC r (K bH m h) (aM (λb o=>aR n.args.a b o/\(0:Int)<=0/\0<aF n.args/\∃y,aK m h b (fJ o) (aT y)/\aM (λt z=>aR n.args.a t z/\(0:Int)<=1/\1<aF n.args/\∃A,aK m h t (dG z) (aT A)/\Ry m h (λR S=>Ry S h (λT U=>∃(I:Nat×Sl×Sl×Nat×Nat×MH->Prop)(B:Nat×Sl×
 Sl×Nat×Nat×MH->Nat),(∃x,I x/\bC y x.2.1/\bC A x.2.2.1/\fL R (mE x).1/\fL T (lM (mE x))/\aH n.q.on/\aY n.q.on/\bB x.1/\gM U (jG (mE x)) h h)/\∀x,I x->aX x.1 (aF n.q.on) (ab n.q.on x.1 2 Bk (jG (mE x)) h (λd=>dK 0/\(0:Int)<2/\dK 1/\(1:Int)<2/\aX d.1 0 (qD K (mE x) h) (iA d.1 (aF x.2.1) (qD K (mE x) h) (aX d.2 0 (qD K (mE x) h) (iA d.2 (aF x.2.2.1) (qD K (mE x) h) (ab x.2.1 d.1 1 bV (jG
 (mE x)) h (λH=>ab x.2.2.1 d.2 1 bV (jG (mE x)) h (λM=>cM H M (K bH (jG (mE x)) h) (dK d.1/\d.1<12/\∃O,aK (jG (mE x)) h (mE x).1 (dN 0 d.1 1) (xF O)/\branch O (qD K (mE x) h) (dK d.2/\d.2<12/\∃P,aK (jG (mE x)) h (lM (mE x)) (dN 0 d.2 1) (xF P)/\branch P (qD K (mE x) h) (dK d.1/\d.1<12/\i6 (λc E=>yA (jG (mE x)) (mE x).1 (gU c E 0)/\iP (dN 0 d.1 1) c/\∀g,cF (jG (mE x)) g (mE x).1 (rC c (dN 0 d.1 1) [zH]) E->dK d.2/\d.2<12/\i6 (λj E1=>yA g (lM (mE
 x)) (gU j E1 0)/\iP (dN 0 d.2 1) j/\∀Q,cF g Q (lM (mE x)) (rC j (dN 0 d.2 1) [zH]) E1->∃f,I f/\B f<B x/\bC x.2.1 f.2.1/\bC x.2.2.1 f.2.2.1/\fL (mE x).1 (mE f).1/\fL (lM (mE x)) (lM (mE f))/\aH n.q.on/\aY n.q.on/\bX (fI (bA x.1 1)=bR f.1) Q (jG (mE f)) h h))))))))))))) (K eE (jG (mE x)) h)))))))
structure oh(m:MH)(b:Nat)(seen:ti):Prop where
 ex:∃bs:List Bool,m b=some (.cells ⟨bs.map .bool⟩ 259 (0,0))/\bs.length=12/\∀k:Nat,k<12->(bs[k]?=some true↔(k:Int)∈seen)
theorem oh.zero(h:m b=some (.cells ⟨[.bool false,.bool false,.bool false,.bool false,.bool false,.bool false,.bool false,.bool false,.bool false,.bool false,.bool false,.bool false]⟩ 259 (0,0))):oh m b []:=
 ⟨⟨replicate 12 false,h,rfl,λk c=>da⟩⟩
theorem oh.ic{c}(x:oh m b c){n}(f:0<=n)(g:n<12):∃y:Bool,aK m h b (0+n.toNat*1) [.bool y]/\(y=true↔n∈c):=by
 have⟨d,e,j,o⟩:=x.ex;have t:n.toNat<d.length:=by omega
 refine⟨d[n.toNat],.dx _ _ _ e ?_,?_⟩
 .simp_all[Nat.zero_add,Nat.mul_one,length_nil,drop_eq_getElem_cons]
 grind
theorem oh.store{c}(x:oh m b c){n}(j:0<=n)(o:n<12):∃cs E,yA m b (.cells cs E (0,0))/\0+n.toNat*1<cs.size/\∀m',iZ m m' b (.cells ⟨aq cs.toList (0+n.toNat*1) [.bool true]⟩ E (0,0))->oh m' b (c++[n]):=by
 have⟨d,e,t,u⟩:=x.ex;have y:n.toNat<d.length:=by omega
 refine⟨_,_,⟨e⟩,da,λm' f=>⟨d.set n.toNat true,?_,da,λk g=>?_⟩⟩
 .rw[f.y];congr 3;simp only[aq,Nat.zero_add,Nat.mul_one,te,length_nil];simp_all[set_eq_take_append_cons_drop,map_take,map_drop]
 grind
theorem oh.ai{f d}(x:oh m b d)(g:b≠f)(t:∀c,c≠f->m' c=m c):oh m' b d:=by
 have⟨j,e,n,o⟩:=x.ex;exact⟨j,da,n,o⟩
theorem De.arg{n}(x:De h s ps q ks n){j k}(c:ks[j]?=some k):∃b o sl,n.args.a=some ⟨b,o,none⟩/\bJ h b (o+j*1) [.slice sl.a sl.len sl.cap]/\an h sl k/\k.length<=12/\j<n.args.len:=by
 have⟨b,o,sl,e,r,d⟩:=x.ks_.at c;have:=(sg c);exact⟨b,o,sl,e,r,d,x.len k (si c),by rw[x.ks_.e];exact this⟩
theorem dqQ{n}(c:K (aQ ⟨0,0,⟨0,0,eU,eU,⟨none,0,0⟩⟩,⟨none,0,0⟩,⟨none,0,0⟩,n.q.be,n.q.bh,n.q.bg,⟨none,0,0⟩⟩) m h):VZ n m h K:=c
theorem AF:uz 191 FY:=by
 refine gV func191 ?_;rintro C m h K⟨n,k,u,s,ps,q,ks,D,rfl,c,E,B⟩;refine⟨WP [(217,dZZ)],rfl,aD aVX aG,V1 n k u,bt,?_⟩;dsimp only[V1,push_cast];have L:=c.ks_.e;have F:=c.q_;have d:=c.q_;obtain⟨op,ta,w,co,on,gr,od,li,args⟩:=q;obtain⟨G,f,H,g,j,o,t,z,A⟩:=D;have x:=E.parts;have y:=F.parts;refine aB (λI=>⟨n.q,⟨n.q.op,u.ah,u.ap,u.aa,u.on,u.be,u.bh,u.bg,n.q.args⟩,_,.mk op f H g j o t z args,rfl,d,pV.fm ⟨y.jp,x.dd,x.ap,x.aw,x.ez,x.az,x.bd,x.dm,y.bf⟩,λr J=>B r (J.trans ⟨λe=>⟨?_,e⟩,λe=>e.2⟩)⟩) (λI=>B false ⟨λe=>(by cases e),λe=>?_⟩)
 .grind
 grind
theorem Tz:uz 194 T9:=by
 refine gV func194 ?_;rintro c m h K⟨n,s,ps,q,ks,rfl,e,d⟩;refine⟨WP [],rfl,aG,VZ n,bt,?_⟩;exact dqQ d
theorem dpJ{n op on args}(z:De h s ps (.mk op ta w co on gr od li args) ks n)(ha:ks[0]?=some a)(W:∀r:Bool,(r=true↔Df a gr od li)->K (cB r) m h):Km n m h (pY h K):=by
 dsimp only[Km,push_cast];have x:=z.q_.parts;have gl:=x.az.e;have X:=x.az.len;have ol:=x.bd.e;have Y:=x.bd.len;have el:=x.dm;have⟨b0,o0,Z,e0,r0,J,a',a0⟩:=z.arg ha;have L:=J.e;have u:∀f,dh m f->¬Df a gr od li->pY h K (.val (.bool false)) f h:=λf hm z=>.sub hm (W false ⟨λe=>(by cases e),λe=>(z e).elim⟩);refine⟨b0,o0,e0,aC,aC,Z,.ay aC,λb m1 hb D=>?_⟩;refine⟨λ⟨i,F,b',f⟩=>F=a.length/\b'=b/\i<=gr.length/\dh m f/\oh f b (gr.take i)/\jD (Qi a) gr i,λ⟨i,_,_,_⟩=>gr.length-i,⟨(0,Z.len,b,m1),⟨L,rfl,aC,(dh.refl m).dv hb.m_ D.ai,.zero D.y,.zero⟩,MT⟩,?_⟩;rintro⟨i,F,b,f⟩⟨rfl,rfl,hi,d,j,M⟩;dsimp only;refine aE (λo=>?_) (λG=>?_)
 .have⟨c,B⟩:=eF gl o;have⟨O,P,Q,R⟩:=x.az.im B;have t:¬Qi a (gr.take i) c->pY h K (.val (.bool false)) f h:=λz=>u f d λg=>cn.not B z g.az;refine⟨O,P,Q,aC,o,c,.ay R,aE (λH=>t λg=>?_) (λH=>aE (λC=>t λg=>?_) (λC=>?_))⟩
  .have:=pB.1 g.1;omega
  .have:=pB.1 g.1;omega
  have⟨y,hy,S⟩:=j.ic (h:=h) (n:=c) aC aC;refine⟨aC,aC,y,hy,aB (λh3=>t λg=>g.2 (S.1 h3)) (λh3=>?_)⟩;have⟨cs,E,T,U,a1⟩:=j.store (n:=c) aC aC;refine⟨aC,aC,cs,E,T,U,λm2 V=>⟨(i+1,a.length,b,m2),⟨rfl,rfl,aC,d.dv hb.m_ V.ai,?_,M.succ B ⟨pB.2 ⟨aC,aC⟩,λe=>?_⟩⟩,aC,MT⟩⟩
  .grind[sy]
  grind
 have gg:=M.all aC;refine⟨λ⟨i,F,f⟩=>F=a.length/\i<=od.length/\dh m f/\jD (Ue a) od i,λ⟨i,_,_⟩=>od.length-i,⟨(0,a.length,f),⟨rfl,aC,d,.zero⟩,MT⟩,?_⟩;clear hi M G d j f;rintro⟨i,F,f⟩⟨rfl,hi,d,I⟩;dsimp only;refine aE (λo=>?_) (λG=>?_)
 .have⟨c,B⟩:=eF ol o;have⟨O,P,Q,R⟩:=x.bd.at B;have A:¬Ue a (od.take i) c->pY h K (.val (.bool false)) f h:=λz=>u f d λg=>cn.not B z g.bd;refine⟨O,P,Q,aC,o,c,.ay R,aE (λH=>A λg=>?_) (λH=>aE (λC=>A λg=>?_) (λC=>⟨(i+1,a.length,f),⟨rfl,aC,d,I.succ B (pB.2 ⟨aC,aC⟩)⟩,aC,MT⟩))⟩
  .have:=pB.1 (show IK a c.1=true from g);omega
  .have:=pB.1 (show IK a c.1=true from g);omega
 have oo:=I.all aC;rw[el];refine aE (λH=>aE (λC=>?_) (λC=>u f d λg=>?_)) (λH=>u f d λg=>?_)
 .exact .sub d (W (decide (li<=100)) ⟨λe=>⟨gg,oo,aC,C,mp e⟩,λe=>decide_eq_true e.high⟩)
 .have:=g.low;omega
 .have:=g.len_;omega
theorem Ty:uz 195 Ua:=by
 refine Lr func195 ?_;rintro c m h K⟨n,s,ps,q,ks,a,rfl,d,f,g⟩;refine⟨cwJ n h,rfl,aG,Km n m h (pY h K),bt,?_⟩;dsimp only[Km,push_cast];obtain⟨op,ta,w,co,on,gr,od,li,args⟩:=q;refine dpJ d f (λr j=>g r (j.trans ⟨λe=>⟨_,_,_,_,_,_,_,_,_,rfl,e⟩,?_⟩))
 grind
theorem aFZ{on sl}(c:l9 h sl on):cQ h (.mk 0 0 jU [] on [] [] 0 []) ⟨0,0,⟨0,0,eU,eU,⟨none,0,0⟩⟩,⟨none,0,0⟩,sl,⟨none,0,0⟩,⟨none,0,0⟩,0,⟨none,0,0⟩⟩:=
 pV.fm ⟨rfl,rfl,GL h,⟨.nil _ _,bu⟩,c,⟨.nil _ _,bu⟩,⟨.nil _ _,bu⟩,rfl,.nil _ _ _ _⟩
theorem TA:uz 192 Ud:=by
 refine Lr func192 ?_;rintro a8 m h K⟨n,s,ps,q,ks,rfl,t,hK⟩;refine⟨cxX n h,rfl,aD AF aG,Kn n m h (pY h K),bt,?_⟩;dsimp only[Kn,push_cast];obtain⟨op,ta,w,co,on,gr,od,li,args⟩:=q;show Kn n m h (pY h K);dsimp only[Kn,push_cast];have x:=t.q_.parts;have ol:=x.ez.e;have a6:=x.ez.len;have u:∀g,dh m g->¬Rs ks (.mk op ta w co on gr od li args)->pY h K (.val (.bool false)) g h:=λg U t=>.sub U (hK false ⟨λe=>(by cases e),λe=>(t e).elim⟩);refine⟨n,2,⟨0,0,⟨0,0,eU,eU,⟨none,0,0⟩⟩,⟨none,0,0⟩,n.q.on,⟨none,0,0⟩,⟨none,0,0⟩,0,⟨none,0,0⟩⟩,s,ps,_,ks,.mk 0 0 jU [] on [] [] 0 [],rfl,t,aFZ x.ez,λr hr=>aB (λh1=>u m (dh.refl m) λf=>?_) (λh1=>?_)⟩
 .have:r=true:=hr.2 ⟨by have:=f.1;omega,by obtain⟨_,rfl,rfl,rfl,rfl,rfl,rfl,_⟩:=f;rfl⟩
  grind
 have⟨V,H⟩:=hr.1 da;simp only[ae.gs,ae.mk.injEq]at H;obtain⟨_,rfl,rfl,rfl,_,rfl,rfl,rfl,_⟩:=H
 obtain⟨F,G,rfl⟩:∃F G,ks=[F,G]:=by
  match ks,V with
  |[F,G],_=>grind
  |[],h=>simp at h
  |[_],h=>simp at h
  |_::_::_::_,h=>grind
 have⟨b0,o0,I,e0,r0,i0,l0,j0⟩:=t.arg (j:=0) rfl;have⟨b1,o1,J,e1,r1,i1,l1,j1⟩:=t.arg (j:=1) rfl;have a9:=i0.e;have b4:=i1.e;have u:∀g,dh m g->¬cn (AR F G) on->pY h K (.val (.bool false)) g h:=λg U t=>u g U λf=>t f.2.2.2.2.2.2.2;refine⟨b0,o0,e0,aC,aC,I,.ay aC,b1,o1,e1,aC,aC,J,.ay aC,λb m1 hb A c m2 hc B=>?_⟩;have C:b≠c:=λe=>by have:=hc.m_;rw[<-e,A.y]at this;cases this
 have L:dh m m1:=(dh.refl m).dv hb.m_ A.ai;have M:m c=none:=L.jb hc.m_
 refine⟨λ⟨i,s',t',b',c',g⟩=>s'=I/\t'=J/\b'=b/\c'=c/\i<=on.length/\dh m g/\oh g b ((on.take i).map Prod.fst)/\oh g c ((on.take i).map Prod.snd)/\jD (AR F G) on i,λ⟨i,_,_,_,_,_⟩=>on.length-i,
  ⟨(0,I,J,b,c,m2),⟨rfl,rfl,rfl,rfl,aC,L.dv M B.ai,(oh.zero A.y).ai C B.ai,.zero B.y,.zero⟩,MT⟩,?_⟩
 rintro⟨i,I,J,b,c,g⟩⟨rfl,rfl,rfl,rfl,hi,o,hA,hB,hg⟩;dsimp only;refine aE (λO=>?_) (λb5=>.sub o (hK true ⟨λ_=>⟨rfl,rfl,rfl,rfl,rfl,rfl,rfl,hg.all aC⟩,λ_=>rfl⟩));have⟨p,S⟩:=eF ol O;have⟨bp,W,ep,rp⟩:=x.ez.at S;have d:¬AR F G (on.take i) p->pY h K (.val (.bool false)) g h:=λt=>u g o (cn.not S t);refine⟨bp,W,ep,aC,O,p,.ay rp,aC,aC,aC,aC,aE (λd1=>d λf=>?_) (λd1=>aE (λd2=>d λf=>?_) (λd2=>aE (λd3=>d λf=>?_) (λd3=>aE (λd4=>d λf=>?_) (λd4=>?_))))⟩
 .have:=pB.1 f.1;omega
 .have:=pB.1 f.1;omega
 .have:=pB.1 f.2.1;omega
 .have:=pB.1 f.2.1;omega
 have⟨b2,o2,e2,r2⟩:=i0.nt (n:=p.1) aC aC;have⟨b3,o3,e3,r3⟩:=i1.nt (n:=p.2) aC aC;have⟨y,hy,X⟩:=hA.ic (h:=h) (n:=p.1) aC aC;have⟨z,hz,Y⟩:=hB.ic (h:=h) (n:=p.2) aC aC;have⟨cs,E,Z,a',a2⟩:=hA.store (n:=p.1) aC aC;refine⟨b2,o2,e2,aC,aC,_,.ay r2,b3,o3,e3,aC,aC,_,.ay r3,aB (λd5=>d λf=>?_) (λd5=>⟨aC,aC,y,hy,aB (λd6=>d λf=>?_) (λd6=>⟨aC,aC,z,hz,aB (λd7=>d λf=>?_) (λd7=>⟨aC,aC,cs,E,Z,a',λm3 D=>?_⟩)⟩)⟩)⟩
 .rw[f.2.2.1]at d5;simp at d5
 .have⟨q,T,e⟩:=mem_map.1 (X.1 d6);exact(f.2.2.2 q T).1 e
 .have⟨q,T,e⟩:=mem_map.1 (Y.1 d7);exact(f.2.2.2 q T).2 e
 have a3:=a2 m3 D;have a4:=hB.ai C.symm D.ai;have⟨a5,E2,P,Q,a7⟩:=a4.store (n:=p.2) aC aC;refine⟨aC,aC,a5,E2,P,Q,λm4 R=>⟨(i+1,I,J,b,c,m4),⟨rfl,rfl,rfl,rfl,aC,(o.dv hb.m_ D.ai).dv M R.ai,?_,?_,hg.succ S ⟨pB.2 ⟨aC,aC⟩,pB.2 ⟨aC,aC⟩,da,λq T=>⟨λe=>?_,λe=>?_⟩⟩⟩,aC,MT⟩⟩
 .rw[j4 S];exact a3.ai C R.ai
 .grind[j4]
 .grind
 .grind
def du(r:ti×Int):=if r.2=0 then Ez r.1 else nY r.2
def ae.op:ae->Int
 |.mk op .. =>op
def Dh(s:kD)(ps:ti)(q:ae)(ks:List ti):=if(ks.length:Int)=cm q.op then lS s ps q (ks.getD 0 []) (ks.getD 1 [])else nY 100
def Di(P:Int->Prop):=λc m h K=>∃n s ps q ks,c=[aN n]/\De h s ps q ks n/\pE s/\P q.op/\∀r,du r=Dh s ps q ks->KR K m h r
def dYZ h c ks:=aU h 1 eS (λk d=>an h d k) c ks
def R9:AC:=λc m h K=>∃d ks,c=[cS d]/\dYZ h d ks/\ks.length<=10/\(∀k∈ks,k.length<=12)/\∀e h',PH.le h h'->an h' e ks.flatten->K (cS e) m h'
def cAZ(n:NV)(m:MH)(h:PH):=
 dD [(191,FY)] [(5,{A:=Nat×ti,st:=λ⟨i,l⟩=>bO 57 58 ([SW 1,(4,.at (.au 25))]++WF 28 n.q.aa i) [UV 1 206 n.ag,(25,.au 3 1 (l.map eI))] m h})] [] [] false
abbrev HK:=C2 (B8::pN::kS)
abbrev yG a b:=wM a b (nP (EN::pN::bD 0 0 (pW 0::EN::C2 HK)))
abbrev mO a:=[tV a]
abbrev XR(a:ti->tp->Prop):=∃x c,a x c
attribute [push_cast] HK yG mO XR
def Kv n:=λm h K=>E4 (bE (gW n.s (eW n.params n.q.op (bD n.q.ah (fM n.q) (bD (fN n.q) (dX n).kind (fT (dX n) (iC n)))))) (bL (fD 0) (yG 0 n.q.ah))) (λc k u=>bE (gW c.s (eW c.params c.q.op (bD c.q.ah (fM c.q) (bD (fN c.q) (dX c).kind (fT (dX c) (iC c)))))) (bL (fD k) u.ag)) h (λr=>cC r (fR K 100 m h) (aX n.q.ah 0 (fR K 100 m h) (iA n.q.ah (iS n.s) (fR K 100 m h) (Cd (dZ (jS n.s) n.q.ah) h (λs d=>mR K s m d)))))
def Ku n:=λm h K=>E4 (bE (gW n.s (eW n.params n.q.op (bD n.q.ah (fM n.q) (bD (fN n.q) (dX n).kind (fT (dX n) (iC n)))))) (bL (fD 1) (bD 0 0 (bD (fM n.q) (fN n.q) (Bb (dX n) (pW (NA n.q).kind) (fT (NA n.q) (Cw n.q.ap.args HK))))))) (λd k u=>bE (gW d.s (eW d.params d.q.op (bD d.q.ah (fM d.q) (bD (fN d.q) (dX d).kind (fT (dX d) (iC d)))))) (bL (fD k) u.ag)) h (λr=>cC r (fR K 100 m h) (aM (λb o=>aR n.args.a b o/\(0:Int)<=0/\0<aF n.args/\∃y,aK m h b (fJ o) (aT y)/\Jz (bU y (bL (tV n.params) n.q.ap.ag)) h (λc p e=>cM (kE c p e) 0 (fR K (kE c p e) m h) (aM (λf g=>aR n.args.a f g/\(0:Int)<=0/\0<aF n.args/\∃
 (j:Sl),aK m h f (fJ g) (aT j)/\mR K j m h))))))
def Kt n:=λm h K=>E4 (bE (gW n.s (eW n.params n.q.op (bD n.q.ah (fM n.q) (bD (fN n.q) (dX n).kind (fT (dX n) (iC n)))))) (bL (fD 1) (nP (nP (EN::pN::bD 0 0 (pW 0::EN::B8::fW n.q.aa::HK)))))) (λc k u=>bE (gW c.s (eW c.params c.q.op (bD c.q.ah (fM c.q) (bD (fN c.q) (dX c).kind (fT (dX c) (iC c)))))) (bL (fD k) u.ag)) h (λr=>dJ (!r) (fR K 100 m h) (aF n.q.aa==0) (fR K 100 m h) (dK 0/\dK (aF n.q.aa)/\BV (aF n.q.aa*8)/\BV (aF n.q.aa)/\∃(I:Nat×ti->Prop)(f:Nat×ti->Nat),(∃x,I x/\gY/\eL 25/\aH n.q.aa/\aY n.q.aa/\bB x.1/\GX n/\wX x.2/\gM m m h h)/\
 ∀x,I x->aX x.1 (aF n.q.aa) (ab n.q.aa x.1 1 bV m h (λy=>aX y 0 (fR K 100 m h) (aM (λg j=>aR n.args.a g j/\(0:Int)<=0/\0<aF n.args/\∃t,aK m h g (fJ j) (aT t)/\iA y (aF t) (fR K 100 m h) (aM (λz A=>aR n.args.a z A/\(0:Int)<=0/\0<aF n.args/\∃e,aK m h z (fJ A) (aT e)/\ab e y 1 bV m h (λD=>cJ (fS (gE x.2) 1*8)/\fA (gE x.2)/\∃d,I d/\f d<f x/\gY/\eL 25/\aH n.q.aa/\aY n.q.aa/\fI (bA
 x.1 1)=bR d.1/\GX n/\bX (yM x.2 D d.2) m m h h))))))) (bN h 1 (gE x.2) (λs E=>mR K s m E))))
def Ks n:=λm h K=>∃c,D8 (λs p q k=>eO (mX (gW n.s (eW n.params n.q.op (bD n.q.ah (fM n.q) (bD (fN n.q) (dX n).kind (fT (dX n) (iC n))))))) (mX (gW c.s (eW c.params c.q.op (bD c.q.ah (fM c.q) (bD (fN c.q) (dX c).kind (fT (dX c) (iC c)))))))/\De h s p q k c/\∀r,(mZ r↔Rs k q)->cC r (fR K 100 m h) (aM (λb o=>aR n.args.a b o/\(0:Int)<=0/\0<aF n.args/\∃y,aK m h b (fJ o) (aT y)/\aM (λe f=>aR n.args.a e f/\(0:Int)<=1/\1<aF n.args/\∃g,aK m h e (dG f) (aT g)/\bJ h b (fJ o) (aT y)/\bJ h e (dG f) (aT g)/\bN h 1 (aT y::[aT g]) (λB t=>∃u d,mO B=mO
 u/\dYZ t u d/\d.length<=10/\(∀z,List.Mem z d->z.length<=12)/\jA (λA j=>cO t j (an j A d.flatten) (mR K A m j)))))))
def Kr n:=λm h K=>∃c,D8 (λs p q k=>eO (mX (gW n.s (eW n.params n.q.op (bD n.q.ah (fM n.q) (bD (fN n.q) (dX n).kind (fT (dX n) (iC n))))))) (mX (gW c.s (eW c.params c.q.op (bD c.q.ah (fM c.q) (bD (fN c.q) (dX c).kind (fT (dX c) (iC c)))))))/\De h s p q k c/\∀r,(mZ r↔Rs k q)->cC r (fR K 100 m h) (aM (λb o=>aR n.args.a b o/\(0:Int)<=0/\0<aF n.args/\∃y,aK m h b (fJ o) (aT y)/\mR K y m h)))
def PM n:=λm h K=>E4 (bE (gW n.s (eW n.params n.q.op (bD n.q.ah (fM n.q) (bD (fN n.q) (dX n).kind (fT (dX n) (iC n)))))) (bL (fD 2) zV)) (λc k u=>bE (gW c.s (eW c.params c.q.op (bD c.q.ah (fM c.q) (bD (fN c.q) (dX c).kind (fT (dX c) (iC c)))))) (bL (fD k) u.ag)) h (λr=>cC r (fR K 100 m h) (aM (λb o=>aR n.args.a b o/\(0:Int)<=0/\0<aF n.args/\∃y,aK m h b (fJ o) (aT y)/\aM (λd e=>aR n.args.a d e/\(0:Int)<=1/\1<aF n.args/\∃f,aK m h d (dG e) (aT f)/\E8 y f h (λz=>cC z (fR K 100 m h) (aM (λg j=>aR n.args.a g j/\(0:Int)<=0/\0<aF n.args/\∃t,aK m h g (fJ j) (aT t)/\mR K t m h)))))))
def Kq n:=λm h K=>∃e,D8 (λs p q k=>let F:=gW n.s (eW n.params n.q.op (bD n.q.ah (fM n.q) (bD (fN n.q) (dX n).kind (fT (dX n) (iC n)))));eO (mX F) (mX (gW e.s (eW e.params e.q.op (bD e.q.ah (fM e.q) (bD (fN e.q) (dX e).kind (fT (dX e) (iC e)))))))/\De h s p q k e/\E4 (bE F (bL (fD 1) (nP (nP (EN::pN::bD 0 0 (pW 0::EN::C2 (B8::fW e.q.be::eW e.q.bh e.q.bg kS))))))) (λd f u=>bE (gW d.s (eW d.params d.q.op (bD d.q.ah (fM d.q) (bD (fN d.q) (dX d).kind (fT (dX d) (iC d)))))) (bL (fD f) u.ag)) h (λr=>cC r (fR K 100 m h) (∃d,D8 (λB C j f=>∃a,eO (mX F) (mX (gW d.s (eW d.params d.q.op (bD d.q.ah (fM d.q) (bD (fN d.q) (dX d).kind (fT (dX d) (iC d)))))))/\De h B C j f d/\f[0]?=some a/\∀z,(mZ z↔(∃o t w c D,XR (λg A=>∃l E,j=ae.mk o t w c D g A l E/\Df a g A l)))->cC z (fR K 100 m h) (aM (λb o=>aR n.args.a b o/\(0:Int)<=0/\0<aF n.args/\∃y,aK m h b (fJ o) (aT y)/\mR K y m h))))))
def Ko n:=λm h K=>∃e,D8 (λs p q k=>let N:=gW n.s (eW n.params n.q.op (bD n.q.ah (fM n.q) (bD (fN n.q) (dX n).kind (fT (dX n) (iC n)))));eO (mX N) (mX (gW e.s (eW e.params e.q.op (bD e.q.ah (fM e.q) (bD (fN e.q) (dX e).kind (fT (dX e) (iC e)))))))/\De h s p q k e/\E4 (bE N (bL (fD 2) (nP (nP (EN::pN::bD 0 0 (pW 0::EN::C2 (B8::fW e.q.be::eW e.q.bh e.q.bg kS))))))) (λd f u=>bE (gW d.s (eW d.params d.q.op (bD d.q.ah (fM d.q) (bD (fN d.q) (dX d).kind (fT (dX d) (iC d)))))) (bL (fD f) u.ag)) h (λr=>cC r (fR K 100 m h) (aM (λb o=>aR n.args.a b o/\(0:Int)<=0/\0<aF n.args/\∃y,aK m h b (fJ o) (aT y)/\aM (λj z=>aR n.args.a j z/\(0:Int)<=1/\1<aF n.args/\∃A,aK m h j (dG z) (aT A)/\E8 y A h (λH=>cC H (bJ h b (fJ o) (aT y)/\bJ h j (dG z) (aT A)/\fR K 100 m h) (bJ h b (fJ o) (aT y)/\bJ h j (dG z) (aT A)/\∃d,D8 (λI J C f=>∃a,eO (mX N) (mX (gW d.s (eW d.params d.q.op (bD d.q.ah (fM d.q) (bD (fN d.q) (dX d).kind (fT (dX d) (iC d)))))))/\De h I J C f d/\f[0]?=some a/\∀D,(mZ D↔(∃B t w c L,XR (λg E=>∃l M,C=ae.mk B t w c L g E l M/\Df a g E l)))->cC D (fR K 100 m h) (aM (λF B=>aR n.args.a F B/\(0:Int)<=0/\0<aF n.args/\∃G,aK m h F (fJ B) (aT G)/\mR K G m h))))))))))
theorem daQ{e}(h:e≠0):du (nY e)=nY e:=by simp_all[du,nY]
theorem c9J l:du (l,0)=Ez l:=by unfold du;grind
structure pu(K:tt)(m:MH)(h:PH)(full:ti×Int):Prop where
 all:∀r,du r=full->KR K m h r
theorem pu.fj{f e}(x:pu K m h f)(d:f=nY e)(g:e≠0)(c:PH.le h h'):K (.dg [.val (.slice none 0 0),.val (.int .i64 e)]) m h':=
 (x.all (nY e) (by rw[d,daQ g])).fj c rfl
theorem pu.ok{f sl}(x:pu K m h f)(d:f=Ez l)(c:PH.le h h')(e:an h' sl l):K (.dg [.val (.slice sl.a sl.len sl.cap),.val (.int .i64 0)]) m h':=
 x.all (l,0) (by rw[d,c9J]) sl h' c e
theorem BB(h:¬((ks.length:Int)=cm q.op/\gL q)):Dh s ps q ks=nY 100:=by
 unfold Dh;by_cases c:(ks.length:Int)=cm q.op
 .simp_all[lS]
 grind
theorem wD{s:kD}{ps op ta w co on gr od li args ks}(c:(ks.length:Int)=cm op)(d:gL (.mk op ta w co on gr od li args))(e:0<=cm op):
 Dh s ps (.mk op ta w co on gr od li args) ks=lS s ps (.mk op ta w co on gr od li args) (ks.getD 0 []) (ks.getD 1 [])/\¬(cm op<0\/¬gL (.mk op ta w co on gr od li args)):=by
 simp_all[Dh,cm,ae.op]
section
variable{n:NV}{s:kD}{ps:ti}{ta:Int}{w:ao}{co:ti}{on:tu}{gr:ti}{od:tp}{li:Int}{args:List ae}{ks:List ti}{m:MH}{h:PH}{K:tt}
theorem aIZ(c:(ks.length:Int)=1):∃a,ks=[a]:=by
 match ks,c with
 |[a],_=>grind
 |[],h=>simp at h
 |_::_::_,h=>grind
theorem Xz(c:(ks.length:Int)=2):∃a b,ks=[a,b]:=by
 match ks,c with
 |[a,b],_=>grind
 |[],h=>simp at h
 |[_],h=>simp at h
 |_::_::_::_,h=>grind
theorem dsJ(f:De h s ps (.mk 1 ta w co on gr od li args) ks n)(u:pE s)(c:pu K m h (Dh s ps (.mk 1 ta w co on gr od li args) ks)):Kv n m h K:=by
 dsimp only[Kv,push_cast];have x:=f.q_.parts;have j:=x.dd;have y:=f.s_.c.e;refine⟨n,0,⟨0,n.q.ah,⟨0,0,eU,eU,⟨none,0,0⟩⟩,⟨none,0,0⟩,⟨none,0,0⟩,⟨none,0,0⟩,⟨none,0,0⟩,0,⟨none,0,0⟩⟩,s,ps,_,ks,.mk 0 ta jU [] [] [] [] 0 [],rfl,f,pV.fm ⟨rfl,j,GL h,⟨.nil _ _,bu⟩,⟨.nil _ _,bu⟩,⟨.nil _ _,bu⟩,⟨.nil _ _,bu⟩,rfl,.nil _ _ _ _⟩,λr o=>aB (λz=>c.fj (BB λe=>?_) aC (.refl _)) (λz=>?_)⟩
 .have:r=true:=o.2 ⟨e.1,by have:=e.2;simp[gL]at this;obtain⟨rfl,rfl,rfl,rfl,rfl,rfl⟩:=this;rfl⟩
  grind
 have⟨A,d⟩:=o.1 da;simp only[ae.gs,ae.mk.injEq]at d;obtain⟨_,_,rfl,rfl,rfl,rfl,rfl,rfl,_⟩:=d;have⟨B,C⟩:=wD (s:=s) (ps:=ps) (op:=1) (ta:=ta) (w:=jU) (co:=[]) (on:=[]) (gr:=[]) (od:=[]) (li:=0) (args:=args) (ks:=ks) A (by simp[gL]) bx;rw[B]at c;unfold lS at c;rw[if_neg C]at c;dsimp only at c;rw[if_pos rfl]at c;refine aE (λD=>c.fj (if_neg aC) aC (.refl _)) (λD=>aE (λE=>c.fj (if_neg aC) aC (.refl _)) (λE=>⟨n.s,s,n.q.ah,rfl,f.s_,u,λy h' g t=>?_⟩));rw[j]at t;exact c.ok (if_pos aC) g t
theorem dsZ(f:De h s ps (.mk 2 ta w co on gr od li args) ks n)(c:pu K m h (Dh s ps (.mk 2 ta w co on gr od li args) ks)):Ku n m h K:=by
 dsimp only[Ku,push_cast];have x:=f.q_.parts;refine⟨n,1,⟨0,0,n.q.ap,⟨none,0,0⟩,⟨none,0,0⟩,⟨none,0,0⟩,⟨none,0,0⟩,0,⟨none,0,0⟩⟩,s,ps,_,ks,.mk 0 0 w [] [] [] [] 0 [],rfl,f,pV.fm ⟨rfl,rfl,x.ap,⟨.nil _ _,bu⟩,⟨.nil _ _,bu⟩,⟨.nil _ _,bu⟩,⟨.nil _ _,bu⟩,rfl,.nil _ _ _ _⟩,λr o=>aB (λB=>c.fj (BB λe=>?_) aC (.refl _)) (λB=>?_)⟩
 .have:r=true:=o.2 ⟨e.1,by have:=e.2;simp[gL]at this;obtain⟨rfl,rfl,rfl,rfl,rfl,rfl⟩:=this;rfl⟩
  grind
 have⟨t,d⟩:=o.1 da;simp only[ae.gs,ae.mk.injEq]at d;obtain⟨_,rfl,_,rfl,rfl,rfl,rfl,rfl,_⟩:=d;have⟨C,D⟩:=wD (s:=s) (ps:=ps) (op:=2) (ta:=0) (w:=w) (co:=[]) (on:=[]) (gr:=[]) (od:=[]) (li:=0) (args:=args) (ks:=ks) t (by simp[gL]) bx;rw[C]at c;unfold lS at c;rw[if_neg D]at c;dsimp only at c;rw[if_neg bx,if_pos rfl]at c;obtain⟨a,rfl⟩:=aIZ t;have⟨u,y,g,z,F,A,G,H⟩:=f.arg (j:=0) rfl;simp only[getD_cons_zero]at c;refine⟨u,y,z,aC,aC,g,.ay aC,g,n.params,n.q.ap,a,ps,w,rfl,A,f.ps_,x.ap,aB (λE=>c.fj (if_neg da) da (.refl _)) (λE=>⟨u,y,z,aC,aC,g,.ay aC,c.ok (if_pos da) (.refl _) A⟩)⟩
theorem drJ(t:De h s ps (.mk 5 ta w co on gr od li args) ks n)(d:pu K m h (Dh s ps (.mk 5 ta w co on gr od li args) ks)):Kr n m h K:=by
 dsimp only[Kr,push_cast];refine⟨n,s,ps,_,ks,rfl,t,λr u=>aB (λy=>d.fj ?_ aC (.refl _)) (λy=>?_)⟩
 .by_cases f:((ks.length:Int)=cm 5/\gL (.mk 5 ta w co on gr od li args))
  .have⟨g,o⟩:=wD (s:=s) (ps:=ps) f.1 f.2 bx;rw[g];unfold lS;rw[if_neg o];dsimp only;rw[if_neg bx,if_neg bx,if_neg bx,if_neg bx,if_pos rfl,if_neg];intro c;have e:=f.2;simp[gL]at e;have:r=true:=u.2 ⟨by grind[cm],e.1,e.2.1,e.2.2.1,e.2.2.2.1,e.2.2.2.2.1,e.2.2.2.2.2,c⟩
   grind
  .exact BB f
 obtain⟨z,rfl,rfl,rfl,rfl,rfl,rfl,c⟩:=u.1 da;have⟨g,o⟩:=wD (s:=s) (ps:=ps) (op:=5) (ta:=0) (w:=jU) (co:=[]) (on:=on) (gr:=[]) (od:=[]) (li:=0) (args:=args) (ks:=ks) (by rw[z];rfl) (by simp[gL]) bx;rw[g]at d;unfold lS at d;rw[if_neg o]at d;dsimp only at d;rw[if_neg bx,if_neg bx,if_neg bx,if_neg bx,if_pos rfl,if_pos c]at d;obtain⟨a,b,rfl⟩:=Xz (ks:=ks) aC;have⟨A,B,C,D,F,E,G,H⟩:=t.arg (j:=0) rfl;exact⟨A,B,D,aC,aC,C,.ay aC,d.ok rfl (.refl _) E⟩
theorem dsQ(u:De h s ps (.mk 4 ta w co on gr od li args) ks n)(f:pu K m h (Dh s ps (.mk 4 ta w co on gr od li args) ks)):Ks n m h K:=by
 dsimp only[Ks,push_cast];refine⟨n,s,ps,_,ks,rfl,u,λr D=>aB (λE=>f.fj ?_ aC (.refl _)) (λE=>?_)⟩
 .by_cases y:((ks.length:Int)=cm 4/\gL (.mk 4 ta w co on gr od li args))
  .have⟨z,A⟩:=wD (s:=s) (ps:=ps) y.1 y.2 bx;rw[z];unfold lS;rw[if_neg A];dsimp only;rw[if_neg bx,if_neg bx,if_neg bx,if_pos rfl,if_neg];intro c;have e:=y.2;simp[gL]at e;have:r=true:=D.2 ⟨by grind[cm],e.1,e.2.1,e.2.2.1,e.2.2.2.1,e.2.2.2.2.1,e.2.2.2.2.2,c⟩
   grind
  .exact BB y
 obtain⟨d,rfl,rfl,rfl,rfl,rfl,rfl,c⟩:=D.1 da;have⟨z,A⟩:=wD (s:=s) (ps:=ps) (op:=4) (ta:=0) (w:=jU) (co:=[]) (on:=on) (gr:=[]) (od:=[]) (li:=0) (args:=args) (ks:=ks) (by rw[d];rfl) (by simp[gL]) bx;rw[z]at f;unfold lS at f;rw[if_neg A]at f;dsimp only at f;rw[if_neg bx,if_neg bx,if_neg bx,if_pos rfl,if_pos c]at f;obtain⟨a,b,rfl⟩:=Xz (ks:=ks) aC;have⟨F,G,B,H,S,I,T,U⟩:=u.arg (j:=0) rfl;have⟨J,L,C,M,V,O,W,X⟩:=u.arg (j:=1) rfl;refine⟨F,G,H,aC,aC,B,.ay aC,J,L,M,aC,aC,C,.ay aC,aC,aC,λP h' g o=>⟨P,[a,b],rfl,⟨⟨[B,C],o,rfl,λj k d=>?_⟩,bu⟩,bu,λk d=>u.len k d,λQ e t R=>f.ok (l:=a++b) bu (g.trans t) da⟩⟩
 match j,d with
 |0,d=>simp at d;subst d;exact⟨B,rfl,I.mono g⟩
 |1,d=>simp at d;subst d;exact⟨C,rfl,O.mono g⟩
 |_+2,d=>simp at d
theorem drZ{op}(t:op=6\/op=7\/op=8)(o:De h s ps (.mk op ta w co on gr od li args) ks n)(d:pu K m h (Dh s ps (.mk op ta w co on gr od li args) ks)):PM n m h K:=by
 dsimp only[PM,push_cast];have x:=o.q_.parts;have P:cm op=2:=by rcases t with rfl|rfl|rfl<;>rfl
 have c:op≠1/\op≠2/\op≠3/\op≠4/\op≠5/\op≠9/\op≠10:=by omega
 refine⟨n,2,⟨0,0,⟨0,0,eU,eU,⟨none,0,0⟩⟩,⟨none,0,0⟩,⟨none,0,0⟩,⟨none,0,0⟩,⟨none,0,0⟩,0,⟨none,0,0⟩⟩,s,ps,_,ks,.mk 0 0 jU [] [] [] [] 0 [],rfl,o,pV.fm ⟨rfl,rfl,GL h,⟨.nil _ _,bu⟩,⟨.nil _ _,bu⟩,⟨.nil _ _,bu⟩,⟨.nil _ _,bu⟩,rfl,.nil _ _ _ _⟩,λr z=>aB (λG=>d.fj (BB λe=>?_) aC (.refl _)) (λG=>?_)⟩
 .have A:(ks.length:Int)=cm op:=e.1;have:r=true:=z.2 ⟨aC,by have:=e.2;simp[gL,c]at this;obtain⟨rfl,rfl,rfl,rfl,rfl,rfl,rfl⟩:=this;rfl⟩
  grind
 have⟨H,f⟩:=z.1 da;simp only[ae.gs,ae.mk.injEq]at f;obtain⟨_,rfl,rfl,rfl,rfl,rfl,rfl,rfl,_⟩:=f;have⟨I,J⟩:=wD (s:=s) (ps:=ps) (op:=op) (ta:=0) (w:=jU) (co:=[]) (on:=[]) (gr:=[]) (od:=[]) (li:=0) (args:=args) (ks:=ks) aC (by simp[gL]) aC;rw[I]at d;unfold lS at d;rw[if_neg J]at d;dsimp only at d;rw[if_neg c.1,if_neg c.2.1,if_neg c.2.2.1,if_neg c.2.2.2.1,if_neg c.2.2.2.2.1,if_neg c.2.2.2.2.2.1,if_neg c.2.2.2.2.2.2]at d;obtain⟨a,b,rfl⟩:=Xz H;have⟨B,C,u,D,Q,E,R,S⟩:=o.arg (j:=0) rfl;have⟨L,M,F,A,T,O,U,V⟩:=o.arg (j:=1) rfl;refine⟨B,C,D,aC,aC,u,.ay aC,L,M,A,aC,aC,F,.ay aC,u,F,a,b,rfl,E,O,λW g=>aB (λy=>d.fj (if_neg λe=>?_) aC (.refl _)) (λy=>⟨B,C,D,aC,aC,u,.ay aC,d.ok (if_pos (g.1 da)) (.refl _) E⟩)⟩;have e:a=b:=e;rw[g.2 e]at y;cases y
theorem dsX(z:De h s ps (.mk 3 ta w co on gr od li args) ks n)(d:pu K m h (Dh s ps (.mk 3 ta w co on gr od li args) ks)):Kt n m h K:=by
 dsimp only[Kt,push_cast];have x:=z.q_.parts;have E:=x.aw.e;have F:=x.aw.len;refine⟨n,1,⟨0,0,⟨0,0,eU,eU,⟨none,0,0⟩⟩,n.q.aa,⟨none,0,0⟩,⟨none,0,0⟩,⟨none,0,0⟩,0,⟨none,0,0⟩⟩,s,ps,_,ks,.mk 0 0 jU co [] [] [] 0 [],rfl,z,pV.fm ⟨rfl,rfl,GL h,x.aw,⟨.nil _ _,bu⟩,⟨.nil _ _,bu⟩,⟨.nil _ _,bu⟩,rfl,.nil _ _ _ _⟩,λr G=>aB (λQ=>d.fj (BB λe=>?_) aC (.refl _)) (λQ=>?_)⟩
 .have:r=true:=G.2 ⟨e.1,by have:=e.2;simp[gL]at this;obtain⟨rfl,rfl,rfl,rfl,rfl,rfl⟩:=this;rfl⟩
  grind
 have⟨H,o⟩:=G.1 da;simp only[ae.gs,ae.mk.injEq]at o;obtain⟨_,rfl,rfl,_,rfl,rfl,rfl,rfl,_⟩:=o;have⟨R,S⟩:=wD (s:=s) (ps:=ps) (op:=3) (ta:=0) (w:=jU) (co:=co) (on:=[]) (gr:=[]) (od:=[]) (li:=0) (args:=args) (ks:=ks) H (by simp[gL]) bx;rw[R]at d;unfold lS at d;rw[if_neg S]at d;dsimp only at d;rw[if_neg bx,if_neg bx,if_pos rfl]at d;obtain⟨a,rfl⟩:=aIZ H;have⟨I,J,L,M,r0,O,l0,j0⟩:=z.arg (j:=0) rfl;have T:=O.e;simp only[getD_cons_zero]at d;refine aB (λP=>d.fj (if_neg λe=>e.1 ((NT E).1 P)) aC (.refl _)) (λP=>?_);have A:co≠[]:=λe=>da
 refine⟨aC,aC,aC,aC,λ⟨i,l⟩=>i<=co.length/\l=(co.take i).map (λc=>a.getD c.toNat 0)/\jD (λ_ c=>IK a c=true) co i,λ⟨i,_⟩=>co.length-i,⟨(0,[]),⟨aC,bu,.zero⟩,MT⟩,?_⟩;rintro⟨i,_⟩⟨hi,rfl,t⟩;dsimp only;refine aE (λu=>?_) (λU sl h' B f=>?_)
 .have⟨c,y⟩:=eF E u;have⟨V,W,C,X⟩:=x.aw.im y;have g:¬IK a c=true->K (.dg [.val (.slice none 0 0),.val (.int .i64 100)]) m h:=λY=>d.fj (if_neg λe=>Y (e.2 i c y)) aC (.refl _);refine⟨V,W,C,aC,u,c,.ay X,aE (λZ=>g λe=>?_) (λZ=>⟨I,J,M,aC,aC,L,.ay aC,aE (λd3=>g λe=>?_) (λd3=>?_)⟩)⟩
  .grind[pB]
  .grind[pB]
  have⟨b2,o2,D,r2⟩:=O.nt (n:=c) aC aC;refine⟨I,J,M,aC,aC,L,.ay aC,b2,o2,D,aC,aC,_,.ay r2,?_,?_,(i+1,(co.take (i+1)).map (λc=>a.getD c.toNat 0)),⟨aC,rfl,t.succ y (pB.2 ⟨aC,aC⟩)⟩,aC,?_⟩
  .simp;omega
  .simp;omega
  .rw[j4 y,sn];exact MT
 .rw[sm aC]at f;exact d.ok (if_pos ⟨A,t.all aC⟩) B ⟨f,cv⟩
theorem drX(d:De h s ps (.mk 9 ta w co on gr od li args) ks n)(c:pu K m h (Dh s ps (.mk 9 ta w co on gr od li args) ks)):Kq n m h K:=by
 dsimp only[Kq,push_cast];have x:=d.q_.parts;refine⟨n,s,ps,_,ks,rfl,d,n,1,⟨0,0,⟨0,0,eU,eU,⟨none,0,0⟩⟩,⟨none,0,0⟩,⟨none,0,0⟩,n.q.be,n.q.bh,n.q.bg,⟨none,0,0⟩⟩,s,ps,_,ks,.mk 0 0 jU [] [] gr od li [],rfl,d,pV.fm ⟨rfl,rfl,GL h,⟨.nil _ _,bu⟩,⟨.nil _ _,bu⟩,x.az,x.bd,x.dm,.nil _ _ _ _⟩,λr g=>aB (λt=>c.fj (BB λe=>?_) aC (.refl _)) (λt=>?_)⟩
 .have:r=true:=g.2 ⟨e.1,by have:=e.2;simp[gL]at this;obtain⟨rfl,rfl,rfl,rfl⟩:=this;rfl⟩
  grind
 have⟨o,f⟩:=g.1 da;simp only[ae.gs,ae.mk.injEq]at f;obtain⟨_,rfl,rfl,rfl,rfl,_,_,_,_⟩:=f;have⟨u,y⟩:=wD (s:=s) (ps:=ps) (op:=9) (ta:=0) (w:=jU) (co:=[]) (on:=[]) (gr:=gr) (od:=od) (li:=li) (args:=args) (ks:=ks) o (by simp[gL]) bx;rw[u]at c;unfold lS at c;rw[if_neg y]at c;dsimp only at c;rw[if_neg bx,if_neg bx,if_neg bx,if_neg bx,if_neg bx,if_pos rfl]at c;obtain⟨a,rfl⟩:=aIZ o;have⟨z,A,B,C,G,D,H,I⟩:=d.arg (j:=0) rfl;refine⟨n,s,ps,_,[a],a,rfl,d,rfl,λJ E=>aB (λF=>c.fj (if_neg λe=>?_) aC (.refl _)) (λF=>⟨z,A,C,aC,aC,B,.ay aC,c.ok (if_pos ?_) (.refl _) D⟩)⟩
 .grind
 grind
theorem dqJ(d:De h s ps (.mk 10 ta w co on gr od li args) ks n)(c:pu K m h (Dh s ps (.mk 10 ta w co on gr od li args) ks)):Ko n m h K:=by
 dsimp only[Ko,push_cast];have x:=d.q_.parts;refine⟨n,s,ps,_,ks,rfl,d,n,2,⟨0,0,⟨0,0,eU,eU,⟨none,0,0⟩⟩,⟨none,0,0⟩,⟨none,0,0⟩,n.q.be,n.q.bh,n.q.bg,⟨none,0,0⟩⟩,s,ps,_,ks,.mk 0 0 jU [] [] gr od li [],rfl,d,pV.fm ⟨rfl,rfl,GL h,⟨.nil _ _,bu⟩,⟨.nil _ _,bu⟩,x.az,x.bd,x.dm,.nil _ _ _ _⟩,λr t=>aB (λD=>c.fj (BB λe=>?_) aC (.refl _)) (λD=>?_)⟩
 .have:r=true:=t.2 ⟨e.1,by have:=e.2;simp[gL]at this;obtain⟨rfl,rfl,rfl,rfl⟩:=this;rfl⟩
  grind
 have⟨u,f⟩:=t.1 da;simp only[ae.gs,ae.mk.injEq]at f;obtain⟨_,rfl,rfl,rfl,rfl,_,_,_,_⟩:=f;have⟨E,F⟩:=wD (s:=s) (ps:=ps) (op:=10) (ta:=0) (w:=jU) (co:=[]) (on:=[]) (gr:=gr) (od:=od) (li:=li) (args:=args) (ks:=ks) u (by simp[gL]) bx;rw[E]at c;unfold lS at c;rw[if_neg F]at c;dsimp only at c;rw[if_neg bx,if_neg bx,if_neg bx,if_neg bx,if_neg bx,if_neg bx,if_pos rfl]at c;obtain⟨a,b,rfl⟩:=Xz u;have⟨y,z,g,A,P,B,Q,R⟩:=d.arg (j:=0) rfl;have⟨G,H,C,I,S,J,T,U⟩:=d.arg (j:=1) rfl;refine⟨y,z,A,aC,aC,g,.ay aC,G,H,I,aC,aC,C,.ay aC,g,C,a,b,rfl,B,J,λV o=>aB (λL=>⟨aC,aC,c.fj (if_neg λe=>?_) aC (.refl _)⟩) (λL=>⟨aC,aC,n,s,ps,_,[a,b],a,rfl,d,rfl,λW M=>aB (λO=>c.fj (if_neg λe=>?_) aC (.refl _)) (λO=>⟨y,z,A,aC,aC,g,.ay aC,c.ok (if_pos ⟨o.1 da,?_⟩) (.refl _) B⟩)⟩)⟩
 .grind
 .grind
 .grind
end
def fv(f:Nat):CV:=.val (.func (.func f) #[] #[])
def Xk:AC:=λc m h K=>∃op,c=[cI op]/\
 branch (op==1) (K (fv 163) m h) (branch (op==2) (K (fv 164) m h) (branch (op==3) (K (fv 165) m h) (branch (op==4) (K (fv 166) m h) (branch (op==5) (K (fv 167) m h) (branch (op==6) (K (fv 168) m h) (branch (op==7) (K (fv 168) m h) (branch (op==8) (K (fv 168) m h) (branch (op==9) (K (fv 169) m h) (branch (op==10) (K (fv 170) m h) (K (.val .nilFunc) m h))))))))))
def cIQ(N:Nat)(sc:bQ)(p:Sl)(v:QV)(m:MH):=
 dD [(112,Ef N),(149,Xk),(163,Di (· =1)),(164,Di (· =2)),(165,Di (· =3)),(166,Di (· =4)),(167,Di (· =5)),(168,Di (λop=>op=6\/op=7\/op=8)),(169,Di (· =9)),(170,Di (· =10))] [(3,{A:=Nat×tq×PH,st:=λ⟨i,c,h⟩=>bO 62 65 ([(1,sv p),SW 3,SW 5,SW 8]++WF 21 v.args i) [UV 3 29 sc.ag,UV 5 68 v.ag,(8,.cells 206 ((sc.ag++eS p++v.ag).map .val++[.au 41])),(41,.au 31 1 (c.map eS))] m h})] [] [] false
abbrev RT:tm:=[.nilFunc]
abbrev sD(a:Nat):Value:=.func (Fn.func a) yZ yZ
abbrev Bd(a:Nat×tq×PH)(b:Sl->tm)(c:NV->CV)(d:ae->Prop)(e:PH->(ti×Int)->Prop):=bN (gG a) 1 (u9 a) (λx j=>∃o,D8 (λf t g u=>Ex (mX (b x))=[c o]/\De j f t g u o/\pE f/\d g/\∀y,du y=Dh f t g u->e j y))
abbrev Bc a b:=Bb (NA a) (fW a.ap.args) (fW a.aa::fW a.on::fW a.be::fW a.bh::pW a.bg::fW a.args::aT b)
abbrev A9 a b c d:=GS a b (λx e=>wQ (b.2 !=0) (fR c b.2 d e) (aF x) 12 (fR c 2 d e) (mR c x d e))
attribute [push_cast] RT sD Bd Bc A9
def PQ(op:Int):ST:=λm h K=>∀b e,eT m h b->cF m e b (.nilFunc::.nilFunc::.nilFunc::.nilFunc::.nilFunc::.nilFunc::.nilFunc::.nilFunc::.nilFunc::.nilFunc::RT) 228->i6 (λc E=>yA e b (gU c E 0)/\11<=c.size/\∀d,let A:=K (.val .nilFunc) d h;cF e d b (.nilFunc::sD 163::sD 164::sD 165::sD 166::sD 167::sD 168::sD 168::sD 168::sD 169::kH (sD 170) 11 c) E->aX op 0 A (iA op 11 A (dK op/\op<11/\∃y,aK d h b (dN 0 op 1) ([cLX y])/\K (.val (cLX y)) d h)))
def WR N sc p v:=λm h K=>let C:=eQ (oQ 206 (KV sc::KU sc::rF p::jX v.op::pU v::vD v (zB (wP v) v.on v (zE v) (jX v.bg::rF v.args::[At.au 41]))));JW (λI x=>I x/\aH p/\eP 3/\bY/\eC/\aH v.args/\rQ v/\bB x.1/\aW sc/\eJ v/\C/\cE 31 1 []=C3 31 1 x.2.1/\eV (m=m) (h=gG x)) (λI f x=>I x->aX x.1 (aF v.args) (ab v.args x.1 21 QV.ag m (gG x) (λy=>MC sc p y (gG x) (λg s e q=>cQ (gG x) q g/\pR q N/\GS (gG x) (cX s e q) (λj c=>cM (cX s e q).2 0 (Ft K (cX s e q).2 m c) (MX x (λd=>I d/\f d<f x/\aH p/\cR/\bY/\eC/\aH v.args/\rQ v/\fI (bA x.1 1)=bR d.1/\aW sc/\eJ v/\C/\bX (cE 31 1 (iI (u9 x) j)=C3 31 1 d.2.1) m m c (gG d))))))) (∃o,let A:=λn=>mX (gW n.s (eW n.params n.q.op (bD n.q.ah (fM n.q) (bD (fN n.q) (dX n).kind (fT (dX n) (iC n))))));let B:=λs=>gW sc (eW p v.op (bD v.ah (fM v) (bD (fN v) (uC v).kind (fT (uC v) (Bc v s)))));let D:=Bd x B A (λq=>q.op=6\/q.op=7\/q.op=8) (λc r=>A9 c r K m);iJ v.op o/\dJ (o==1) (Bd x B A (λq=>q.op=1) (λc r=>A9 c r K m)) (o==2) (Bd x B A (λq=>q.op=2) (λc r=>A9 c r K m)) (dJ (o==3) (Bd x B A (λq=>q.op=3) (λc r=>A9 c r K m)) (o==4) (Bd x B A (λq=>q.op=4) (λc r=>A9 c r K m)) (dJ (o==5) (Bd x B A (λq=>q.op=5) (λc r=>A9 c r K m)) (o==6) D (dJ (o==7) D (o==8) D (dJ (o==9) (Bd x B A (λq=>q.op=9) (λc r=>A9 c r K m)) (o==10) (Bd x B A (λq=>q.op=10) (λc r=>A9 c r K m)) (fR K 100 m (gG x))))))))
theorem a8Z:uz 149 Xk:=by
 refine Lr func149 ?_;rintro u m h K⟨op,rfl,f⟩;refine⟨tH [] [] [] [] [228] [] false,rfl,aG,PQ op m h (pY h K),bt,?_⟩;show PQ op m h (pY h K);dsimp only[PQ,push_cast];intro b L t g;refine⟨_,_,⟨g.y⟩,bx,λy j=>?_⟩;have c:dh m y:=((dh.refl m).dv t.m_ g.ai).dv t.m_ j.ai;have e:=j.y
 have d:∀k,¬(1<=op/\op<=10)->op=k->K (.val .nilFunc) m h:=λk M _=>by
  have:(op==1)=false/\(op==2)=false/\(op==3)=false/\(op==4)=false/\(op==5)=false/\(op==6)=false/\(op==7)=false/\(op==8)=false/\(op==9)=false/\(op==10)=false:=by
   grind
  obtain⟨z,A,B,C,D,E,F,G,H,o⟩:=this;rw[z,A,B,C,D,E,F,G,H,o]at f;exact f
 refine aE (λI=>.sub c (d _ aC rfl)) (λI=>aE (λJ=>.sub c (d _ aC rfl)) (λJ=>⟨aC,aC,?_⟩));have:op=0\/op=1\/op=2\/op=3\/op=4\/op=5\/op=6\/op=7\/op=8\/op=9\/op=10:=by omega
 rcases this with rfl|rfl|rfl|rfl|rfl|rfl|rfl|rfl|rfl|rfl|rfl
 .exact⟨none,.dx _ _ _ e rfl,.sub c (d 0 aC rfl)⟩
 .exact⟨some 163,.dx _ _ _ e rfl,.sub c f⟩
 .exact⟨some 164,.dx _ _ _ e rfl,.sub c f⟩
 .exact⟨some 165,.dx _ _ _ e rfl,.sub c f⟩
 .exact⟨some 166,.dx _ _ _ e rfl,.sub c f⟩
 .exact⟨some 167,.dx _ _ _ e rfl,.sub c f⟩
 .exact⟨some 168,.dx _ _ _ e rfl,.sub c f⟩
 .exact⟨some 168,.dx _ _ _ e rfl,.sub c f⟩
 .exact⟨some 168,.dx _ _ _ e rfl,.sub c f⟩
 .exact⟨some 169,.dx _ _ _ e rfl,.sub c f⟩
 .exact⟨some 170,.dx _ _ _ e rfl,.sub c f⟩
theorem a5Z:uz 163 (Di (· =1)):=by
 refine gV func163 ?_;rintro d m h K⟨n,s,ps,q,ks,rfl,e,f,c,g⟩;obtain⟨op,ta,w,co,on,gr,od,li,args⟩:=q;refine⟨WP [(191,FY),(109,yB)],rfl,(aD AF (aD LA aG)),Kv n,bt,?_⟩;dsimp only[Kv,push_cast];cases (show op=1 from c);exact dsJ e f ⟨g⟩
theorem a5X:uz 164 (Di (· =2)):=by
 refine gV func164 ?_;rintro d m h K⟨n,s,ps,q,ks,rfl,e,g,c,f⟩;obtain⟨op,ta,w,co,on,gr,od,li,args⟩:=q;refine⟨WP [(191,FY),(110,AH)],rfl,(aD AF (aD TN aG)),Ku n,bt,?_⟩;dsimp only[Ku,push_cast];cases (show op=2 from c);exact dsZ e ⟨f⟩
theorem a5Q:uz 165 (Di (· =3)):=by
 refine gV func165 ?_;rintro d m h K⟨n,s,ps,q,ks,rfl,e,g,c,f⟩;obtain⟨op,ta,w,co,on,gr,od,li,args⟩:=q;refine⟨cAZ n m h,rfl,(aD AF aG),Kt n,bt,?_⟩;dsimp only[Kt,push_cast];cases (show op=3 from c);exact dsX e ⟨f⟩
theorem a4J(c:uz 193 R9):uz 166 (Di (· =4)):=by
 refine gV func166 ?_;rintro e m h K⟨n,s,ps,q,ks,rfl,f,j,d,g⟩;obtain⟨op,ta,w,co,on,gr,od,li,args⟩:=q;refine⟨WP [(192,Ud),(193,R9)],rfl,(aD TA (aD c aG)),Ks n,by kernel_rfl,?_⟩;dsimp only[Ks,push_cast];cases (show op=4 from d);exact dsQ f ⟨g⟩
theorem a4Z:uz 167 (Di (· =5)):=by
 refine gV func167 ?_;rintro d m h K⟨n,s,ps,q,ks,rfl,e,g,c,f⟩;obtain⟨op,ta,w,co,on,gr,od,li,args⟩:=q;refine⟨WP [(192,Ud)],rfl,(aD TA aG),Kr n,bt,?_⟩;dsimp only[Kr,push_cast];cases (show op=5 from c);exact drJ e ⟨f⟩
theorem a4X:uz 168 (Di (λop=>op=6\/op=7\/op=8)):=by
 refine gV func168 ?_;rintro d m h K⟨n,s,ps,q,ks,rfl,e,g,c,f⟩;obtain⟨op,ta,w,co,on,gr,od,li,args⟩:=q;refine⟨WP [(191,FY),(69,CU)],rfl,(aD AF (aD Kj aG)),PM n,bt,?_⟩;exact drZ c e ⟨f⟩
theorem a4Q:uz 169 (Di (· =9)):=by
 refine gV func169 ?_;rintro d m h K⟨n,s,ps,q,ks,rfl,e,g,c,f⟩;obtain⟨op,ta,w,co,on,gr,od,li,args⟩:=q;refine⟨WP [(191,FY),(194,T9),(195,Ua)],rfl,(aD AF (aD Tz (aD Ty aG))),Kq n,bt,?_⟩;dsimp only[Kq,push_cast];cases (show op=9 from c);exact drX e ⟨f⟩
theorem a3Z:uz 170 (Di (· =10)):=by
 refine gV func170 ?_;rintro d m h K⟨n,s,ps,q,ks,rfl,e,g,c,f⟩;obtain⟨op,ta,w,co,on,gr,od,li,args⟩:=q;refine⟨WP [(191,FY),(69,CU),(194,T9),(195,Ua)],rfl,(aD AF (aD Kj (aD Tz (aD Ty aG)))),Ko n,bt,?_⟩;dsimp only[Ko,push_cast];cases (show op=10 from c);exact dqJ e ⟨f⟩
theorem auQ(F:uz 193 R9):∀N,uz 112 (Ef N)
 |0=>by
  refine gV func112 ?_;rintro S m h K⟨sc,p,v,s,ps,q,rfl,_,_,_,_,hN,_⟩;omega
 |N+1=>by
  refine gV func112 ?_;rintro S m h K⟨sc,p,v,s,ps,q,rfl,hs,B,hp,hq,hN,A⟩;refine⟨cIQ N sc p v m,rfl,(aD (auQ F N) (aD a8Z (aD a5Z (aD a5X (aD a5Q (aD (a4J F) (aD a4Z (aD a4X (aD a4Q (aD a3Z aG)))))))))),WR N sc p v,bt,?_⟩;dsimp only[WR,push_cast];have T:=@vV q;have U:=hq;obtain⟨op,ta,w,co,on,gr,od,li,args⟩:=q;have x:=hq.parts;have C:=x.jp;have hl:=x.bf.e;have a':=x.bf.len;simp only[ae.args]at T;simp only[cX]at A;refine⟨λ⟨i,G,J⟩=>i<=args.length/\PH.le h J/\∃ks,gm J G ks/\(args.take i).map (cX s ps)=ks.map (λk=>(k,0)),λ⟨i,_,_⟩=>args.length-i,⟨(0,[],h),⟨aC,.refl _,[],⟨rfl,λj s k V=>by simp at V⟩,bu⟩,MT⟩,?_⟩;rintro⟨i,G,J⟩⟨hi,y,ks,P,D⟩;have W:ks.length=i:=by have:=congrArg List.length D;grind
  have X:G.length=i:=by rw[P.1,W]
  dsimp only;refine aE (λH=>?_) (λa0=>?_)
  .have⟨Q,L⟩:=eF hl H;have⟨b1,o1,u,Y,r1,Z⟩:=(x.bf.mono y).at L;refine⟨b1,o1,Y,aC,H,u,.ay r1,sc,p,u,s,ps,Q,rfl,hs.mono y,B,hp.mono y,Z,?_,λg h' d E=>aB (λV=>?_) (λV=>?_)⟩
   .grind
   .have he:(cX s ps Q).2≠0:=da
    rw[IG he D L rfl]at A;exact A.fj (y.trans d) (if_neg he)
   .have he:(cX s ps Q).2=0:=da
    refine⟨cv,cv,(i+1,G++[g],h'),⟨aC,y.trans d,ks++[(cX s ps Q).1],(P.mono d).cw E,?_⟩,aC,?_⟩
    .grind[j4,sn]
    .rw[sn];exact MT
  .rw[sm aC]at D;rw[EA D]at A;simp only[if_true]at A;have A:KR K m h (Dh s ps (.mk op ta w co on gr od li args) ks):=A
   have o:∀(g:Sl)(h':PH),PH.le J h'->bT h' g 1 (G.map eS)->De h' s ps (.mk op ta w co on gr od li args) ks ⟨sc,p,v,g⟩:=λg h' d f=>by
    refine⟨(hs.mono y).mono d,(hp.mono y).mono d,(U.mono y).mono d,⟨⟨G,f,P.1.symm,λj k hk=>?_⟩,aC⟩,λk hk=>?_⟩
    .have hj:j<G.length:=da
     exact⟨G[j],sh hj,(P.2 j _ _ (sh hj) hk).mono d⟩
    .have⟨j,hj⟩:=mem_iff_getElem?.1 hk;have:=Pb D j
     grind
   have t:∀(h':PH),PH.le J h'->∀r,du r=Dh s ps (.mk op ta w co on gr od li args) ks->∀(g:Sl)(z:PH),PH.le h' z->an z g r.1->
    branch (r.2 !=0) (K (.dg [.val (.slice none 0 0),.val (.int .i64 r.2)]) m z) (branch (decide ((g.len:Int)>12)) (K (.dg [.val (.slice none 0 0),.val (.int .i64 2)]) m z) (K (.dg [.val (.slice g.a g.len g.cap),.val (.int .i64 0)]) m z)):=by
    intro h' d r hr g z M E;have I:PH.le h z:=(y.trans d).trans M;rw[<-hr]at A;have X:=E.e;refine aB (λR=>?_) (λR=>aE (λd2=>?_) (λd2=>?_))
    .have R:r.2≠0:=da
     exact A.fj I (by unfold du;grind)
    .have R:r.2=0:=da
     exact A.mg (l:=r.1) I (by unfold du;grind) aC
    .have R:r.2=0:=da
     exact A.ok (l:=r.1) I (by unfold du;grind) aC E.row
   refine⟨v.op,rfl,?_⟩;rw[C];refine aB (λc1 g h' d f=>⟨⟨sc,p,v,g⟩,s,ps,_,ks,by rw[<-C],o g h' d f,B,beq_iff_eq.1 c1,t h' d⟩) (λc1=>?_);refine aB (λc2 g h' d f=>⟨⟨sc,p,v,g⟩,s,ps,_,ks,by rw[<-C],o g h' d f,B,beq_iff_eq.1 c2,t h' d⟩) (λc2=>?_);refine aB (λc3 g h' d f=>⟨⟨sc,p,v,g⟩,s,ps,_,ks,by rw[<-C],o g h' d f,B,beq_iff_eq.1 c3,t h' d⟩) (λc3=>?_);refine aB (λc4 g h' d f=>⟨⟨sc,p,v,g⟩,s,ps,_,ks,by rw[<-C],o g h' d f,B,beq_iff_eq.1 c4,t h' d⟩) (λc4=>?_);refine aB (λc5 g h' d f=>⟨⟨sc,p,v,g⟩,s,ps,_,ks,by rw[<-C],o g h' d f,B,beq_iff_eq.1 c5,t h' d⟩) (λc5=>?_);refine aB (λc6 g h' d f=>⟨⟨sc,p,v,g⟩,s,ps,_,ks,by rw[<-C],o g h' d f,B,.inl (beq_iff_eq.1 c6),t h' d⟩) (λc6=>?_);refine aB (λc7 g h' d f=>⟨⟨sc,p,v,g⟩,s,ps,_,ks,by rw[<-C],o g h' d f,B,.inr (.inl (beq_iff_eq.1 c7)),t h' d⟩) (λc7=>?_);refine aB (λc8 g h' d f=>⟨⟨sc,p,v,g⟩,s,ps,_,ks,by rw[<-C],o g h' d f,B,.inr (.inr (beq_iff_eq.1 c8)),t h' d⟩) (λc8=>?_);refine aB (λc9 g h' d f=>⟨⟨sc,p,v,g⟩,s,ps,_,ks,by rw[<-C],o g h' d f,B,beq_iff_eq.1 c9,t h' d⟩) (λc9=>?_);refine aB (λO g h' d f=>⟨⟨sc,p,v,g⟩,s,ps,_,ks,by rw[<-C],o g h' d f,B,beq_iff_eq.1 O,t h' d⟩) (λO=>A.fj y ?_);refine BB λe=>?_;have:cm op= -1:=by grind[cm]
   have:=e.1;simp only[ae.op]at this;omega
def iD:PV:=⟨0,0,eU,eU,⟨none,0,0⟩⟩
theorem Dl(l:tu):dA 2 (l.map oY):=by
 constructor
 .intro e c;obtain⟨x,_,rfl⟩:=mem_map.1 c;rfl
 .intro e c u d;obtain⟨x,_,rfl⟩:=mem_map.1 c;simp[oY]at d;rcases d with rfl|rfl<;>rfl
theorem Dk(l:tp):dA 2 (l.map wV):=by
 constructor
 .intro e c;obtain⟨x,_,rfl⟩:=mem_map.1 c;rfl
 .intro e c u d;obtain⟨x,_,rfl⟩:=mem_map.1 c;simp[wV]at d;rcases d with rfl|rfl<;>rfl
theorem Su{n c α}{ag:α->tm}{l}(r:bT h ⟨none,n,c⟩ sz (l.map ag)):l=[]:=by
 rcases r.row with e|⟨b,o,e,_⟩
 .simpa using e
 .cases e
end Go.Ps
