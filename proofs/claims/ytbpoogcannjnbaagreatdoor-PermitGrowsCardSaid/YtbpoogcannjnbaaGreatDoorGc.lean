/- Own work. -/
import Derived.Test.YtbpoogcannjnbaaGreatDoorGb
set_option linter.unusedVariables false
set_option linter.unusedSimpArgs false
namespace Go.Ps
open Go Go.Vc Go.Proofs List Tryz
variable{K:dc}{m:MH}{h:PH}{s:j4}{ps:dd}{cb:Nat}{sc:bJ}{v:QV}{q:Query}{p:Pred}{l:dd}{i:Nat}{N:Nat}{m':MH}{h':PH}{co:dd}{gr:dd}{od:dg}{w:Pred}{ta:Int}{li:Int}{xs:List cv}{sz:Nat}{k:Nat}{ks:List dd}{rs:dd}{r:Sl}{a:dd}{b:Nat}
theorem Th:Tryz.prog.underlying 9=some .string:=be
theorem Ee:KeyLaw Tryz.prog 9 (λv=>∃s,v= .string s):=by
 refine⟨⟨_,Th⟩,?_,?_,?_⟩
 .rintro _ w b ⟨s,rfl⟩
  have e:∀n:Nat,(Instr.checkKey b (n+1) 9 (.string s)).run Tryz.prog w= .ok () w:=λn=>by
   unfold Instr.checkKey;simp only[Sem.run_bind,run_underlying Th,Result.andThen];simp
  exact e 9999
 .rintro _ _ w ⟨s,rfl⟩ ⟨t,rfl⟩;refine⟨_,run_equalIn_string w 9999 9 s t Th,?_⟩;rw[beq_iff_eq];exact⟨λe=>by rw[B4 e],λe=>bk⟩
 .rintro d _ _ r c ⟨s,rfl⟩ ⟨t,rfl⟩ h;rw[Th]at c;cases c;simp only[Instr.sameNow,ce]at h;subst h;rw[beq_toListBytes,beq_iff_eq];exact⟨λe=>by rw[B4 e],λe=>bk⟩
def gE{α:Type}(T:List α->α->Prop)(l:List α)(i:Nat):Prop:=∀j x,j<i->l[j]? =some x->T (l.take j) x
def Good{α:Type}(T:List α->α->Prop)(l:List α):Prop:=∀(j:Nat) x,l[j]? =some x->T (l.take j) x
theorem gE.zero{α:Type}{T:List α->α->Prop}{l:List α}:gE T l 0:=λ_ _ h=>by omega
theorem gE.succ{α:Type}{T:List α->α->Prop}{l:List α}{x:α}(h:gE T l i)(hx:l[i]? =some x)(t:T (l.take i) x):gE T l (i+1):=by
 intro j y d c;by_cases e:j=i
 .grind
 .exact h j y aC c
theorem gE.all{α:Type}{T:List α->α->Prop}{l:List α}(h:gE T l i)(d:l.length<=i):Good T l:=λj x c=>h j x bk c
theorem Good.not{α:Type}{T:List α->α->Prop}{l:List α}{x:α}(hx:l[i]? =some x)(t:¬T (l.take i) x):¬Good T l:=λh=>t (h i x hx)
def Xy(d:List lD)(c:lD):Prop:=oY c.name=true/\cX c.kind=true/\c.name∉d.map lD.name
def D7(c:List sZ)(t:sZ):Prop:=oY t.name=true/\1<=t.key/\t.key<=t.columns.length/\t.name∉c.map sZ.name/\Good Xy t.columns
def dT(s:j4)(t:Int):dd:=if t<0 then[]else match s.tables[t.toNat]? with|none=>[]|some t=>t.columns.map lD.kind
def i7(s:j4)(t:Int):Bool:=decide (0<=t)&&decide (t<s.tables.length)
def aS(v:bJ):CV:=.val (.agg ⟨v.enc⟩)
def mQ(s:j4):Prop:=∀t∈s.tables,t.columns.length<=8
def aUZ:Vc.Spec:=λc m h K=>∃v s t,c=[aS v,cI t]/\dM h s v/\K (cB (i7 s t)) m h
def tW:Vc.Spec:=λc m h K=>∃v s t,c=[aS v,cI t]/\dM h s v/\mQ s/\∀d h',PH.le h h'->Ints h' d (dT s t)->K (cS d) m h'
noncomputable def T5(m:MH)(h:PH):Ctx:=
 dD [] [(5,{A:=Nat×Sl×dd,st:=λx=>bU 35 37 [(5,.at (.lst 32)),(22,sv x.2.1),(23,iv x.2.1.len),(24,iv x.1)] [(32,.lst 3 1 (x.2.2.map eI))] m h})] [] [] false
noncomputable def bjQ(m:MH)(h:PH):Ctx:=
 dD [(113,aUZ)] [(5,{A:=Nat×Sl×dd,st:=λx=>bU 38 40 [(5,.at (.lst 19)),(25,sv x.2.1),(26,iv x.2.1.len),(27,iv x.1)] [(19,.lst 3 1 (x.2.2.map eI))] m h})] [] [] false
noncomputable abbrev gY(a:bJ):Int:=aG a.tables
attribute [push_cast] gY
def Sw(v:bJ)(t:Int)(m:MH)(h:PH)(K:dc):Prop:=
  mE t 0 K (Cr (decide (t<gY v))) m h (K aZ m h)
abbrev dN(a:Option Addr)(b:Int)(c:Sl)(d:Nat->Nat->Sl->Prop):Prop:=bD (λx e=>aI (bF a x e) (0<=b) (b<aG c) (∃(f:Sl),d x e f))
noncomputable abbrev mD(a:bJ):Option Addr:=a.tables.a
noncomputable abbrev aM(a:Sl):cv:=mI (eF a)
abbrev NQ(a:bJ)(b:Int)(c:MH)(d:PH)(e:Nat->Nat)(g:Sl->(Nat×Sl×dd->Prop)->(Nat×Sl×dd)->Prop)(i:(Nat×Sl×dd->Prop)->(Nat×Sl×dd->Nat)->(Nat×Sl×dd)->Prop):Prop:=dN (mD a) b a.tables (λx o j=>aJ c d x (eM (e o) b 5+1) (aM j)/\∃(n:Nat×Sl×dd->Prop)(t:Nat×Sl×dd->Nat),(∃(f:Nat×Sl×dd),g j n f)/\∀(f:Nat×Sl×dd),i n t f)
abbrev aX(a b:Sl):Prop:=sQs a=sQs b
noncomputable abbrev oB(a:Nat×Sl×dd):Sl:=a.2.1
abbrev cD(a b:Sl):Prop:=bY a.len=bY b.len
abbrev pE(a b:Nat)(c:List cv):Prop:=Option.some (Own.lst a b [])=Option.some (Own.lst a b c)
abbrev uE(a:List cv):Prop:=pE 3 1 a
noncomputable abbrev gI(a:dd):List cv:=List.map eI a
noncomputable abbrev rF(a:Nat×Sl×dd):List cv:=gI a.2.2
abbrev cW(a:Nat):Prop:=a<=140737488355328
noncomputable abbrev iA(a:List cv)(b:Nat):Nat:=a.length+b
abbrev G4(a:List cv):Prop:=cW (iA a 1*8)
abbrev fN(a:List cv):Prop:=a.length<140737488355328
abbrev NP(a:Prop)(b:Nat×Sl×dd)(c:Nat->Nat->lD->Prop)(d:lD->(Nat×Sl×dd)->Prop)(e:Prop):Prop:=a->aY (↑b.1:Int) (aG (oB b)) (bD (λx f=>aI (bF (oB b).a x f) (0<=(↑b.1:Int)) ((↑b.1:Int)<aG (oB b)) (∃(g:lD),aI (c x f g) (G4 (rF b)) (fN (rF b)) (∃(j:Nat×Sl×dd),d g j)))) e
noncomputable abbrev qT(a:ByteArray)(b:Int):cv:=bH (Value.string a) (cV b) []
noncomputable abbrev fV(a:cv):List cv:=[a]
noncomputable abbrev eK(a:List cv)(b:cv):List cv:=a++fV b
abbrev uF(a:List cv)(b:Int)(c:List cv):Prop:=Option.some (Own.lst 3 1 (eK a (bG b)))=Option.some (Own.lst 3 1 c)
abbrev lE(a:Sl->PH->Prop):Prop:=∀(x:Sl)(c:PH),a x c
abbrev cR(a b:PH)(c d:Prop):Prop:=aR (PH.le a b) c d
abbrev bQ(a:PH)(b:Nat)(c:List cv)(d:Sl->PH->Prop):Prop:=lE (λx e=>cR a e (bX e x b c) (d x e))
attribute [push_cast] dN mD aM NQ aX oB cD pE uE gI rF cW iA G4 fN NP qT fV eK uF lE cR bQ
def Wv(v:bJ)(t:Int)(m:MH)(h:PH)(K:dc):Prop:=
  aY t 0 (K CE m h) (mE t (gY v) K CE m h (NQ v t m h (λo=>o) (λy I x=>aA (I x) (eL 32) (aA (aX y (oB x)) (cD y (oB x)) (aA (bE x.1) (uE (rF x)) (aA (m=m) (h=h) True)))) (λI d x=>NP (I x) x (λb o y=>aJ m h b (bB o x.1 2) (qT y.name y.kind)) (λy c=>aA (I c) (d c<d x) (aA (eL 32) (aX (oB x) (oB c)) (aA (cD (oB x) (oB c)) (fJ (aW x.1 1)=bY c.1) (aA (uF (rF x) y.kind (rF c)) (m=m) (dH h h))))) (bQ h 1 (rF x) (λs e=>K (mL s) m e)))))
abbrev Bi(a:bJ->j4->Prop):Prop:=∃(x:bJ)(c:j4),a x c
abbrev zS(a:bJ->j4->Int->Prop):Prop:=Bi (λx c=>∃(d:Int),a x c d)
noncomputable abbrev dX(a:bJ):cv:=zE a.version (eF a.tables)
noncomputable abbrev gL(a:bJ):CV:=nS (dX a)
abbrev CR(a:bJ)(b:Int)(c:PH)(d:j4->Int->Prop):Prop:=zS (λx e f=>aA (cO (gL a) b=cO (gL x) f) (dM c e x) (d e f))
abbrev Cg(a:Int):Prop:=a<=281474976710656
attribute [push_cast] Bi zS dX gL CR Cg
def Sz(v:bJ)(t:Int)(m:MH)(h:PH)(K:dc):Prop:=
  CR v t h (λs g=>branch (!(i7 s g)) (K CE m h) (dN (mD v) t v.tables (λb o y=>aA (aJ m h b (eM o t 5+1) (aM y)) (dG 0) (aA (dG (aG y)) (Cg (aG y*8)) (Cg (aG y)/\NQ v t m h (λe=>e) (λc I x=>aA (I x) (eL 19) (aA (aX c (oB x)) (cD c (oB x)) (aA (bE x.1) (uE (rF x)) (aA (m=m) (h=h) True)))) (λI f x=>NP (I x) x (λj e c=>aJ m h j (bB e x.1 2) (qT c.name c.kind)) (λc d=>aA (I d) (f d<f x) (aA (eL 19) (aX (oB x) (oB d)) (aA (cD (oB x) (oB d)) (fJ (aW x.1 1)=bY d.1) (aA (uF (rF x) c.kind (rF d)) (m=m) (dH h h))))) (bQ h 1 (rF x) (λn u=>K (mL n) m u))))))))
theorem bA.part{o:Nat}{l:cv}(r:bA h b o l)(k n:Nat):bA h b (o+k) ((l.drop k).take n):=
 ⟨λi v e=>by
  have:l[k+i]? =some v:=by
   grind
  have:=r.rd (k+i) v this
  grind⟩
theorem FZ.at{s:Sl}{l:List lD}(r:FZ h s l){x:lD}(c:l[i]? =some x):∃b o,s.a=some ⟨b,o,none⟩/\bA h b (o+i*2) (lD.enc x):=by
 obtain⟨b,o,v,e,k,rfl⟩:=bC.at r c
 grind
theorem Gp{t:Int}(h:¬(0<=t/\t<s.tables.length)):dT s t=[]:=by
 unfold dT
 grind
theorem MY{t:Int}{x:sZ}(h:0<=t)(hx:s.tables[t.toNat]? =some x):dT s t=x.columns.map lD.kind:=by
 unfold dT
 grind
theorem dM.table{v:bJ}(c:dM h s v){t:Int}(f:0<=t)(g:t<(v.tables.len:Int)):∃x b o w,s.tables[t.toNat]? =some x/\v.tables.a=some ⟨b,o,none⟩/\bA h b (o+t.toNat*5) (bR.enc w)/\Qj h x w:=by
 have j:=c.tables.slen;have d:s.tables[t.toNat]? =some (s.tables[t.toNat]'(by omega)):=bu _;obtain⟨b,o,w,e,r,k⟩:=c.tables.at d
 grind
theorem iE{α β:Type}{f:α->β}{l:List α}{x:α}(hx:l[i]? =some x):(l.take (i+1)).map f=(l.take i).map f++[f x]:=by
 rw[cj,hx];simp
theorem Cp:cu 113 aUZ:=by
 refine iB func113 ?_;rintro e m h K ⟨v,s,t,rfl,f,d⟩;refine⟨dD [] [] [] [] false,rfl,aF,Sw v t m h K,be,?_⟩;dsimp only[Sw,push_cast];have g:=f.tables.slen;refine aE (λc=>jM d ?_) (λc=>jM d ?_)
 .have c:0<=t:=c;simp only[i7,g,decide_eq_true c,Bool.true_and]
 .have c:¬0<=t:=by omega
  simp only[i7,decide_eq_false c,Bool.false_and]
theorem xA:cu 29 tW:=by
 refine iB func29 ?_;rintro D m h K ⟨v,s,t,rfl,A,E,n⟩;refine⟨T5 m h,rfl,aF,Wv v t m h K,be,?_⟩;dsimp only[Wv,push_cast];have M:=A.tables.slen;have d:dT s t=[]->K (.val (.slice none 0 0)) m h:=λe=>n ⟨none,0,0⟩ h (.refl _) (by rw[e];exact⟨.nil _ _,bf⟩);refine aE (λF=>d (Gp aC)) (λF=>aE (λG=>d (Gp aC)) (λG=>?_));obtain⟨x,b,o,w,B,H,I,f⟩:=A.table (t:=t) aC aC;have J:=E x (bx B);have u:=bC.slen f.columns;rw[MY aC B]at n;refine⟨b,o,H,aC,aC,w.columns,.imm (bA.part I 1 1),λ⟨i,y,l⟩=>y=w.columns/\i<=x.columns.length/\l=(x.columns.take i).map lD.kind,λ⟨i,_,_⟩=>x.columns.length-i,⟨(0,w.columns,[]),⟨rfl,bf,bf⟩,MT⟩,?_⟩;rintro⟨i,_,_⟩ ⟨rfl,O,rfl⟩;dsimp only;refine aE (λj=>?_) (λL y h' z g=>?_)
 .obtain⟨c,C⟩:=eO u j;obtain⟨b,o,e,r⟩:=FZ.at f.columns C;refine⟨b,o,e,aC,j,c,.imm r,?_,?_,(i+1,w.columns,(x.columns.take (i+1)).map lD.kind),⟨rfl,aC,rfl⟩,aC,?_⟩
  .simp;omega
  .simp;omega
  .rw[iE C,cd];exact MT
 .rw[ca aC]at g;exact n y h' z ⟨g,bj⟩
theorem IM:cu 109 tW:=by
 refine iB func109 ?_;rintro G m h K ⟨v,s,t,rfl,n,H,u⟩;refine⟨bjQ m h,rfl,aD Cp aF,Sz v t m h K,be,?_⟩;dsimp only[Sz,push_cast];have L:=n.tables.slen;have g:dT s t=[]->K (.val (.slice none 0 0)) m h:=λe=>u ⟨none,0,0⟩ h (.refl _) (by rw[e];exact⟨.nil _ _,bf⟩);refine⟨v,s,t,rfl,n,aB (λy=>g (Gp ?_)) (λy=>?_)⟩
 .simp only[i7,Bool.not_eq_true',Bool.and_eq_false_iff,decide_eq_false_iff_not]at y;omega
 simp only[i7,Bool.not_eq_false',cg,cm]at y;obtain⟨x,b,o,w,C,D,E,d⟩:=n.table (t:=t) aC aC;have I:=H x (bx C);have z:=bC.slen d.columns;rw[MY aC C]at u;refine⟨b,o,D,aC,aC,w.columns,.imm (bA.part E 1 1),aC,aC,aC,aC,b,o,D,aC,aC,w.columns,.imm (bA.part E 1 1),λ⟨i,A,l⟩=>A=w.columns/\i<=x.columns.length/\l=(x.columns.take i).map lD.kind,λ⟨i,_,_⟩=>x.columns.length-i,⟨(0,w.columns,[]),⟨rfl,bf,bf⟩,MT⟩,?_⟩;rintro⟨i,_,_⟩ ⟨rfl,M,rfl⟩;dsimp only;refine aE (λj=>?_) (λJ A h' B f=>?_)
 .obtain⟨c,F⟩:=eO z j;obtain⟨b,o,e,r⟩:=FZ.at d.columns F;refine⟨b,o,e,aC,j,c,.imm r,?_,?_,(i+1,w.columns,(x.columns.take (i+1)).map lD.kind),⟨rfl,aC,rfl⟩,aC,?_⟩
  .simp;omega
  .simp;omega
  .rw[iE F,cd];exact MT
 .rw[ca aC]at f;exact u A h' B ⟨f,bj⟩
def Sub(m m':MH):Prop:=∀b o,m b=some o->m' b=some o
theorem Sub.refl(m:MH):Sub m m:=λ_ _ e=>e
theorem Sub.trans{c:MH}(d:Sub m m')(f:Sub m' c):Sub m c:=λb o e=>f b o (d b o e)
theorem Sub.free(h:Sub m m')(c:m' b=none):m b=none:=by
 cases e:m b with
 |none=>rfl
 |some o=>rw[h b o e]at c;cases c
theorem Sub.upd{f:MH}(h:Sub m f)(j:m b=none)(g:∀c,c≠b->m' c=f c):Sub m m':=λc o e=>by
 have d:c≠b:=λn=>bk
 rw[g c d,h c o e]
def MA(m:MH)(b:Nat)(c:eh):Prop:=tB m b (c.map λn=>(.string n,.bool true))
theorem MA.other{d:Nat}{e:eh}(h:MA m b e)(f:b≠d)(o:∀c,c≠d->m' c=m c):MA m' b e:=by
 obtain⟨g,j,t,n⟩:=h.ex;exact⟨g,j,bk,n⟩
def brJ:Vc.Spec:=λc m h K=>∃v s,c=[aS v]/\dM h s v/\∀r:Bool,(r=true↔Good D7 s.tables)->K (cB r) m h
def boJ:Vc.Spec:=λc m h K=>∃v s t,∃i:Nat,c=[aS v,cI i]/\dM h s v/\s.tables[i]? =some t/\∀r:Bool,(r=true↔D7 (s.tables.take i) t)->K (cB r) m h
noncomputable def bjZ(v:bJ)(h:PH):Ctx:=
 dD [(143,aqX)] [(3,{A:=Nat×Nat×MH,st:=λ⟨i,c,d⟩=>bU 79 80 [(3,vv (.map (some c))),(11,sv v.tables),(12,iv v.tables.len),(13,iv i)] [] d h}),
  (10,{A:=Nat×Nat×Nat×Nat×Sl×MH,st:=λ⟨i,k,c,f,e,d⟩=>bU 79 80 [(3,vv (.map (some c))),(6,vv (.map (some f))),(11,sv v.tables),(12,iv v.tables.len),(13,iv i),(45,sv e),(46,iv e.len),(47,iv k)] [] d h})] [] [] false
noncomputable def bDJ(v:bJ)(i:Nat)(m:MH)(h:PH):Ctx:=
 dD [(137,aqX),(99,bsZ)] [(5,{A:=Nat×bR,st:=λ⟨k,w⟩=>bU 94 96 [(1,iv i),(2,.at (.ptr 2 0)),(5,.at (.ptr 5 0)),(6,iv k)] [(2,.cells 29 (v.enc.map .val)),(5,.cells 74 (w.enc.map .val))] m h}),
  (10,{A:=Nat×bR,st:=λ⟨k,w⟩=>bU 94 96 [(5,.at (.ptr 5 0)),(53,iv w.columns.len),(54,iv k)] [(5,.cells 74 (w.enc.map .val))] m h}),
  (15,{A:=Nat×Nat×bR,st:=λ⟨k,j,w⟩=>bU 94 96 [(5,.at (.ptr 5 0)),(7,iv k),(8,iv j),(53,iv w.columns.len),(54,iv k)] [(5,.cells 74 (w.enc.map .val))] m h})] [] [] false
abbrev Ah(a:MH)(b:PH)(c:Nat->MH->Prop):Prop:=∀(x:Nat)(d:MH),aR (dL a b x) (gR a d x (Obj.map (Array.mk []) 0)) (c x d)
noncomputable abbrev FI(a:Nat):Value:=Value.map (Option.some a)
abbrev lJ(a b:Nat):Prop:=SV.at (At.val (FI a))=SV.at (At.val (FI b))
abbrev wU(a:bJ):Prop:=aH a.tables
abbrev i6(a:bJ):Prop:=bI a.tables
abbrev Hd(a:Prop)(b:Nat)(c:bJ)(d:Nat->Nat->bR->Prop)(e:Prop):Prop:=a->aY (↑b:Int) (aG c.tables) (bD (λx f=>aI (bF (mD c) x f) (0<=(↑b:Int)) ((↑b:Int)<aG c.tables) (∃(g:bR),d x f g))) e
noncomputable abbrev wB(a:bR):cv:=bH (Value.string a.name) (eF a.columns) (bH (cV a.key) (eF a.references) (aM a.checks))
noncomputable abbrev gZ(a:ByteArray):CV:=CV.val (Value.string a)
abbrev jU(a:Nat)(b:Value->Prop):Prop:=KeyLaw Proofs.Tryz.prog a b
abbrev JI(a:MH)(b:Nat)(c:(Value->Prop)->Prop)(d:Value)(e:Prop)(g:(List (Value×Bool))->Bool->Prop):Prop:=∃(x:List (Value×Bool))(j:Value->Prop),aA (tB a b (List.map (fun(f:Value×Bool)=>(f.1,Value.bool f.2)) x)) (jU 9 j) (aA (c j) (∀(f:Value×Bool),List.Mem f x->j f.1) (((∀(f:Value×Bool),aR (List.Mem f x) (f.1=d) False)->e)/\∀(f:Bool),g x f))
noncomputable abbrev C9(a:bR):Value:=Value.string a.name
noncomputable abbrev AE(a:bR):Int:=aG a.columns
abbrev XV(a:dh->(Value->Prop)->Prop):Prop:=∃(x:dh)(c:Value->Prop),a x c
noncomputable abbrev fA(a:dh)(b c:Value)(d:dh):dh:=a++(b,c)::d
noncomputable abbrev xN:Value:=Value.bool true
abbrev EF(a:Nat->Option Obj)(b:Nat)(c:(Value->Prop)->Prop)(d:Value)(e:MH->Prop):Prop:=XV (λx g=>aA (tB a b x) (jU 9 g) (aA (c g) (∀(f:Value×Value),List.Mem f x->g f.1) ((∀(f:Value×Value),aR (List.Mem f x) (f.1=d) False)/\∀(f:MH),aR (iV a f b) (tB f b (fA x d xN [])) (e f))))
noncomputable abbrev Ce(a:Nat×Nat×Nat×Nat×Sl×MH):Nat:=a.2.2.2.1
abbrev bP(a b:Nat):Prop:=bY a=bY b
noncomputable abbrev wV(a:Nat×Nat×Nat×Nat×Sl×MH):Sl:=a.2.2.2.2.1
noncomputable abbrev sE(a:Nat×Nat×Nat×Nat×Sl×MH):Nat->Option Obj:=a.2.2.2.2.2
noncomputable abbrev wO(a:lD):Value:=Value.string a.name
abbrev Hx(a:lD)(b:Int)(c:Prop)(d:(Nat×Nat×Nat×Nat×Sl×MH)->Prop):Prop:=branch (a.kind !=b) c (∃(x:Nat×Nat×Nat×Nat×Sl×MH),d x)
abbrev JS(a:lD)(b c:Int)(d:dc)(e:MH)(g:PH)(i j:(Nat×Nat×Nat×Nat×Sl×MH)->Prop):Prop:=Hx a b (branch (a.kind !=c) (d aZ e g) (∃(x:Nat×Nat×Nat×Nat×Sl×MH),i x)) (λx=>j x)
abbrev uI(a:Prop)(b c:Nat)(d e:Nat×Nat×Nat×Nat×Sl×MH)(g:bJ)(i:Prop):Prop:=aA a (b<c) (aA (lJ d.2.2.1 e.2.2.1) (lJ (Ce d) (Ce e)) (aA (wU g) (i6 g) (aA (bP d.1 e.1) (aX (wV d) (wV e)) i)))
abbrev uH(a b:Nat×Nat×Nat×Nat×Sl×MH)(c:MH)(d:PH):Prop:=nO (cD (wV a) (wV b)) (fJ (aW a.2.1 1)=bY b.2.1) (c=sE b) (d=d)
attribute [push_cast] Ah FI lJ wU i6 Hd wB gZ jU JI C9 AE XV fA xN EF Ce bP wV sE wO Hx JS uI uH
def Mk(v:bJ)(m:MH)(h:PH)(K:dc):Prop:=
  Ah m h (λb E=>∃(I:Nat×Nat×MH->Prop)(z:Nat×Nat×MH->Nat),Oa (λx=>aA (I x) (lJ b (kA x)) (aA (wU v) (i6 v) (cF (bE x.1) E (gH x) h h))) (λx=>Hd (I x) x.1 v (λF o y=>aJ (gH x) h F (bB o x.1 5) (wB y)/\∃(s:ByteArray),eW (gZ y.name) (gZ s)/\branch (!(oY s)) (K aZ (gH x) h) (JI (gH x) (kA x) (λO=>O (C9 y)) (C9 y) (aY y.key 1 (K aZ (gH x) h) (iG y.key (AE y) K aZ (gH x) h (EF (gH x) (kA x) (λO=>O (C9 y)) (C9 y) (λA=>Ah A h (λB C=>∃(I1:Nat×Nat×Nat×Nat×Sl×MH->Prop)(e:Nat×Nat×Nat×Nat×Sl×MH->Nat),(∃(c:Nat×Nat×Nat×Nat×Sl×MH),aA (I1 c) (lJ (kA x) c.2.2.1) (aA (lJ B (Ce c)) (wU v) (aA (i6 v)
 (bP x.1 c.1) (aA (aX y.columns (wV c)) (cD y.columns (wV c)) (cF (bE c.2.1) C (sE c) h h)))))/\∀(c:Nat×Nat×Nat×Nat×Sl×MH),I1 c->aY (↑c.2.1:Int) (aG (wV c)) (bD (λn t=>aI (bF (wV c).a n t) (0<=(↑c.2.1:Int)) ((↑c.2.1:Int)<aG (wV c)) (∃(g:lD),aJ (sE c) h n (bB t c.2.1 2) (qT g.name g.kind)/\∃(u:ByteArray),eW (gZ g.name) (gZ u)/\branch (!(oY u)) (K aZ (sE c) h) (JI (sE c) (Ce c) (λO=>O (wO g)) (wO g) (EF (sE c) (Ce c) (λO=>O (wO g)) (wO g) (λf=>Hx g 3 (JS g 4 5 K f h (λd=>uI (I1 d) (e d) (e c) c d v (uH c d f h)) (λd=>uI (I1 d) (e d) (e c) c d v (uH c d f h))) (λd=>uI (I1 d) (e
 d) (e c) c d v (uH c d f h)))) (λk j=>List.Mem (wO g,j) k->branch j (K aZ (sE c) h) (EF (sE c) (Ce c) (λO=>O (wO g)) (wO g) (λf=>Hx g 3 (JS g 4 5 K f h (λd=>uI (I1 d) (e d) (e c) c d v (uH c d f h)) (λd=>uI (I1 d) (e d) (e c) c d v (uH c d f h))) (λd=>uI (I1 d) (e d) (e c) c d v (uH c d f h))))))))) (∃(d:Nat×Nat×MH),aA (I d) (z d<z x) (aA (lJ c.2.2.1 (kA d)) (aH v.tables) (aA (i6 v) (fJ (aW c.1 1)=bY d.1) (aA (sE c=gH d) (h=h) True))))))))) (λk g=>List.Mem (C9 y,g) k->branch g (K aZ (gH x) h) (aY y.key 1 (K aZ (gH x) h) (iG y.key (AE y) K aZ (gH x) h (EF (gH x) (kA x) (λO=>O (C9 y)) (C9
 y) (λA=>Ah A h (λB C=>∃(I1:Nat×Nat×Nat×Nat×Sl×MH->Prop)(e:Nat×Nat×Nat×Nat×Sl×MH->Nat),(∃(c:Nat×Nat×Nat×Nat×Sl×MH),aA (I1 c) (lJ (kA x) c.2.2.1) (aA (lJ B (Ce c)) (wU v) (aA (i6 v) (bP x.1 c.1) (aA (aX y.columns (wV c)) (cD y.columns (wV c)) (cF (bE c.2.1) C (sE c) h h)))))/\∀(c:Nat×Nat×Nat×Nat×Sl×MH),I1 c->aY (↑c.2.1:Int) (aG (wV c)) (bD (λn t=>aI (bF (wV c).a n t) (0<=(↑c.2.1:Int)) ((↑c.2.1:Int)<aG (wV c)) (∃(j:lD),aJ (sE c) h n (bB t c.2.1 2) (qT j.name j.kind)/\∃(u:ByteArray),eW (gZ j.name) (gZ u)/\branch (!(oY u)) (K aZ (sE c) h) (JI (sE c) (Ce c) (λO=>O (wO j)) (wO j) (EF (sE
 c) (Ce c) (λO=>O (wO j)) (wO j) (λf=>Hx j 3 (JS j 4 5 K f h (λd=>uI (I1 d) (e d) (e c) c d v (uH c d f h)) (λd=>uI (I1 d) (e d) (e c) c d v (uH c d f h))) (λd=>uI (I1 d) (e d) (e c) c d v (uH c d f h)))) (λG D=>List.Mem (wO j,D) G->branch D (K aZ (sE c) h) (EF (sE c) (Ce c) (λO=>O (wO j)) (wO j) (λf=>Hx j 3 (JS j 4 5 K f h (λd=>uI (I1 d) (e d) (e c) c d v (uH c d f h)) (λd=>uI (I1 d) (e d) (e c) c d v (uH c d f h))) (λd=>uI (I1 d) (e d) (e c) c d v (uH c d f h))))))))) (∃(d:Nat×Nat×MH),aA (I d) (z d<z x) (aA (lJ c.2.2.1 (kA d)) (aH v.tables) (aA (i6 v) (fJ (aW c.1 1)=bY d.1)
 (aA (sE c=gH d) (h=h) True)))))))))))) (K fB (gH x) h)))
abbrev NI(a:(Nat×bR->Prop)->(Nat×bR)->Prop)(b:(Nat×bR->Prop)->(Nat×bR->Nat)->(Nat×bR)->Prop):Prop:=∃(x:Nat×bR->Prop)(d:Nat×bR->Nat),(∃(c:Nat×bR),a x c)/\∀(c:Nat×bR),b x d c
noncomputable abbrev iP(a:bJ):Option Go.Vc.Own:=oQ 29 (fZ (iN a.version) (fY a.tables))
abbrev aU(a:bJ):Prop:=eQ (iP a)
noncomputable abbrev rN(a:At):dt:=[a]
noncomputable abbrev qB(a:Sl):dt:=rN (fY a)
noncomputable abbrev hU(a:bR):dt:=cG (Uk a.name) (fY a.columns) (cG (iN a.key) (fY a.references) (qB a.checks))
abbrev ES(a:bR)(b:Nat×bR):Prop:=oQ 74 (hU a)=oQ 74 (hU b.2)
abbrev N9(a:Option Addr)(b:Int)(c:Nat)(d:Sl)(e:Nat->Nat->ByteArray->Prop):Prop:=bD (λx f=>aI (bF a x f) (b<=(↑c:Int)) ((↑c:Int)<aG d) (∃(g:ByteArray),e x f g))
noncomputable abbrev By(a:Nat×bR):Sl:=a.2.columns
noncomputable abbrev sU(a:Nat×Nat×bR):Nat:=a.2.1
noncomputable abbrev mC(a:Nat×Nat×bR):bR:=a.2.2
attribute [push_cast] NI iP aU rN qB hU ES N9 By sU mC
def VZ(v:bJ)(i:Nat)(m:MH)(h:PH)(K:dc):Prop:=
  bD (λb o=>aI (bF (mD v) b o) (0<=(↑i:Int)) ((↑i:Int)<aG v.tables) (∃(y:bR),aJ m h b (bB o i 5) (wB y)/\∃(s:ByteArray),eW (gZ y.name) (gZ s)/\branch (!(oY s)) (K aZ m h) (branch (AE y==0) (K aZ m h) (aY y.key 1 (K aZ m h) (iG y.key (AE y) K aZ m h (NI (λI x=>aA (I x) (nM i) (aA (eP 2) bS (aA (bE x.1) (aU v) (aA (ES y x) (m=m) (dH h h))))) (λI n x=>I x->aY (↑x.1:Int) (↑i:Int) (N9 (mD v) 0 x.1 v.tables (λg j f=>aJ m h g (bB j x.1 5+0) (mI (Value.string f))/\branch (f.toList==x.2.name.toList) (K aZ m h) (∃(c:Nat×bR),aA (I c) (n c<n x) (aA (nM i) gV (aA bS (fJ (aW x.1 1)=bY c.1) (aA (aU v) (ES x.2 c) (dP m m h h))))))) (NI (λI1 c=>
 aA (I1 c) bS (aA (cD (By x) (By c)) (bE c.1) (cF (ES x.2 c) m m h h))) (λI1 t c=>I1 c->aY (↑c.1:Int) (aG (By c)) (bD (λg j=>aI (bF (By c).a g j) (0<=(↑c.1:Int)) ((↑c.1:Int)<aG (By c)) (∃(f:ByteArray),aJ m h g (bB j c.1 2+0) (mI (Value.string f))/\∃(u:ByteArray),eW (gZ f) (gZ u)/\branch (!(oY u)) (K aZ m h) (bD (λz A=>aI (bF c.2.columns.a z A) (0<=(↑c.1:Int)) ((↑c.1:Int)<aG (By c)) (∃(B:Int),aJ m h z (bB A c.1 2+1) (bG B)/\∃(k:Int),eN B k/\branch (!(cX k)) (K aZ m h) (∃(I2:Nat×Nat×bR->Prop)(C:Nat×Nat×bR->Nat),(∃(d:Nat×Nat×bR),aA (I2 d) bS (aA (bP c.1 d.1) (bE (sU d)) (aA (cD (By c) (mC
 d).columns) (bP c.1 d.1) (aA (oQ 74 (hU c.2)=oQ 74 (hU (mC d))) (m=m) (dH h h)))))/\∀(d:Nat×Nat×bR),I2 d->aY (↑(sU d):Int) (↑d.1:Int) (N9 (mC d).columns.a 0 (sU d) (mC d).columns (λF G D=>aJ m h F (bB G (sU d) 2+0) (mI (Value.string D))/\N9 (mC d).columns.a 0 d.1 (mC d).columns (λH J E=>aJ m h H (bB J d.1 2+0) (mI (Value.string E))/\branch (D.toList==E.toList) (K aZ m h) (∃(e:Nat×Nat×bR),aA (I2 e) (C e<C d) (aA bS (bP d.1 e.1) (aA (fJ (aW (sU d) 1)=bY (sU e)) (cD (mC d).columns (mC e).columns) (aA (bP d.1 e.1) (oQ 74 (hU (mC d))=oQ 74 (hU (mC e))) (dP m m h h)))))))) (∃(e:Nat×bR),aA (I1 e) (t e<t c) (aA bS
 (cD (mC d).columns (By e)) (aA (fJ (aW d.1 1)=bY e.1) (ES (mC d) e) (aA (m=m) (h=h) True))))))))))) (K fB m h))))))))))
theorem MA.snoc{c:eh}{n:ByteArray}(h:tB m b ((c.map λn=>(Value.string n,Value.bool true))++[(.string n,.bool true)])):MA m b (c++[n]):=by
 unfold MA;grind
theorem MA.look{c:eh}(h:MA m b c):tB m b (List.map (λp:Value×Bool=>(p.fst,Value.bool p.snd)) (c.map λn=>(Value.string n,true))):=by
 rw[map_map];exact h
theorem Jv{β:Type}{c:eh}{x:β}:∀e:Value×β,e∈(c.map λn=>(Value.string n,x))->∃s,e.fst= .string s:=λe d=>by
 grind
theorem Vw{β:Type}{c:eh}{x:β}{n:ByteArray}(h:n∉c):∀e:Value×β,e∈(c.map λn=>(Value.string n,x))->e.fst= .string n->False:=λe d h'=>by
 grind
theorem GQ{β:Type}{c:eh}{x:β}{n:ByteArray}(h:∀e:Value×β,e∈(c.map λn=>(Value.string n,x))->e.fst= .string n->False):n∉c:=λd=>h (.string n,x) (mem_map.2 ⟨n,d,rfl⟩) rfl
theorem Vx{β:Type}{c:eh}{x y:β}{n:ByteArray}(h:(Value.string n,y)∈(c.map λn=>(Value.string n,x))):n∈c/\y=x:=by
 grind
theorem ZB:cu 107 brJ:=by
 refine KC func107 ?_;rintro b0 m h K ⟨v,s,rfl,hs,hK⟩;refine⟨bjZ v h,rfl,aD Zk aF,Mk v m h (oG h K),be,?_⟩;show Mk v m h (oG h K);dsimp only[Mk,push_cast];have hl:=hs.tables.slen;have a9:=hs.tables.len;have hf:¬Good D7 s.tables->K (cB false) m h:=λh=>hK false ⟨λe=>(by cases e),λe=>(h e).elim⟩;intro b m1 hb T;refine⟨λ⟨i,C,mx⟩=>i<=s.tables.length/\Sub m mx/\m C=none/\MA mx C ((s.tables.take i).map sZ.name)/\gE D7 s.tables i,λ⟨i,_,_⟩=>s.tables.length-i,⟨(0,b,m1),⟨aC,(Sub.refl m).upd hb.m_ T.other,hb.m_,⟨_,_,T.at_,rfl⟩,.zero⟩,MT⟩,?_⟩;rintro⟨i,C,mx⟩ ⟨hi,n,U,F,u⟩;dsimp only;refine aE (λV=>?_) (λb3=>.sub n (hK true ⟨λ_=>u.all aC,λ_=>rfl⟩));obtain⟨t,W⟩:=eO hl V;obtain⟨bb,o,w,ea,hr,f⟩:=hs.tables.at W;have a4:=bC.slen f.columns;have b4:=bC.len f.columns;have X:=f.name;have b5:=f.key;have D:¬D7 (s.tables.take i) t->oG h K (.val (.bool false)) mx h:=λhn=>.sub n (hf (Good.not W hn));have Y:t.name∉(s.tables.take i).map sZ.name->oY w.name=true->1<=w.key->w.key<=w.columns.len->Good Xy t.columns->D7 (s.tables.take i) t:=λh1 h2 h3 h4 h5=>⟨bk,aC,aC,h1,h5⟩
 refine⟨bb,o,ea,aC,V,w,.imm hr,w.name,rfl,aB (λh1=>D λg=>?_) (λh1=>⟨_,_,F.look,Ee,⟨_,rfl⟩,Jv,λZ=>aE (λh2=>D λg=>?_) (λh2=>aE (λh3=>D λg=>?_) (λh3=>⟨_,_,F,Ee,⟨_,rfl⟩,Jv,Vw (GQ Z),λm2 a5 z S m3 L M=>?_⟩)),λy hy=>?_⟩)⟩
 .have:=g.1;grind
 .have:=g.2.1;omega
 .have:=g.2.2.1;omega
 .have z:=MA.snoc z;have j:Sub m m2:=n.upd U a5.other;have O:Sub m m3:=j.upd (j.free L.m_) M.other
  have a':C≠S:=λe=>by
   obtain⟨es,cl,e1,_⟩:=z.ex;rw[e,L.m_]at e1;cases e1
  have a0:t.name∉(s.tables.take i).map sZ.name:=by rw[<-X];exact GQ Z
  rw[X, <-iE W]at z
  refine⟨λ⟨i',k,a6,a7,sl,P⟩=>i'=i/\a6=C/\a7=S/\sl=w.columns/\k<=t.columns.length/\Sub m P/\MA P C ((s.tables.take (i+1)).map sZ.name)/\MA P S ((t.columns.take k).map lD.name)/\gE Xy t.columns k,λ⟨_,k,_,_,_,_⟩=>t.columns.length-k,
   ⟨(i,0,C,S,w.columns,m3),⟨rfl,rfl,rfl,rfl,aC,O,z.other a' M.other,⟨_,_,M.at_,rfl⟩,.zero⟩,MT⟩,?_⟩
  rintro⟨i,k,C,S,_,P⟩ ⟨rfl,rfl,rfl,rfl,hk,d,G,H,a1⟩;dsimp only;refine aE (λI=>?_) (λb'=>?_)
  .obtain⟨c,hc⟩:=eO a4 I;obtain⟨bc,oc,ec,rc⟩:=FZ.at f.columns hc;have A:∀mz,Sub m mz->¬Xy (t.columns.take k) c->oG h K (.val (.bool false)) mz h:=λmz hz hn=>.sub hz (hf (Good.not W (λg=>Good.not hc hn g.2.2.2.2)));refine⟨bc,oc,ec,aC,I,c,.imm rc,c.name,rfl,aB (λh4=>A P d λg=>?_) (λh4=>⟨_,_,H.look,Ee,⟨_,rfl⟩,Jv,λJ=>⟨_,_,H,Ee,⟨_,rfl⟩,Jv,Vw (GQ J),λm4 a2 E=>?_⟩,λy hy=>?_⟩)⟩
   .rw[g.1]at h4;cases h4
   .have E:=MA.snoc E;rw[<-iE hc]at E;have B:Sub m m4:=d.upd (j.free L.m_) a2.other;have Q:cX c.kind=true->Xy (t.columns.take k) c:=λe=>⟨bk,e,GQ J⟩
    have R:cX c.kind=false->¬Xy (t.columns.take k) c:=λe g=>by rw[g.2.1]at e;cases e
    have a8:=G.other a' a2.other
    repeat' (first|(refine aB (λ_=>?_) (λ_=>?_))|(refine A m4 B (R ?_);simp_all [cX];done)|exact⟨(i,k+1,C,S,w.columns,m4),⟨rfl,rfl,rfl,rfl,bo,B,a8,E,a1.succ hc (Q (by simp_all [cX]))⟩,bm,MT⟩)
   .obtain⟨a3,rfl⟩:=Vx hy;exact aB (λ_=>A P d λg=>g.2.2 a3) (λe=>by cases e)
  .refine⟨(i+1,C,P),⟨aC,d,U,G,u.succ W (Y a0 bk aC aC (a1.all aC))⟩,?_,MT⟩;omega
 .obtain⟨a3,rfl⟩:=Vx hy;exact aB (λ_=>D λg=>g.2.2.2.1 bk) (λe=>by cases e)
theorem OT{α:Type}{f:α->ByteArray}{l:List α}{x:α}{n:ByteArray}(hx:l[i]? =some x)(h:n∉(l.take i).map f)(c:f x≠n):n∉(l.take (i+1)).map f:=by
 rw[iE hx,mem_append]
 grind
theorem bZQ{α:Type}{f:α->ByteArray}{l:List α}{x:α}{n:ByteArray}(hx:l[i]? =some x)(d:i<k)(c:f x=n):n∈(l.take k).map f:=
 mem_map.2 ⟨x,mem_of_getElem? (i:=i) bk,c⟩
theorem aBJ:cu 97 boJ:=by
 refine iB func97 ?_;rintro a2 m h K ⟨v,s,t,i,rfl,G,V,W⟩;refine⟨bDJ v i m h,rfl,aD Zo (aD Rs aF),VZ v i m h K,be,?_⟩;dsimp only[VZ,push_cast];have hl:=G.tables.slen;have X:=G.tables.len;have a3:i<s.tables.length:=(bt V);have g:¬D7 (s.tables.take i) t->K (.val (.bool false)) m h:=λh=>W false ⟨λe=>(by cases e),λe=>(h e).elim⟩;obtain⟨bb,o,w,ea,hr,d⟩:=G.tables.at V;have H:=bC.slen d.columns;have a4:=bC.len d.columns;have E:=d.name;have a5:=d.key;refine⟨bb,o,ea,aC,aC,w,.imm hr,w.name,rfl,aB (λh1=>g λf=>?_) (λh1=>aB (λh2=>g λf=>?_) (λh2=>aE (λh3=>g λf=>?_) (λh3=>aE (λh4=>g λf=>?_) (λh4=>?_))))⟩
 .have:=f.1;grind
 .have:=f.2.1;have:=f.2.2.1;grind
 .have:=f.2.1;omega
 .have:=f.2.2.1;omega
 refine⟨λ⟨k,B⟩=>B=w/\k<=i/\t.name∉(s.tables.take k).map sZ.name,λ⟨k,_⟩=>i-k,⟨(0,w),⟨rfl,aC,bf⟩,MT⟩,?_⟩;rintro⟨k,w⟩ ⟨rfl,hk,F⟩;dsimp only;refine aE (λn=>?_) (λa6=>?_)
 .obtain⟨Y,C⟩:∃Y,s.tables[k]? =some Y:=⟨s.tables[k]'(by omega),bu _⟩
  obtain⟨b',o',B,I,J,u⟩:=G.tables.at C;refine⟨b',o',I,aC,aC,B.name,.imm (bA.part J 0 1),aB (λe=>g λf=>?_) (λe=>?_)⟩
  .refine f.2.2.2.1 (bZQ C aC ?_);rw[<-u.name, <-E];exact B4 (br e)
  .refine⟨(k+1,w),⟨rfl,aC,OT C F λZ=>?_⟩,aC,MT⟩;rw[<-u.name, <-E]at Z
   grind
 .have L:k=i:=by omega
  subst L;refine⟨λ⟨k,B⟩=>B=w/\k<=t.columns.length/\gE Xy t.columns k,λ⟨k,_⟩=>t.columns.length-k,⟨(0,w),⟨rfl,aC,.zero⟩,MT⟩,?_⟩;rintro⟨c,w⟩ ⟨rfl,hc,hg⟩;dsimp only;refine aE (λn=>?_) (λa'=>W true ⟨λ_=>⟨bk,aC,aC,F,hg.all aC⟩,λ_=>rfl⟩);obtain⟨x,D⟩:=eO H n;obtain⟨M,O,P,Q⟩:=FZ.at d.columns D;have z:¬Xy (t.columns.take c) x->K (.val (.bool false)) m h:=λhn=>g λf=>Good.not D hn f.2.2.2.2;refine⟨M,O,P,aC,n,x.name,.imm (bA.part Q 0 1),x.name,rfl,aB (λR=>z λf=>?_) (λR=>⟨M,O,P,aC,n,x.kind,.imm (bA.part Q 1 1),x.kind,rfl,aB (λS=>z λf=>?_) (λS=>?_)⟩)⟩
  .rw[f.1]at R;cases R
  .rw[f.2.1]at S;cases S
  refine⟨λ⟨c',j,B⟩=>B=w/\c'=c/\j<=c/\x.name∉(t.columns.take j).map lD.name,λ⟨_,j,_⟩=>c-j,⟨(c,0,w),⟨rfl,rfl,aC,bf⟩,MT⟩,?_⟩;rintro⟨c,j,w⟩ ⟨rfl,rfl,hj,A⟩;dsimp only;refine aE (λa0=>?_) (λa1=>?_)
  .obtain⟨y,T⟩:∃y,t.columns[j]? =some y:=⟨t.columns[j]'(by omega),bu _⟩
   obtain⟨U,oy,ey,ry⟩:=FZ.at d.columns T;refine⟨U,oy,ey,aC,aC,y.name,.imm (bA.part ry 0 1),M,O,P,aC,n,x.name,.imm (bA.part Q 0 1),aB (λe=>z λf=>?_) (λe=>?_)⟩
   .exact f.2.2 (bZQ T aC (B4 (br e)))
   .refine⟨(c,j+1,w),⟨rfl,rfl,bk,OT T A λZ=>?_⟩,bk,MT⟩
    grind
  .have:j=c:=by omega
   subst this;exact⟨(j+1,w),⟨rfl,aC,hg.succ D ⟨bk,bk,A⟩⟩,aC,MT⟩
def IW(t g:sZ)(k:Nat)(c:Int):Prop:=0<=c/\c<t.columns.length/\∃x y,t.columns[c.toNat]? =some x/\g.columns[k]? =some y/\x.kind=y.kind
def bqZ(tabs:List sZ)(t:sZ)(_:List Ref)(r:Ref):Prop:=0<=r.table/\r.table<tabs.length/\∃g,tabs[r.table.toNat]? =some g/\(r.columns.length:Int)=g.key/\Good (λd c=>IW t g d.length c) r.columns
def FO(tabs:List sZ)(_:List sZ)(t:sZ):Prop:=Good (bqZ tabs t) t.refs
def bqX:Vc.Spec:=λc m h K=>∃v s,c=[aS v]/\dM h s v/\Good D7 s.tables/\∀r:Bool,(r=true↔Good (FO s.tables) s.tables)->K (cB r) m h
def aoQ:Vc.Spec:=λc m h K=>∃v s t,∃i:Nat,c=[aS v,cI i]/\dM h s v/\Good D7 s.tables/\s.tables[i]? =some t/\∀r:Bool,(r=true↔FO s.tables [] t)->K (cB r) m h
noncomputable def bjX(v:bJ)(m:MH)(h:PH):Ctx:=
 dD [] [(2,{A:=Nat,st:=λi=>bU 82 83 [(1,.at (.ptr 1 0)),(11,sv v.tables),(12,iv v.tables.len),(13,iv i)] [(1,.cells 29 (v.enc.map .val))] m h}),
  (5,{A:=Nat×Nat×bR,st:=λ⟨i,k,w⟩=>bU 82 83 [(1,.at (.ptr 1 0)),(4,.at (.ptr 4 0)),(11,sv v.tables),(12,iv v.tables.len),(13,iv i),(18,sv w.references),(19,iv w.references.len),(20,iv k)] [(1,.cells 29 (v.enc.map .val)),(4,.cells 74 (w.enc.map .val))] m h}),
  (13,{A:=Nat×Nat×Nat×bR×bR×Sl,st:=λ⟨i,k,j,w,g,c⟩=>bU 82 83 [(1,.at (.ptr 1 0)),(4,.at (.ptr 4 0)),(7,.at (.ptr 7 0)),(11,sv v.tables),(12,iv v.tables.len),(13,iv i),(18,sv w.references),(19,iv w.references.len),(20,iv k),(48,sv c),(49,iv c.len),(50,iv j)] [(1,.cells 29 (v.enc.map .val)),(4,.cells 74 (w.enc.map .val)),(7,.cells 74 (g.enc.map .val))] m h})] [] [] false
noncomputable def bDZ(v:bJ)(m:MH)(h:PH):Ctx:=
 dD [] [(3,{A:=Nat×bR,st:=λ⟨k,w⟩=>bU 85 87 [(2,.at (.ptr 2 0)),(5,.at (.ptr 5 0)),(16,sv w.references),(17,iv w.references.len),(18,iv k)] [(2,.cells 29 (v.enc.map .val)),(5,.cells 74 (w.enc.map .val))] m h}),
  (8,{A:=Nat×Nat×bR×FX,st:=λ⟨k,j,w,r⟩=>bU 85 87 [(2,.at (.ptr 2 0)),(5,.at (.ptr 5 0)),(7,.at (.ptr 7 0)),(16,sv w.references),(17,iv w.references.len),(18,iv k),(47,sv r.columns),(48,iv r.columns.len),(49,iv j)] [(2,.cells 29 (v.enc.map .val)),(5,.cells 74 (w.enc.map .val)),(7,.cells 126 (r.enc.map .val))] m h})] [] [] false
abbrev nG(a:(Nat->Prop)->Nat->Prop)(b:(Nat->Prop)->(Nat->Nat)->Nat->Prop):Prop:=∃(x:Nat->Prop)(d:Nat->Nat),jK (∃(c:Nat),a x c) (λc=>b x d c)
abbrev fR:Prop:=eP 1
abbrev Er(a b:bR):Prop:=aX a.references b.references
abbrev Es(a b:bR):Prop:=cD a.references b.references
noncomputable abbrev Cb(a:Sl)(b:Int):cv:=bH (eF a) (cV b) []
abbrev hX:Prop:=eP 7
noncomputable abbrev u9(a:Nat×Nat×Nat×bR×bR×Sl):bR:=a.2.2.2.1
noncomputable abbrev Ao(a:Nat×Nat×Nat×bR×bR×Sl):Sl:=a.2.2.2.2.2
noncomputable abbrev xX(a:Nat×Nat×Nat×bR×bR×Sl):Nat:=a.2.2.1
noncomputable abbrev HB(a:Nat×Nat×Nat×bR×bR×Sl):bR:=a.2.2.2.2.1
abbrev iC:Prop:=eP 4
attribute [push_cast] nG fR Er Es Cb hX u9 Ao xX HB iC
def Mj(v:bJ)(m:MH)(h:PH)(K:dc):Prop:=
  nG (λI x=>aA (I x) fR (aA (wU v) (i6 v) (aA (bE x) (aU v) (aA (m=m) (h=h) True)))) (λI n x=>Hd (I x) x v (λb o y=>aJ m h b (bB o x 5) (wB y)/\∃(I1:Nat×Nat×bR->Prop)(t:Nat×Nat×bR->Nat),(∃(d:Nat×Nat×bR),aA (I1 d) fR (aA (eP 4) (wU v) (aA (i6 v) (bP x d.1) (aA (Er y (mC d)) (Es y (mC d)) (aA (bE (sU d)) (aU v) (aA (oQ 74 (hU y)=oQ 74 (hU (mC d))) (m=m) (dH h h)))))))/\∀(d:Nat×Nat×bR),I1 d->aY (↑(sU d):Int) (aG (mC d).references) (bD (λu z=>aI (bF (mC d).references.a u z) (0<=(↑(sU d):Int)) ((↑(sU d):Int)<aG (mC d).references) (∃(f:FX),aJ m h u (bB z (sU d) 2) (Cb f.columns f.table)/\aY
 f.table 0 (K aZ m h) (branch (decide (f.table>=gY v)) (K aZ m h) (bD (λA B=>aI (bF (mD v) A B) (0<=f.table) (f.table<aG v.tables) (∃(j:bR),aJ m h A (eM B f.table 5) (wB j)/\branch (aG f.columns !=j.key) (K aZ m h) (∃(I2:Nat×Nat×Nat×bR×bR×Sl->Prop)(C:Nat×Nat×Nat×bR×bR×Sl->Nat),(∃(c:Nat×Nat×Nat×bR×bR×Sl),aA (I2 c) fR (aA (eP 4) hX (aA (wU v) (i6 v) (aA (bP d.1 c.1) (Er (mC d) (u9 c)) (aA (Es (mC d) (u9 c)) (bP (sU d) c.2.1) (aA (aX f.columns (Ao c)) (cD f.columns (Ao c)) (aA (bE (xX c)) (aU v) (aA (oQ 74 (hU (mC d))=oQ 74 (hU (u9 c))) (oQ 74 (hU j)=oQ 74 (hU (HB c))) (dP m m h h)))))))))/\∀(c:Nat×
 Nat×Nat×bR×bR×Sl),I2 c->aY (↑(xX c):Int) (aG (Ao c)) (bD (λD E=>aI (bF (Ao c).a D E) (0<=(↑(xX c):Int)) ((↑(xX c):Int)<aG (Ao c)) (∃(g:Int),aJ m h D (bB E (xX c) 1) (bG g)/\aY g 0 (K aZ m h) (branch (decide (g>=AE (u9 c))) (K aZ m h) (bD (λF G=>aI (bF (u9 c).columns.a F G) (0<=g) (g<aG (u9 c).columns) (∃(H:Int),aJ m h F (eM G g 2+1) (bG H)/\bD (λJ L=>aI (bF (HB c).columns.a J L) (0<=(↑(xX c):Int)) ((↑(xX c):Int)<aG (HB c).columns) (∃(M:Int),aJ m h J (bB L (xX c) 2+1) (bG M)/\branch (H !=M) (K aZ m h) (∃(e:Nat×Nat×Nat×bR×bR×Sl),aA (I2 e) (C e<C c) (aA fR iC (aA hX
 (wU v) (aA (i6 v) (bP c.1 e.1) (aA (Er (u9 c) (u9 e)) (Es (u9 c) (u9 e)) (aA (bP c.2.1 e.2.1) (aX (Ao c) (Ao e)) (aA (cD (Ao c) (Ao e)) (fJ (aW (xX c) 1)=bY (xX e)) (aA (aU v) (oQ 74 (hU (u9 c))=oQ 74 (hU (u9 e))) (cF (oQ 74 (hU (HB c))=oQ 74 (hU (HB e))) m m h h)))))))))))))))))) (∃(e:Nat×Nat×bR),aA (I1 e) (t e<t d) (aA fR iC (aA (wU v) (i6 v) (aA (bP c.1 e.1) (Er (u9 c) (mC e)) (aA (Es (u9 c) (mC e)) (fJ (aW c.2.1 1)=bY (sU e)) (aA (aU v) (oQ 74 (hU (u9 c))=oQ 74 (hU (mC e))) (dP m m h h))))))))))))))) (∃(c:Nat),aA (I c) (n c<n x) (aA fR (aH v.tables) (aA (i6 v) (fJ (aW d.1 1)
 =bY c) (aA (aU v) (m=m) (dH h h)))))) (K fB m h))
abbrev Ai(a:bJ)(b:Int)(c:Nat->Nat->Int->Prop):Prop:=bD (λx d=>aI (bF (mD a) x d) (0<=b) (b<aG a.tables) (∃(e:Int),c x d e))
noncomputable abbrev vA(a:Nat×Nat×bR×FX):bR:=a.2.2.1
noncomputable abbrev uJ(a:Nat×Nat×bR×FX):Sl:=a.2.2.2.columns
noncomputable abbrev Hr(a:Nat×Nat×bR×FX):Int:=a.2.2.2.table
attribute [push_cast] Ai vA uJ Hr
def Po(v:bJ)(i:Nat)(m:MH)(h:PH)(K:dc):Prop:=
  bD (λb o=>aI (bF (mD v) b o) (0<=(↑i:Int)) ((↑i:Int)<aG v.tables) (∃(y:bR),aJ m h b (bB o i 5) (wB y)/\NI (λI x=>aA (I x) gV (aA (eP 5) (Er y x.2) (aA (Es y x.2) (bE x.1) (aA (aU v) (ES y x) (dP m m h h))))) (λI j x=>I x->aY (↑x.1:Int) (aG x.2.references) (bD (λn t=>aI (bF x.2.references.a n t) (0<=(↑x.1:Int)) ((↑x.1:Int)<aG x.2.references) (∃(e:FX),aJ m h n (bB t x.1 2) (Cb e.columns e.table)/\aY e.table 0 (K aZ m h) (branch (decide (e.table>=gY v)) (K aZ m h) (Ai v e.table (λJ L u=>aJ m h J (eM L e.table 5+2) (bG u)/\branch (aG e.columns !=u) (K aZ m h) (∃(I1:Nat×Nat×bR×FX->Prop)(z:Nat×Nat×bR×FX->Nat),(∃(c:Nat×Nat×bR×FX),aA
 (I1 c) gV (aA (eP 5) hX (aA (Er x.2 (vA c)) (Es x.2 (vA c)) (aA (bP x.1 c.1) (aX e.columns (uJ c)) (aA (cD e.columns (uJ c)) (bE c.2.1) (aA (aU v) (oQ 74 (hU x.2)=oQ 74 (hU (vA c))) (cF (oQ 126 (fZ (fY e.columns) (iN e.table))=oQ 126 (fZ (fY (uJ c)) (iN (Hr c)))) m m h h)))))))/\∀(c:Nat×Nat×bR×FX),I1 c->aY (↑c.2.1:Int) (aG (uJ c)) (bD (λA B=>aI (bF (uJ c).a A B) (0<=(↑c.2.1:Int)) ((↑c.2.1:Int)<aG (uJ c)) (∃(f:Int),aJ m h A (bB B c.2.1 1) (bG f)/\aY f 0 (K aZ m h) (branch (decide (f>=AE (vA c))) (K aZ m h) (bD (λC D=>aI (bF (vA c).columns.a C D) (0<=f) (f<aG (vA c).columns) (∃(E:Int),aJ m h C (eM D f 2+1)
 (bG E)/\dN (mD v) (Hr c) v.tables (λM O g=>aJ m h M (eM O (Hr c) 5+1) (aM g)/\bD (λF G=>aI (bF g.a F G) (0<=(↑c.2.1:Int)) ((↑c.2.1:Int)<aG g) (∃(H:Int),aJ m h F (bB G c.2.1 2+1) (bG H)/\branch (E !=H) (K aZ m h) (∃(d:Nat×Nat×bR×FX),aA (I1 d) (z d<z c) (aA gV bS (aA hX (Er (vA c) (vA d)) (aA (Es (vA c) (vA d)) (bP c.1 d.1) (aA (aX (uJ c) (uJ d)) (cD (uJ c) (uJ d)) (aA (fJ (aW c.2.1 1)=bY d.2.1) (aU v) (aA (oQ 74 (hU (vA c))=oQ 74 (hU (vA d))) (oQ 126 (fZ (fY (uJ c)) (iN (Hr c)))=oQ 126 (fZ (fY (uJ d)) (iN (Hr d)))) (aA (m=m) (h=h) True)))))))))))))))))) (∃(d:Nat×bR),aA (I d) (j d<
 j x) (aA gV bS (aA (Er (vA c) d.2) (Es (vA c) d.2) (aA (fJ (aW c.1 1)=bY d.1) (aU v) (cF (ES (vA c) d) m m h h)))))))))))) (K fB m h))))
theorem Ints.at'{s:Sl}(r:Ints h s l){x:Int}(c:l[i]? =some x):∃b o,s.a=some ⟨b,o,none⟩/\bA h b (o+i*1) [.int .i64 x]:=by
 obtain⟨b,o,e,k⟩:=r.at c
 grind
theorem UR{α:Type}{l:List α}{x:α}(h:l[i]? =some x):(l.take i).length=i:=by
 grind
theorem Good.key_le{tabs:List sZ}(h:Good D7 tabs){g:sZ}(c:tabs[i]? =some g):g.key<=g.columns.length:=(h i g c).2.2.1
theorem bUQ{v:bJ}(Q:dM h s v)(D:Good D7 s.tables)(hK:∀r:Bool,(r=true↔Good (FO s.tables) s.tables)->K (cB r) m h):Mj v m h K:=by
 dsimp only[Mj,push_cast];have hl:=Q.tables.slen;have a9:=Q.tables.len;have hf:¬Good (FO s.tables) s.tables->K (.val (.bool false)) m h:=λh=>hK false ⟨λe=>(by cases e),λe=>(h e).elim⟩;refine⟨λi=>i<=s.tables.length/\gE (FO s.tables) s.tables i,λi=>s.tables.length-i,⟨0,⟨aC,.zero⟩,MT⟩,λi⟨hi,hg⟩=>aE (λI=>?_) (λb7=>hK true ⟨λ_=>hg.all aC,λ_=>rfl⟩)⟩;obtain⟨t,S⟩:=eO hl I;obtain⟨b,o,w,ea,hr,f⟩:=Q.tables.at S;have b8:=bC.slen f.columns;have T:=bC.slen f.refs;have b9:=bC.len f.refs;refine⟨b,o,ea,aC,I,w,.imm hr,λ⟨U,k,V⟩=>U=i/\V=w/\k<=t.refs.length/\gE (bqZ s.tables t) t.refs k,λ⟨_,k,_⟩=>t.refs.length-k,⟨(i,0,w),⟨rfl,rfl,aC,.zero⟩,MT⟩,?_⟩;rintro⟨i,k,w⟩ ⟨rfl,rfl,hk,J⟩;dsimp only;refine aE (λB=>?_) (λb'=>⟨i+1,⟨aC,hg.succ S (J.all aC)⟩,aC,MT⟩);obtain⟨r,E⟩:=eO T B;obtain⟨b2,o2,G,W,X,d⟩:=f.refs.at E;have Y:=d.columns.slen;have c':=d.columns.len;have rt:=d.table;have A:¬bqZ s.tables t (t.refs.take k) r->K (.val (.bool false)) m h:=λhn=>hf (Good.not S (Good.not E hn));refine⟨b2,o2,W,aC,B,G,.imm X,aE (λh1=>A λu=>?_) (λh1=>aE (λh2=>A λu=>?_) (λh2=>?_))⟩
 .have:=u.1;omega
 .have:=u.2.1;omega
 obtain⟨g,b3,o3,H,L,Z,a',n⟩:=Q.table (t:=G.table) aC aC;have c0:=bC.slen n.columns;have b0:=D.key_le L;have gk:=n.key;refine⟨b3,o3,Z,aC,aC,H,.imm a',aB (λh3=>A λu=>?_) (λh3=>?_)⟩
 .obtain⟨_,_,g',F,c1,_⟩:=u
  grind
 have h3:(G.columns.len:Int)=H.key:=bk
 refine⟨λ⟨U,k',j,V,g',sl⟩=>U=i/\k'=k/\V=w/\g'=H/\sl=G.columns/\j<=r.columns.length/\gE (λa0 c=>IW t g a0.length c) r.columns j,λ⟨_,_,j,_,_,_⟩=>r.columns.length-j,⟨(i,k,0,w,H,G.columns),⟨rfl,rfl,rfl,rfl,rfl,aC,.zero⟩,MT⟩,?_⟩;rintro⟨i,k,j,w,H,_⟩ ⟨rfl,rfl,rfl,rfl,rfl,hj,M⟩;dsimp only;refine aE (λC=>?_) (λb1=>⟨(i,k+1,w),⟨rfl,rfl,bk,J.succ E ⟨aC,aC,g,bk,aC,M.all aC⟩⟩,bk,MT⟩);obtain⟨c,R⟩:=eO Y C;obtain⟨b4,o4,a1,a2⟩:=d.columns.at' R;have a3:=UR R
 have z:¬IW t g j c->K (.val (.bool false)) m h:=λhn=>A λu=>by
  obtain⟨_,_,g',F,_,a4⟩:=u;rw[<-rt,L]at F;cases F;have:=a4 j c R
  grind
 refine⟨b4,o4,a1,aC,C,c,.imm a2,aE (λh5=>z λu=>?_) (λh5=>aE (λh6=>z λu=>?_) (λh6=>?_))⟩
 .have:=u.1;omega
 .have:=u.2.1;omega
 obtain⟨x,O⟩:∃x,t.columns[c.toNat]? =some x:=⟨t.columns[c.toNat]'(by omega),bu _⟩
 obtain⟨y,P⟩:∃y,g.columns[j]? =some y:=⟨g.columns[j]'(by omega),bu _⟩
 obtain⟨b5,o5,a5,a6⟩:=FZ.at f.columns O;obtain⟨b6,o6,a7,a8⟩:=FZ.at n.columns P;refine⟨b5,o5,a5,aC,aC,x.kind,.imm (bA.part a6 1 1),b6,o6,a7,aC,aC,y.kind,.imm (bA.part a8 1 1),aB (λh7=>z λu=>?_) (λh7=>?_)⟩
 .obtain⟨_,_,x',y',e1,e2,e3⟩:=u
  grind
 .exact⟨(i,k,j+1,w,H,G.columns),⟨rfl,rfl,rfl,rfl,rfl,bk,M.succ R (by show IW t g (List.take j r.columns).length c;rw[a3];exact⟨aC,aC,x,y,O,P,bk⟩)⟩,bk,MT⟩
theorem ZA:cu 108 bqX:=by
 refine iB func108 ?_;rintro c m h K ⟨v,s,rfl,d,e,f⟩;refine⟨bjX v m h,rfl,aF,Mj v m h K,be,?_⟩;exact bUQ d e f
theorem caX{v:bJ}{t:sZ}(Q:dM h s v)(D:Good D7 s.tables)(hx:s.tables[i]? =some t)(hK:∀r:Bool,(r=true↔FO s.tables [] t)->K (cB r) m h):Po v i m h K:=by
 dsimp only[Po,push_cast];have hl:=Q.tables.slen;have a6:=Q.tables.len;have b':i<s.tables.length:=(bt hx);have hf:¬FO s.tables [] t->K (.val (.bool false)) m h:=λh=>hK false ⟨λe=>(by cases e),λe=>(h e).elim⟩;obtain⟨b,o,w,ea,hr,f⟩:=Q.tables.at hx;have b0:=bC.slen f.columns;have S:=bC.slen f.refs;have b1:=bC.len f.refs;refine⟨b,o,ea,aC,aC,w,.imm hr,λ⟨k,T⟩=>T=w/\k<=t.refs.length/\gE (bqZ s.tables t) t.refs k,λ⟨k,_⟩=>t.refs.length-k,⟨(0,w),⟨rfl,aC,.zero⟩,MT⟩,?_⟩;rintro⟨k,w⟩ ⟨rfl,hk,H⟩;dsimp only;refine aE (λB=>?_) (λa7=>hK true ⟨λ_=>H.all aC,λ_=>rfl⟩);obtain⟨r,E⟩:=eO S B;obtain⟨b2,o2,F,U,V,d⟩:=f.refs.at E;have W:=d.columns.slen;have b7:=d.columns.len;have rt:=d.table;have A:¬bqZ s.tables t (t.refs.take k) r->K (.val (.bool false)) m h:=λhn=>hf (Good.not E hn);refine⟨b2,o2,U,aC,B,F,.imm V,aE (λh1=>A λu=>?_) (λh1=>aE (λh2=>A λu=>?_) (λh2=>?_))⟩
 .have:=u.1;omega
 .have:=u.2.1;omega
 obtain⟨g,b3,o3,X,I,J,L,n⟩:=Q.table (t:=F.table) aC aC;have b8:=bC.slen n.columns;have a8:=D.key_le I;have gk:=n.key;refine⟨b3,o3,J,aC,aC,X.key,.imm (bA.part L 2 1),aB (λh3=>A λu=>?_) (λh3=>?_)⟩
 .obtain⟨_,_,g',G,b9,_⟩:=u
  grind
 have h3:(F.columns.len:Int)=X.key:=bk
 refine⟨λ⟨k',j,T,r'⟩=>k'=k/\T=w/\r'=F/\j<=r.columns.length/\gE (λY c=>IW t g Y.length c) r.columns j,λ⟨_,j,_,_⟩=>r.columns.length-j,⟨(k,0,w,F),⟨rfl,rfl,rfl,aC,.zero⟩,MT⟩,?_⟩;rintro⟨k,j,w,F⟩ ⟨rfl,rfl,rfl,hj,M⟩;dsimp only;refine aE (λC=>?_) (λa9=>⟨(k+1,w),⟨rfl,aC,H.succ E ⟨aC,aC,g,bk,aC,M.all aC⟩⟩,aC,MT⟩);obtain⟨c,R⟩:=eO W C;obtain⟨b4,o4,Z,a'⟩:=d.columns.at' R;have a0:=UR R
 have z:¬IW t g j c->K (.val (.bool false)) m h:=λhn=>A λu=>by
  obtain⟨_,_,g',G,_,a1⟩:=u;rw[<-rt,I]at G;cases G;have:=a1 j c R
  grind
 refine⟨b4,o4,Z,aC,C,c,.imm a',aE (λh5=>z λu=>?_) (λh5=>aE (λh6=>z λu=>?_) (λh6=>?_))⟩
 .have:=u.1;omega
 .have:=u.2.1;omega
 obtain⟨x,O⟩:∃x,t.columns[c.toNat]? =some x:=⟨t.columns[c.toNat]'(by omega),bu _⟩
 obtain⟨y,P⟩:∃y,g.columns[j]? =some y:=⟨g.columns[j]'(by omega),bu _⟩
 obtain⟨b5,o5,a2,a3⟩:=FZ.at f.columns O;obtain⟨b6,o6,a4,a5⟩:=FZ.at n.columns P;refine⟨b5,o5,a2,aC,aC,x.kind,.imm (bA.part a3 1 1),b3,o3,J,aC,aC,X.columns,.imm (bA.part L 1 1),b6,o6,a4,aC,aC,y.kind,.imm (bA.part a5 1 1),aB (λh7=>z λu=>?_) (λh7=>?_)⟩
 .obtain⟨_,_,x',y',e1,e2,e3⟩:=u
  grind
 .exact⟨(k,j+1,w,F),⟨rfl,rfl,rfl,bk,M.succ R (by show IW t g (List.take j r.columns).length c;rw[a0];exact⟨aC,aC,x,y,O,P,bk⟩)⟩,bk,MT⟩
theorem aBZ:cu 98 aoQ:=by
 refine iB func98 ?_;rintro c m h K ⟨v,s,t,i,rfl,d,e,f,g⟩;refine⟨bDZ v m h,rfl,aF,Po v i m h K,be,?_⟩;exact caX d e f g
def Qh(t:sZ):Prop:=t.columns.length<=8/\t.refs.length<=4/\t.checks.length<=4
def DN(s:j4):Prop:=s.tables.length<=8/\Good (λ_ t=>Qh t) s.tables
def K8(s:j4):Prop:=0<=s.version/\s.version<=1000/\Good D7 s.tables/\Good (FO s.tables) s.tables
def lM:dd->Int
 |[]=>0
 |e::r=>if e=0 then lM r else e
def xD(s:j4)(i:Nat):dd:=match s.tables[i]? with|some t=>t.checks.map (jD (dT s i) [])|none=>[]
theorem wH(a b:dd)(h:∀e∈a,e=0):lM (a++b)=lM b:=by
 induction a with
 |nil=>rfl
 |cons x a c=>
  simp only[cons_append,lM];rw[if_pos (h x bf),c λe d=>h e (by simp[d])]
theorem vU(a:dd)(h:∀e∈a,e=0):lM a=0:=by
 have:=wH a [] h;simpa[lM]using this
theorem Nb{n:Nat}{f:Nat->dd}{e:Int}(o:i<n)(t:∀j<i,∀x∈f j,x=0)(c:∀x∈(f i).take k,x=0)(d:(f i)[k]? =some e)(g:e≠0):lM ((List.range n).flatMap f)=e:=by
 obtain⟨r,rfl⟩:∃r,n=i+(1+r):=⟨n-i-1,aC⟩
 rw[range_add,flatMap_append,wH]
 .rw[show(List.range (1+r)).map (i+ ·)=i::(range' (i+1) r)from ?_,flatMap_cons, <-take_append_drop k (f i),append_assoc,wH _ _ c,drop_cons d]
  .simp[lM,g]
  .rw[Nat.add_comm 1 r,range_succ_eq_map];simp[range'_eq_map_range,Nat.add_assoc,Nat.add_comm 1]
 grind
open Classical in
noncomputable def dK(s:j4):Int:=if DN s then(if K8 s then lM ((List.range s.tables.length).flatMap (xD s))else 70)else 2
def z7:Vc.Spec:=λc m h K=>∃v s,c=[aS v]/\dM h s v/\K (cI (dK s)) m h
noncomputable def bJX(v:bJ)(m:MH)(h:PH):Ctx:=
 dD [(107,brJ),(108,bqX),(109,tW),(110,wY)] [(4,{A:=Nat,st:=λi=>bU 83 84 [(1,.at (.ptr 1 0)),(16,sv v.tables),(17,iv v.tables.len),(18,iv i)] [(1,.cells 29 (v.enc.map .val))] m h}),
  (12,{A:=Nat×PH,st:=λ⟨i,c⟩=>bU 83 84 [(1,.at (.ptr 1 0)),(58,sv v.tables),(59,iv v.tables.len),(60,iv i)] [(1,.cells 29 (v.enc.map .val))] m c}),
  (16,{A:=Nat×Nat×Sl×Sl×PH,st:=λ⟨i,k,ks,cs,c⟩=>bU 83 84 [(1,.at (.ptr 1 0)),(7,sv ks),(58,sv v.tables),(59,iv v.tables.len),(60,iv i),(69,sv cs),(70,iv cs.len),(71,iv k)] [(1,.cells 29 (v.enc.map .val))] m c})] [] [] false
noncomputable def f58_ctx(v:bJ)(m:MH)(h:PH):Ctx:=
 dD [(97,boJ),(98,aoQ),(29,tW),(95,wY)] [(4,{A:=Nat,st:=λi=>bU 96 97 [(1,.at (.ptr 1 0)),(16,sv v.tables),(17,iv v.tables.len),(18,iv i)] [(1,.cells 29 (v.enc.map .val))] m h}),
  (12,{A:=Nat,st:=λi=>bU 96 97 [(1,.at (.ptr 1 0)),(49,iv v.tables.len),(50,iv i)] [(1,.cells 29 (v.enc.map .val))] m h}),
  (18,{A:=Nat,st:=λi=>bU 96 97 [(1,.at (.ptr 1 0)),(60,iv v.tables.len),(61,iv i)] [(1,.cells 29 (v.enc.map .val))] m h}),
  (24,{A:=Nat×PH,st:=λ⟨i,c⟩=>bU 96 97 [(1,.at (.ptr 1 0)),(71,iv v.tables.len),(72,iv i)] [(1,.cells 29 (v.enc.map .val))] m c}),
  (27,{A:=Nat×Nat×Sl×PH,st:=λ⟨i,k,cs,c⟩=>bU 96 97 [(1,.at (.ptr 1 0)),(7,iv i),(71,iv v.tables.len),(72,iv i),(80,sv cs),(81,iv cs.len),(82,iv k)] [(1,.cells 29 (v.enc.map .val))] m c})] [] [] false
abbrev Am(a:du)(b:Nat->Nat->Option Value)(c:Sl->PH->Prop):Prop:=zS (λx d f=>aI (a=cO (gL x) f) (dM b d x) (mQ d) (lE (λg e=>cR b e (Ints e g (dT d f)) (c g e))))
noncomputable abbrev lX(a:Nat×Sl×Sl×PH):Sl:=a.2.2.1
noncomputable abbrev oO(a:Nat×Sl×Sl×PH):Nat->Nat->Option Value:=a.2.2.2
abbrev GZ(a:du)(b:PH)(c:dd->dd->Pred->Prop):Prop:=jE (λx d=>∃(e:PV),Bc (λf g=>∃(j:Pred),aA (a=cQ x (fP d (gX e))) (Ints b x f) (aA (Ints b d g) (eX b j e) (c f g j))))
attribute [push_cast] Am lX oO GZ
def Pr(v:bJ)(m:MH)(h:PH)(K:dc):Prop:=
  iG (gY v) 8 K lG m h (nG (λI x=>aA (I x) fR (aA (wU v) (i6 v) (aA (bE x) (aU v) (aA (m=m) (h=h) True)))) (λI j x=>Hd (I x) x v (λb o y=>aJ m h b (bB o x 5) (wB y)/\iG (aG y.columns) 8 K lG m h (iG (aG y.references) 4 K lG m h (iG (aG y.checks) 4 K lG m h (∃(e:Nat),aA (I e) (j e<j x) (aA fR (aH v.tables) (aA (i6 v) (fJ (aW x 1)=bY e) (aA (aU v) (m=m) (dH h h)))))))) (aY v.version 0 (K (jA 70) m h) (iG v.version 1000 K (jA 70) m h (Bi (λn s=>aA (eW (gL v) (gL n)) (dM h s n) (∀(r:Bool),(gO r↔Good D7 s.tables)->branch (!r) (K (jA 70) m h) (Bi (λt g=>aI (eW (gL v) (gL t)) (dM h g t) (Good D7 g.tables) (∀(u:Bool),(gO u↔Good (FO
 g.tables) g.tables)->branch (!u) (K (jA 70) m h) (∃(I1:Nat×PH->Prop)(z:Nat×PH->Nat),(∃(e:Nat×PH),aA (I1 e) fR (aA (wU v) (i6 v) (aA (bE e.1) (aU v) (aA (m=m) (h=e.2) True))))/\∀(e:Nat×PH),Hd (I1 e) e.1 v (λb o y=>aJ m e.2 b (bB o e.1 5) (wB y)/\Am (cO (gL v) (↑e.1:Int)) e.2 (λF G=>∃(I2:Nat×Nat×Sl×Sl×PH->Prop)(A:Nat×Nat×Sl×Sl×PH->Nat),(∃(d:Nat×Nat×Sl×Sl×PH),aA (I2 d) fR (aA (aX F d.2.2.1) (wU v) (aA (i6 v) (bP e.1 d.1) (aA (aX y.checks (lX d.2)) (cD y.checks (lX d.2)) (nO (bE d.2.1) (aU v) (m=m) (G=oO d.2))))))/\∀(d:Nat×Nat×Sl×Sl×PH),I2 d->aY (↑d.2.1:Int) (aG (lX d.2)) (bD (λB C=>aI (bF (lX d.2).a B C) (0
 <=(↑d.2.1:Int)) ((↑d.2.1:Int)<aG (lX d.2)) (∃(D:PV),aJ m (oO d.2) B (bB C d.2.1 13) D.enc/\GZ (cQ d.2.2.1 (qS CE (gX D))) (oO d.2) (λc p E=>branch (jD c p E !=0) (K (jA (jD c p E)) m (oO d.2)) (∃(f:Nat×Nat×Sl×Sl×PH),aA (I2 f) (A f<A d) (aA fR (aX d.2.2.1 f.2.2.1) (aA (wU v) (i6 v) (aA (bP d.1 f.1) (aX (lX d.2) (lX f.2)) (aA (cD (lX d.2) (lX f.2)) (fJ (aW d.2.1 1)=bY f.2.1) (aA (aU v) (m=m) (dH (oO d.2) (oO f.2)))))))))))) (∃(f:Nat×PH),aA (I1 f) (z f<z e) (aA fR (aH v.tables) (aA (i6 v) (fJ (aW d.1 1)=bY f.1) (aA (aU v) (m=m) (dH (oO d.2) f.2))))))) (K (jA 0) m e.2))))))))))))
abbrev C7(a:j4)(b:Nat)(c:sZ):Prop:=a.tables[b]? =Option.some c
attribute [push_cast] C7
def ae(v:bJ)(m:MH)(h:PH)(K:dc):Prop:=
  iG (gY v) 8 K lG m h (nG (λI x=>aA (I x) fR (aA (wU v) (i6 v) (aA (bE x) (aU v) (aA (m=m) (h=h) True)))) (λI z x=>Hd (I x) x v (λb o y=>aJ m h b (bB o x 5) (wB y)/\iG (aG y.columns) 8 K lG m h (iG (aG y.references) 4 K lG m h (iG (aG y.checks) 4 K lG m h (∃(g:Nat),aA (I g) (z g<z x) (aA fR (aH v.tables) (aA (i6 v) (fJ (aW x 1)=bY g) (aA (aU v) (m=m) (dH h h)))))))) (aY v.version 0 (K (jA 70) m h) (iG v.version 1000 K (jA 70) m h (nG (λI1 g=>aA (I1 g) fR (aA (i6 v) (bE g) (cF (aU v) m m h h))) (λI1 A g=>I1 g->aY (↑g:Int) (aG v.tables) (Bi (λn s=>∃(t:sZ)(i:Nat),aI (cO (gL v) (↑g:Int)=cO (gL n) (↑i:Int)) (dM h s n)
 (C7 s i t) (∀(r:Bool),(gO r↔D7 (List.take i s.tables) t)->branch (!r) (K (jA 70) m h) (∃(j:Nat),aA (I1 j) (A j<A g) (aA fR (i6 v) (aA (fJ (aW g 1)=bY j) (aU v) (aA (m=m) (h=h) True))))))) (nG (λI2 j=>aA (I2 j) fR (aA (i6 v) (bE j) (cF (aU v) m m h h))) (λI2 B j=>I2 j->aY (↑j:Int) (aG v.tables) (Bi (λn s=>∃(t:sZ)(i:Nat),aA (cO (gL v) (↑j:Int)=cO (gL n) (↑i:Int)) (dM h s n) (aA (Good D7 s.tables) (C7 s i t) (∀(r:Bool),(gO r↔FO s.tables [] t)->branch (!r) (K (jA 70) m h) (∃(e:Nat),aA (I2 e) (B e<B j) (aA fR (i6 v) (aA (fJ (aW j 1)=bY e) (aU v) (aA (m=m) (h=h) True)))))))) (∃(I3:Nat×PH->Prop)(C:Nat×PH->Nat),(∃(e:Nat×PH),aA (I3 e) fR
 (aA (i6 v) (bE e.1) (cF (aU v) m m h e.2)))/\∀(e:Nat×PH),I3 e->aY (↑e.1:Int) (aG v.tables) (dN (mD v) (↑e.1:Int) v.tables (λb o y=>aJ m e.2 b (bB o e.1 5+4) (aM y)/\∃(I4:Nat×Nat×Sl×PH->Prop)(D:Nat×Nat×Sl×PH->Nat),(∃(d:Nat×Nat×Sl×PH),aA (I4 d) fR (aA (bP e.1 d.1) (i6 v) (aA (bP e.1 d.1) (aX y d.2.2.1) (aA (cD y d.2.2.1) (bE d.2.1) (cF (aU v) m m e.2 d.2.2.2)))))/\∀(d:Nat×Nat×Sl×PH),I4 d->aY (↑d.2.1:Int) (aG d.2.2.1) (bD (λE F=>aI (bF d.2.2.1.a E F) (0<=(↑d.2.1:Int)) ((↑d.2.1:Int)<aG d.2.2.1) (∃(G:PV),aJ m d.2.2.2 E (bB F d.2.1 13) G.enc/\Am (cO (gL v) (↑d.1:Int)) d.2.2.2 (λs u=>GZ (cQ s (qS CE (gX G))) u (λc p H=>
 branch (jD c p H !=0) (K (jA (jD c p H)) m u) (∃(f:Nat×Nat×Sl×PH),aA (I4 f) (D f<D d) (aA fR (bP d.1 f.1) (aA (i6 v) (bP d.1 f.1) (aA (aX d.2.2.1 f.2.2.1) (cD d.2.2.1 f.2.2.1) (nO (fJ (aW d.2.1 1)=bY f.2.1) (aU v) (m=m) (u=f.2.2.2))))))))))) (∃(f:Nat×PH),aA (I3 f) (C f<C e) (aA fR (i6 v) (aA (fJ (aW d.1 1)=bY f.1) (aU v) (aA (m=m) (d.2.2.2=f.2) True)))))) (K (jA 0) m e.2))))))))))
theorem oG.out{hx:PH}{r:CV}(d:Sub m m')(c:PH.le h hx)(e:K r m h):oG h K r m' hx:=⟨m,h,d,.refl _,c,e⟩
theorem wM(h:¬DN s):dK s=2:=by unfold dK;rw[if_neg h]
theorem It(h:DN s)(h':¬K8 s):dK s=70:=by unfold dK;grind
theorem Lq(h:DN s)(h':K8 s):dK s=lM ((List.range s.tables.length).flatMap (xD s)):=by unfold dK;grind
theorem Ec{t:sZ}(hx:s.tables[i]? =some t)(c:t.checks[k]? =some p):(xD s i)[k]? =some (jD (dT s i) [] p):=by
 unfold xD;grind
theorem MI{t:sZ}(hx:s.tables[i]? =some t):(xD s i).length=t.checks.length:=by
 unfold xD;rw[hx];simp
theorem Lg{e:Int}(c:l[k]? =some e)(h:∀x∈l.take k,x=0)(f:e=0):∀x∈l.take (k+1),x=0:=by
 intro x d;rw[cj,c,mem_append]at d
 grind
theorem UF{f:Nat->dd}(h:∀j<i,∀x∈f j,x=0)(d:(f i).length<=k)(c:∀x∈(f i).take k,x=0):∀j<i+1,∀x∈f j,x=0:=by
 intro j n x g;by_cases e:j=i
 .subst e;rw[ca d]at c;exact c x g
 grind
theorem HK:cu 66 z7:=by
 refine KC func66 ?_;rintro a0 m h K ⟨v,s,rfl,z,hK⟩;refine⟨bJX v m h,rfl,aD ZB (aD ZA (aD IM (aD PT aF))),Pr v m h (oG h K),be,?_⟩;show Pr v m h (oG h K);dsimp only[Pr,push_cast];have X:=z.tables.slen;have Y:=z.tables.len;have Z:=z.version;have out:∀(g:PH)(x:Int),PH.le h g->dK s=x->oG h K (.val (.int .i64 x)) m g:=λg x n e=>.out (Sub.refl m) n (by rw[<-e];exact hK);refine aE (λh1=>out h _ (.refl _) (wM λe=>by have:=e.1;omega)) (λh1=>?_);refine⟨λi=>i<=s.tables.length/\gE (λ_ t=>Qh t) s.tables i,λi=>s.tables.length-i,⟨0,⟨aC,.zero⟩,MT⟩,λi⟨hi,hg⟩=>aE (λu=>?_) (λP=>?_)⟩
 .obtain⟨t,g⟩:=eO X u;obtain⟨b,o,w,Q,C,c⟩:=z.tables.at g;have e1:=bC.slen c.columns;have e2:=bC.slen c.refs;have e3:=bC.slen c.checks;have d:¬Qh t->oG h K (.val (.int .i64 2)) m h:=λR=>out h _ (.refl _) (wM λe=>Good.not g R e.2);refine⟨b,o,Q,aC,u,w,.imm C,aE (λS=>d λe=>?_) (λS=>aE (λT=>d λe=>?_) (λT=>aE (λJ=>d λe=>?_) (λJ=>⟨i+1,⟨aC,hg.succ g ⟨aC,aC,aC⟩⟩,bk,MT⟩)))⟩
  .have:=e.1;omega
  .have:=e.2.1;omega
  .have:=e.2.2;omega
 have D:DN s:=⟨aC,hg.all aC⟩
 have h8:mQ s:=λt I=>by
  obtain⟨j,hj⟩:=mem_iff_getElem?.1 I;exact(D.2 j t hj).1
 have d:¬K8 s->oG h K (.val (.int .i64 70)) m h:=λR=>out h _ (.refl _) (It D R);refine aE (λS=>d λe=>?_) (λS=>aE (λT=>d λe=>?_) (λT=>⟨v,s,rfl,z,λr C=>aB (λJ=>d λe=>?_) (λJ=>⟨v,s,rfl,z,C.1 bk,λr2 L=>aB (λU=>d λe=>?_) (λU=>?_)⟩)⟩))
 .have:=e.1;omega
 .have:=e.2.1;omega
 .rw[C.2 e.2.2.1]at J;cases J
 .rw[L.2 e.2.2.2]at U;cases U
 have ok:K8 s:=⟨aC,aC,C.1 bk,L.1 bk⟩
 rw[Lq D ok]at out;refine⟨λ⟨i,g⟩=>i<=s.tables.length/\PH.le h g/\∀j<i,∀x∈xD s j,x=0,λ⟨i,_⟩=>s.tables.length-i,⟨(0,h),⟨aC,.refl _,λj hj=>by omega⟩,MT⟩,?_⟩;rintro⟨i,g⟩ ⟨hi,n,hz⟩;dsimp only;refine aE (λu=>?_) (λP=>out g _ n (vU _ λe he=>?_))
 .obtain⟨t,I⟩:=eO X u;obtain⟨b,o,w,Q,C,c⟩:=(z.mono n).tables.at I;have cl:=bC.slen c.checks;have cb:=bC.len c.checks;refine⟨b,o,Q,aC,u,w,.imm C,v,s,i,rfl,z.mono n,h8,λsl h' A E=>?_⟩;refine⟨λ⟨i',k,ks,cs,F⟩=>i'=i/\cs=w.checks/\k<=t.checks.length/\PH.le h' F/\Ints F ks (dT s i)/\∀x∈(xD s i).take k,x=0,λ⟨_,k,_,_,_⟩=>t.checks.length-k,⟨(i,0,sl,w.checks,h'),⟨rfl,rfl,aC,.refl _,E,λx g=>by simp at g⟩,MT⟩,?_⟩;rintro⟨i,k,ks,_,F⟩ ⟨rfl,rfl,hk,y,f,G⟩;dsimp only;have M:PH.le h F:=(n.trans A).trans y;refine aE (λB=>?_) (λa'=>⟨(i+1,F),⟨aC,M,UF hz (k:=k) (by rw[MI I];omega) G⟩,aC,MT⟩);obtain⟨p,V⟩:=eO cl B;obtain⟨b2,o2,pv,W,O,H⟩:=((c.checks.mono A).mono y).at V;refine⟨b2,o2,W,aC,B,pv,.imm O,ks,⟨none,0,0⟩,pv,dT s i,[],p,rfl,f,⟨.nil _ _,bf⟩,H,aB (λh6=>?_) (λh6=>?_)⟩
  .exact out F _ M (Nb aC hz G (Ec I V) bk)
  .exact⟨(i,k+1,ks,w.checks,F),⟨rfl,rfl,bk,y,f,Lg (Ec I V) G bk⟩,bk,MT⟩
 .grind
theorem aq:cu 58 z7:=by
 refine KC func58 ?_;rintro a1 m h K ⟨v,s,rfl,D,hK⟩;refine⟨f58_ctx v m h,rfl,aD aBJ (aD aBZ (aD xA (aD LM aF))),ae v m h (oG h K),be,?_⟩;show ae v m h (oG h K);dsimp only[ae,push_cast];have R:=D.tables.slen;have Z:=D.tables.len;have a':=D.version;have out:∀(c:PH)(x:Int),PH.le h c->dK s=x->oG h K (.val (.int .i64 x)) m c:=λc x u e=>.out (Sub.refl m) u (by rw[<-e];exact hK);refine aE (λh1=>out h _ (.refl _) (wM λe=>by have:=e.1;omega)) (λh1=>?_);refine⟨λi=>i<=s.tables.length/\gE (λ_ t=>Qh t) s.tables i,λi=>s.tables.length-i,⟨0,⟨aC,.zero⟩,MT⟩,λi⟨O,y⟩=>aE (λf=>?_) (λn=>?_)⟩
 .obtain⟨t,c⟩:=eO R f;obtain⟨b,o,w,T,B,d⟩:=D.tables.at c;have e1:=bC.slen d.columns;have e2:=bC.slen d.refs;have e3:=bC.slen d.checks;have g:¬Qh t->oG h K (.val (.int .i64 2)) m h:=λU=>out h _ (.refl _) (wM λe=>Good.not c U e.2);refine⟨b,o,T,aC,f,w,.imm B,aE (λV=>g λe=>?_) (λV=>aE (λW=>g λe=>?_) (λW=>aE (λC=>g λe=>?_) (λC=>⟨i+1,⟨aC,y.succ c ⟨aC,aC,aC⟩⟩,bk,MT⟩)))⟩
  .have:=e.1;omega
  .have:=e.2.1;omega
  .have:=e.2.2;omega
 have G:DN s:=⟨aC,y.all aC⟩
 have h8:mQ s:=λt P=>by
  obtain⟨j,hj⟩:=mem_iff_getElem?.1 P;exact(G.2 j t hj).1
 have g:¬K8 s->oG h K (.val (.int .i64 70)) m h:=λU=>out h _ (.refl _) (It G U);refine aE (λV=>g λe=>?_) (λV=>aE (λW=>g λe=>?_) (λW=>?_))
 .have:=e.1;omega
 .have:=e.2.1;omega
 clear O y n;refine⟨λi=>i<=s.tables.length/\gE D7 s.tables i,λi=>s.tables.length-i,⟨0,⟨aC,.zero⟩,MT⟩,λi⟨O,y⟩=>aE (λf=>?_) (λn=>?_)⟩
 .obtain⟨t,c⟩:=eO R f;refine⟨v,s,t,i,rfl,D,c,λr B=>aB (λC=>g λe=>?_) (λC=>⟨i+1,⟨aC,y.succ c (B.1 bk)⟩,bk,MT⟩)⟩;rw[B.2 (e.2.2.1 i t c)]at C;cases C
 have E:=y.all aC;clear O y n;refine⟨λi=>i<=s.tables.length/\gE (FO s.tables) s.tables i,λi=>s.tables.length-i,⟨0,⟨aC,.zero⟩,MT⟩,λi⟨O,y⟩=>aE (λf=>?_) (λn=>?_)⟩
 .obtain⟨t,c⟩:=eO R f;refine⟨v,s,t,i,rfl,D,E,c,λr B=>aB (λC=>g λe=>?_) (λC=>⟨i+1,⟨aC,y.succ c (B.1 bk)⟩,bk,MT⟩)⟩;rw[B.2 (e.2.2.2 i t c)]at C;cases C
 have H:=y.all aC;clear O y n;have ok:K8 s:=⟨aC,aC,E,H⟩
 rw[Lq G ok]at out;refine⟨λ⟨i,c⟩=>i<=s.tables.length/\PH.le h c/\∀j<i,∀x∈xD s j,x=0,λ⟨i,_⟩=>s.tables.length-i,⟨(0,h),⟨aC,.refl _,λj hj=>by omega⟩,MT⟩,?_⟩;rintro⟨i,c⟩ ⟨O,u,hz⟩;dsimp only;refine aE (λf=>?_) (λn=>out c _ u (vU _ λe he=>?_))
 .obtain⟨t,P⟩:=eO R f;obtain⟨b,o,w,T,B,d⟩:=(D.mono u).tables.at P;have cl:=bC.slen d.checks;have cb:=bC.len d.checks;refine⟨b,o,T,aC,f,w.checks,.imm (bA.part B 4 1),?_⟩;refine⟨λ⟨i',k,cs,S⟩=>i'=i/\cs=w.checks/\k<=t.checks.length/\PH.le c S/\∀x∈(xD s i).take k,x=0,λ⟨_,k,_,_⟩=>t.checks.length-k,⟨(i,0,w.checks,c),⟨rfl,rfl,aC,.refl _,λx c=>by simp at c⟩,MT⟩,?_⟩;rintro⟨i,k,_,S⟩ ⟨rfl,rfl,hk,z,I⟩;dsimp only;have J:PH.le h S:=u.trans z;refine aE (λF=>?_) (λa0=>⟨(i+1,S),⟨aC,J,UF hz (k:=k) (by rw[MI P];omega) I⟩,aC,MT⟩);obtain⟨p,X⟩:=eO cl F;obtain⟨b2,o2,pv,Y,Q,L⟩:=(d.checks.mono z).at X;refine⟨b2,o2,Y,aC,F,pv,.imm Q,v,s,i,rfl,D.mono J,h8,λsl h' A M=>⟨sl,⟨none,0,0⟩,pv,dT s i,[],p,rfl,M,⟨.nil _ _,bf⟩,L.mono A,aB (λh6=>?_) (λh6=>?_)⟩⟩
  .exact out h' _ (J.trans A) (Nb aC hz I (Ec P X) bk)
  .exact⟨(i,k+1,w.checks,h'),⟨rfl,rfl,bk,z.trans A,Lg (Ec P X) I bk⟩,bk,MT⟩
 .grind
mutual
def nD:Query->Int->Int
 |.mk _ _ _ _ _ _ _ _ args,n=>jZ args (n+1)
def jZ:dl->Int->Int
 |[],n=>n
 |p::ps,n=>if n<=24 then jZ ps (nD p n)else n
end
mutual
def oV:Query->Nat->Bool
 |.mk _ _ _ _ _ _ _ _ _,0=>true
 |.mk _ _ _ _ _ _ _ _ args,n+1=>tO args n
def tO:dl->Nat->Bool
 |[],_=>false
 |p::ps,n=>oV p n||tO ps n
end
mutual
theorem En:∀(p:Query)(n:Int),n<=24->n<nD p n/\nD p n<=25
 |.mk _ _ _ _ _ _ _ _ args,n,h=>by
  have:=Ia args (n+1) aC;simp only[nD];omega
theorem Ia:∀(ps:dl)(n:Int),n<=25->n<=jZ ps n/\jZ ps n<=25
 |[],n,h=>by simp only[jZ];omega
 |p::ps,n,h=>by
  simp only[jZ];split
  .rename_i c;have d:=En p n c;have e:=Ia ps (nD p n) d.2;omega
  .omega
end
theorem TB(ps:dl){n:Int}(h:¬n<=24):jZ ps n=n:=by
 cases ps
 .simp[jZ]
 .simp only[jZ,if_neg h]
theorem KS(n:Nat):∀ps:dl,tO ps n=ps.any (oV · n)
 |[]=>by simp[tO]
 |p::ps=>by simp[tO,KS n ps]
theorem dR.args{p:Query}(r:dR h p v):D8 h v.args p.args:=by
 cases p;exact r.parts.args_
def wK(q:Query):Bool:=decide (nD q 0<=24)&& !oV q 8
def arity(op:Int):Int:=
 if op==1 then 0 else if op==2||op==3||op==9 then 1 else if op==4||op==5||op==6||op==7||op==8||op==10 then 2 else-1
def Uu(N:Nat):Vc.Spec:=λc m h K=>∃v p k,c=[aQ v,cI k,cI 24]/\dR h p v/\SizeOf.sizeOf p<N/\0<=k/\k<=24/\K (cI (nD p k)) m h
def Qw(N:Nat):Vc.Spec:=λc m h K=>∃v p,∃k:Nat,c=[aQ v,cI k]/\dR h p v/\SizeOf.sizeOf p<N/\k<=100/\K (cB (oV p k)) m h
def amZ:Vc.Spec:=λc m h K=>∃v p,c=[aQ v]/\dR h p v/\K (cB (wK p)) m h
def Z7:Vc.Spec:=λc m h K=>∃op,c=[cI op]/\K (cI (arity op)) m h
def Gt(l:dd)(n:Int):Bool:=decide (0<=n)&&decide (n<l.length)
def InS:Vc.Spec:=λc m h K=>∃s l n,c=[cS s,cI n]/\Ints h s l/\K (cB (Gt l n)) m h
noncomputable def bkZ(N:Nat)(v:QV)(m:MH)(h:PH):Ctx:=
 dD [(100,Uu N)] [(3,{A:=Nat×Int,st:=λx=>bU 31 34 [(1,iv x.2),(2,iv 24),(3,.at (.ptr 3 0)),(7,iv x.1)] [(3,.cells 68 (v.enc.map .val))] m h})] [] [] false
noncomputable def bkX(N:Nat)(v:QV)(k:Nat)(m:MH)(h:PH):Ctx:=
 dD [(101,Qw N)] [(4,{A:=Nat,st:=λi=>bU 23 25 [(1,iv k),(2,.at (.ptr 2 0)),(10,iv v.args.len),(11,iv i)] [(2,.cells 68 (v.enc.map .val))] m h})] [] [] false
abbrev fE(a:QV):Prop:=eQ (vP 68 a.enc)
attribute [push_cast] fE
def SE(N:Nat)(v:QV)(k:Int)(m:MH)(h:PH)(K:dc):Prop:=
  ∃(I:Nat×Int->Prop)(e:Nat×Int->Nat),(∃(x:Nat×Int),aA (I x) (bV (eE (k+1)) x.2) (aA (bL 24) fW (aA (bE x.1) (fE v) (aA (m=m) (h=h) True))))/\∀(x:Nat×Int),I x->aY (↑x.1:Int) (aG v.args) (Dg x.2 24 (bD (λb o=>aI (bF v.args.a b o) (0<=(↑x.1:Int)) ((↑x.1:Int)<aG v.args) (∃(y:QV),aJ m h b (bB o x.1 21) y.enc/\sG (λf p=>∃(c:Int),aA (cE y.enc (cO (jA x.2) 24)=cE f.enc (cO (jA c) 24)) (dR h p f) (aA (sD p N) (dG c) (c<=24/\∃(d:Nat×Int),aA (I d) (e d<e x) (aA (bV (nD p c) d.2) (bL 24) (aA fW (fJ (aW x.1 1)=bY d.1) (aA (fE v) (m=m) (dH h h)))))))))) (K (jA x.2) m h)) (K (jA x.2) m h)
abbrev uT(a:QV):Prop:=bI a.args
attribute [push_cast] uT
def SD(N:Nat)(v:QV)(k:Nat)(m:MH)(h:PH)(K:dc):Prop:=
  branch ((↑k:Int)==0) (K fB m h) (nG (λI x=>aA (I x) (nM k) (aA (eP 2) (uT v) (aA (bE x) (fE v) (aA (m=m) (h=h) True)))) (λI d x=>I x->aY (↑x:Int) (aG v.args) (bD (λb o=>aI (bF v.args.a b o) (0<=(↑x:Int)) ((↑x:Int)<aG v.args) (∃(y:QV),aJ m h b (bB o x 21) y.enc/\sG (λe p=>JA (cO (eH y) (eE ((↑k:Int)-1))) (eH e) (dR h p e) (sD p N) (λf=>branch (oV p f) (K fB m h) (∃(c:Nat),aA (I c) (d c<d x) (aA (nM k) gV (aA (uT v) (fJ (aW x 1)=bY c) (aA (fE v) (m=m) (dH h h)))))))))) (K aZ m h)))
def Wi(N:Nat)(v:QV)(m:MH)(h:PH)(K:dc):Prop:=
  sG (λd p=>∃(k:Int),aA (cE v.enc (cO (jA 0) 24)=cE d.enc (cO (jA k) 24)) (dR h p d) (aA (sD p N) (dG k) (k<=24/\Dg (nD p k) 24 (sG (λe c=>JA (cO (eH v) 8) (eH e) (dR h c e) (sD c N) (λf=>K (CV.val (Value.bool (!(oV c f)))) m h))) (K aZ m h))))
def SC(op:Int)(m:MH)(h:PH)(K:dc):Prop:=
  branch (op==1) (K (jA 0) m h) (branch (op==2) (K (jA 1) m h) (branch (op==3) (K (jA 1) m h) (branch (op==9) (K (jA 1) m h) (branch (op==4) (K lG m h) (branch (op==5) (K lG m h) (branch (op==6) (K lG m h) (branch (op==7) (K lG m h) (branch (op==8) (K lG m h) (branch (op==10) (K lG m h) (K (jA (Int.negSucc 0)) m h))))))))))
def Sb(s:Sl)(n:Int)(m:MH)(h:PH)(K:dc):Prop:=
  mE n 0 K (Cr (decide (n<aG s))) m h (K aZ m h)
theorem W0:∀N,cu 100 (Uu N)
 |0=>by
  refine eR (fn:=Tryz.f100) (c:=cK Tryz.f100) func100 rfl bg ?_;rintro y m h K ⟨v,p,k,rfl,D,F,_⟩;omega
 |N+1=>by
  refine iB func100 ?_;rintro y m h K ⟨v,p,k,rfl,D,F,J,L,E⟩;refine⟨bkZ N v m h,rfl,aD (W0 N) aF,SE N v k m h K,be,?_⟩;dsimp only[SE,push_cast];have d:=D.args;have e:=d.slen;have M:=d.len;refine⟨λx=>x.1<=p.args.length/\0<=x.2/\x.2<=25/\jZ (p.args.drop x.1) x.2=nD p k,λx=>p.args.length-x.1,⟨(0,k+1),⟨bf,bj,bj,?_⟩,?_⟩,?_⟩
  .cases p;simp[nD,Query.args]
  .rw[dO aC aC];exact MT
  rintro⟨i,n⟩ ⟨G,f,z,g⟩;dsimp only at G f z g⊢
  refine aE (λj=>aE (λt=>?_) (λt=>Bm E ?_)) (λH=>Bm E ?_)
  .obtain⟨q,A⟩:=eO e j;obtain⟨b,o,u,I,B,C⟩:=d.at A;have O:=En q n t;rw[drop_cons A,jZ,if_pos t]at g;refine⟨b,o,I,aC,j,u,.imm B,u,q,n,rfl,C,?_,f,t,(i+1,nD q n),⟨aC,aC,aC,g⟩,aC,MT⟩;have:=B9 (bx A);omega
  .rw[<-g,TB _ t]
  .rw[<-g,drop_of_length_le aC];simp[jZ]
theorem WZ:∀N,cu 101 (Qw N)
 |0=>by
  refine eR (fn:=Tryz.f101) (c:=cK Tryz.f101) func101 rfl bg ?_;rintro j m h K ⟨v,p,k,rfl,A,D,_⟩;omega
 |N+1=>by
  refine iB func101 ?_;rintro j m h K ⟨v,p,k,rfl,A,D,I,g⟩;refine⟨bkX N v k m h,rfl,aD (WZ N) aF,SD N v k m h K,be,?_⟩;dsimp only[SD,push_cast];have d:=A.args;have e:=d.slen;have J:=d.len;refine aB (λB=>jM g ?_) (λB=>?_)
  .have:k=0:=bk
   subst this;cases p;simp[oV]
  .have B:k≠0:=bk
   have n:oV p k=p.args.any (oV · (k-1)):=by
    obtain⟨C,rfl⟩:∃C,k=C+1:=⟨k-1,aC⟩
    cases p;simp[oV,KS,Query.args]
   rw[n]at g;refine⟨λi=>i<=p.args.length/\(p.args.take i).any (oV · (k-1))=false,λi=>p.args.length-i,⟨0,⟨aC,bf⟩,MT⟩,λi E=>aE (λf=>?_) (λF=>jM g ?_)⟩
   .obtain⟨q,t⟩:=eO e f;obtain⟨b,o,u,G,y,z⟩:=d.at t;refine⟨b,o,G,aC,f,u,.imm y,u,q,k-1,?_,z,?_,aC,aB (λH=>jM g ?_) (λH=>?_)⟩
    .rw[dO aC aC,show((k-1:Nat):Int)=(k:Int)-1 by omega]
    .have:=B9 (bx t);omega
    .grind
    .refine⟨i+1,⟨aC,?_⟩,bk,MT⟩;rw[cj,any_append,E.2,t];grind
   grind
theorem aHJ:cu 60 amZ:=by
 refine iB func60 ?_;rintro f m h K ⟨v,p,rfl,d,e⟩;refine⟨dD [(100,Uu (SizeOf.sizeOf p+1)),(101,Qw (SizeOf.sizeOf p+1))] [] [] [] false,rfl,aD (W0 _) (aD (WZ _) aF),Wi (SizeOf.sizeOf p+1) v m h K,be,?_⟩;dsimp only[Wi,push_cast];refine⟨v,p,0,rfl,d,aC,aC,aC,aB (λc=>⟨v,p,8,rfl,d,aC,aC,jM e ?_⟩) (λc=>jM e ?_)⟩
 .simp only[wK,c,Bool.true_and]
 .simp only[wK,c,Bool.false_and]
theorem PU:cu 102 Z7:=by
 refine iB func102 ?_;rintro d m h K ⟨op,rfl,c⟩;refine⟨dD [] [] [] [] false,rfl,aF,SC op m h K,be,?_⟩;dsimp only[SC,push_cast]
 repeat' (first|(refine aB (λ_=>?_) (λ_=>?_))|(refine Bm c ?_;simp only[arity];simp only[*,Bool.or_false,Bool.false_or,Bool.or_true,Bool.true_or,Bool.and_true,Bool.true_and,Bool.and_false,Bool.false_and,Bool.not_true,Bool.not_false,Bool.false_eq_true,if_true,if_false, ↓reduceIte];done)|(refine Bm c ?_;simp only[arity];grind))
theorem IK:cu 139 InS:=by
 refine iB func139 ?_;rintro e m h K ⟨s,l,n,rfl,f,d⟩;refine⟨dD [] [] [] [] false,rfl,aF,Sb s n m h K,be,?_⟩;dsimp only[Sb,push_cast];have g:=f.slen;refine aE (λc=>jM d ?_) (λc=>jM d ?_)
 .have c:0<=n:=c;simp only[Gt,g,decide_eq_true c,Bool.true_and]
 .have c:¬0<=n:=by omega
  simp only[Gt,decide_eq_false c,Bool.false_and]
def zA(a b:dd)(c:di)(p:Int×Int):Prop:=Gt a p.1=true/\Gt b p.2=true/\a.getD p.1.toNat 0=b.getD p.2.toNat 0/\∀q∈c,q.1≠p.1/\q.2≠p.2
def MB(a:dd)(d:dd)(c:Int):Prop:=Gt a c=true/\c∉d
def Qq(a:dd)(_:dg)(o:Int×Bool):Prop:=Gt a o.1=true
structure Cw(a:dd)(group:dd)(order:dg)(limit:Int):Prop where
 group_:Good (MB a) group
 order_:Good (Qq a) order
 len_:order.length<=12
 low:0<=limit
 high:limit<=100
def apX:Vc.Spec:=λc m h K=>∃s t u on a b,c=[cS s,cS t,cS u]/\lF h s on/\Ints h t a/\Ints h u b/\∀r:Bool,(r=true↔Good (zA a b) on)->K (cB r) m h
def aoX:Vc.Spec:=λc m h K=>∃v t g o a,c=[aQ v,cS t]/\Ints h v.group g/\kC h v.order o/\Ints h t a/\∀r:Bool,(r=true↔Cw a g o v.limit)->K (cB r) m h
noncomputable def bfQ(s t u:Sl)(m:MH)(h:PH):Ctx:=
 dD [(139,InS)] [(2,{A:=Nat,st:=λi=>bU 66 69 [(0,sv s),(1,sv t),(2,sv u),(10,sv s),(11,iv s.len),(12,iv i)] [] m h}),
  (7,{A:=Nat×Nat×(Int×Int),st:=λ⟨i,k,p⟩=>bU 66 69 [(0,sv s),(1,sv t),(2,sv u),(7,iv i),(8,.at (.ptr 8 0)),(9,iv k),(10,sv s),(11,iv s.len),(12,iv i)] [(8,.cells 81 [.val (.int .i64 p.1),.val (.int .i64 p.2)])] m h})] [] [] false
noncomputable def beJ(v:QV)(t:Sl)(m:MH)(h:PH):Ctx:=
 dD [(139,InS)] [(2,{A:=Nat,st:=λi=>bU 62 64 [(1,sv t),(2,.at (.ptr 2 0)),(11,sv v.group),(12,iv v.group.len),(13,iv i)] [(2,.cells 68 (v.enc.map .val))] m h}),
  (7,{A:=Nat×Nat×Int,st:=λ⟨i,k,c⟩=>bU 62 64 [(1,sv t),(2,.at (.ptr 2 0)),(5,iv i),(6,iv c),(7,iv k),(11,sv v.group),(12,iv v.group.len),(13,iv i)] [(2,.cells 68 (v.enc.map .val))] m h}),
  (13,{A:=Nat,st:=λi=>bU 62 64 [(1,sv t),(2,.at (.ptr 2 0)),(36,sv v.order),(37,iv v.order.len),(38,iv i)] [(2,.cells 68 (v.enc.map .val))] m h})] [] [] false
noncomputable abbrev eJ(a:Sl)(b:Int):du:=cO (mL a) b
abbrev GX(a:Sl)(b:Int)(c:Nat->Nat->Option Value)(d:dd->Int->Prop):Prop:=IC (λx e=>∃(f:Int),aA (eJ a b=eJ x f) (Ints c x e) (d e f))
abbrev dC:Prop:=eP 8
noncomputable abbrev v7(a:Int×Int):Option Go.Vc.Own:=oQ 81 (fZ (iN a.1) (iN a.2))
attribute [push_cast] eJ GX dC v7
def Sa(s t u:Sl)(m:MH)(h:PH)(K:dc):Prop:=
  nG (λI x=>aA (I x) (aH s) (aA (aH t) (aH u) (aA (aH s) (bI s) (aA (bE x) (m=m) (dH h h))))) (λI e x=>I x->aY (↑x:Int) (aG s) (bD (λb o=>aI (bF s.a b o) (0<=(↑x:Int)) ((↑x:Int)<aG s) (∃(y:Int×Int),aI (aJ m h b (bB o x 2) (As y)) ((0:Int)<=0) ((0:Int)<2) (GX t y.1 h (λl n=>branch (!(Gt l n)) (K aZ m h) (aA (dG 1) ((1:Int)<2) (GX u y.2 h (λL M=>branch (!(Gt L M)) (K aZ m h) (aA (dG 0) ((0:Int)<2) (bD (λf g=>aI (bF t.a f g) (0<=y.1) (y.1<aG t) (∃(j:Int),aI (aJ m h f (eM g y.1 1) (bG j)) ((0:Int)<=1) ((1:Int)<2) (bD (λz A=>aI (bF u.a z A) (0<=y.2) (y.2<aG u) (∃(B:Int),aJ m h z (eM A y.2 1) (bG B)/\branch (j !=B) (K aZ m h) (∃(I1:
 Nat×Nat×Int×Int->Prop)(C:Nat×Nat×Int×Int->Nat),(∃(c:Nat×Nat×Int×Int),aA (I1 c) (aH s) (aA (aH t) (aH u) (aA (bP x c.1) dC (aA (bE c.2.1) (aH s) (aA (bI s) (bP x c.1) (aA (v7 y=v7 c.2.2) (m=m) (dH h h)))))))/\∀(c:Nat×Nat×Int×Int),I1 c->aY (↑c.2.1:Int) (↑c.1:Int) (bD (λD E=>aA (bF s.a D E) (sC c.2.1) (aA ((↑c.2.1:Int)<aG s) (dG 0) ((0:Int)<2/\∃(F:Int),aI (aJ m h D (bB E c.2.1 2+0) (bG F)) ((0:Int)<=0) ((0:Int)<2) (branch (F==c.2.2.1) (K aZ m h) (bD (λG H=>aA (bF s.a G H) (sC c.2.1) (aA ((↑c.2.1:Int)<aG s) (dG 1) ((1:Int)<2/\∃(J:Int),aI (aJ m h G (bB H c.2.1 2+1) (bG J)) ((0:Int)<=1) ((1:Int)<2) (branch (J==c.2.2.2)
 (K aZ m h) (∃(d:Nat×Nat×Int×Int),aA (I1 d) (C d<C c) (aA (aH s) (aH t) (aA (aH u) (bP c.1 d.1) (aA dC (fJ (aW c.2.1 1)=bY d.2.1) (aA (aH s) (bI s) (aA (bP c.1 d.1) (v7 c.2.2=v7 d.2.2) (dP m m h h))))))))))))))))) (∃(d:Nat),aA (I d) (e d<e x) (aA (aH s) (aH t) (aA (aH u) (aH s) (aA (bI s) (fJ (aW c.1 1)=bY d) (dP m m h h))))))))))))))))))))) (K fB m h))
def R9(v:QV)(t:Sl)(m:MH)(h:PH)(K:dc):Prop:=
  nG (λI x=>aA (I x) (aH t) (aA (eP 2) (aH v.group) (aA (bI v.group) (bE x) (aA (fE v) (m=m) (dH h h))))) (λI f x=>I x->aY (↑x:Int) (aG v.group) (bD (λb o=>aI (bF v.group.a b o) (0<=(↑x:Int)) ((↑x:Int)<aG v.group) (∃(y:Int),aJ m h b (bB o x 1) (bG y)/\GX t y h (λl n=>branch (!(Gt l n)) (K aZ m h) (∃(I1:Nat×Nat×Int->Prop)(e:Nat×Nat×Int->Nat),(∃(c:Nat×Nat×Int),aA (I1 c) (aH t) (aA (eP 2) (bP x c.1) (aA (bV y c.2.2) (bE c.2.1) (aA (aH v.group) (bI v.group) (nO (bP x c.1) (fE v) (m=m) (h=h))))))/\∀(c:Nat×Nat×Int),I1 c->aY (↑c.2.1:Int) (↑c.1:Int) (bD (λg j=>aI (bF v.group.a g j) (0<=(↑c.2.1:Int)) ((↑c.2.1:Int)<aG v.group) (∃(u:Int),aJ m h g (bB
 j c.2.1 1) (bG u)/\branch (u==c.2.2) (K aZ m h) (∃(d:Nat×Nat×Int),aA (I1 d) (e d<e c) (aA (aH t) gV (aA (bP c.1 d.1) (bV c.2.2 d.2.2) (aA (fJ (aW c.2.1 1)=bY d.2.1) (aH v.group) (aA (bI v.group) (bP c.1 d.1) (aA (fE v) (m=m) (dH h h)))))))))) (∃(d:Nat),aA (I d) (f d<f x) (aA (aH t) gV (aA (aH v.group) (bI v.group) (aA (fJ (aW c.1 1)=bY d) (fE v) (dP m m h h)))))))))) (nG (λI1 c=>aA (I1 c) (aH t) (aA (eP 2) (aH v.order) (aA (bI v.order) (bE c) (aA (fE v) (m=m) (dH h h))))) (λI1 e c=>I1 c->aY (↑c:Int) (aG v.order) (bD (λb o=>aI (bF v.order.a b o) (0<=(↑c:Int)) ((↑c:Int)<aG v.order) (∃(y:Int×Bool),aJ m h b (bB o c 2) (CY y)/\GX t y.1 h
 (λl n=>oF (!(Gt l n)) K m h (λd=>aA (I1 d) (e d<e c) (aA (aH t) gV (aA (aH v.order) (bI v.order) (aA (fJ (aW c 1)=bY d) (fE v) (dP m m h h))))))))) (Dg (aG v.order) 12 (mE v.limit 0 K (Cr (decide (v.limit<=100))) m h (K aZ m h)) (K aZ m h)))))
theorem O8{α:Type}{l:List α}{x:α}(hx:l[i]? =some x)(c:i<k):x∈l.take k:=mem_of_getElem? (i:=i) bk
theorem UQ{α:Type}{l:List α}{x y:α}(hx:l[i]? =some x)(c:y∈l.take (i+1)):y∈l.take i\/y=x:=by
 rw[cj,hx,mem_append]at c
 grind
theorem nR{n:Int}:Gt l n=true↔0<=n/\n<l.length:=by simp[Gt]
theorem Zm:cu 140 apX:=by
 refine iB func140 ?_;rintro T m h K ⟨s,t,u,on,a,b,rfl,o,y,z,G⟩;refine⟨bfQ s t u m h,rfl,aD IK aF,Sa s t u m h K,be,?_⟩;dsimp only[Sa,push_cast];have U:=o.slen;have H:=o.len;have ta:=y.slen;have ub:=z.slen;refine⟨λi=>i<=on.length/\gE (zA a b) on i,λi=>on.length-i,⟨0,⟨aC,.zero⟩,MT⟩,λi⟨hi,I⟩=>aE (λg=>?_) (λV=>G true ⟨λ_=>I.all aC,λ_=>rfl⟩)⟩;obtain⟨p,A⟩:=eO U g;obtain⟨W,X,Y,Z⟩:=o.at A;have c:¬zA a b (on.take i) p->K (.val (.bool false)) m h:=λhn=>G false ⟨λe=>(by cases e),λe=>(Good.not A hn e).elim⟩;refine⟨W,X,Y,aC,g,p,.imm Z,aC,aC,t,a,p.1,rfl,y,aB (λB=>c λd=>?_) (λB=>⟨aC,aC,u,b,p.2,rfl,z,aB (λC=>c λd=>?_) (λC=>?_)⟩)⟩
 .rw[d.1]at B;cases B
 .rw[d.2.1]at C;cases C
 have J:Gt a p.1=true:=bk
 have L:Gt b p.2=true:=bk
 have j:=nR.1 J;have n:=nR.1 L;obtain⟨b2,o2,e2,r2⟩:=y.inb j.1 j.2;obtain⟨b3,o3,e3,r3⟩:=z.inb n.1 n.2;refine⟨aC,aC,b2,o2,e2,aC,aC,_,.imm r2,aC,aC,b3,o3,e3,aC,aC,_,.imm r3,aB (λD=>c λd=>?_) (λD=>?_)⟩
 .rw[d.2.2.1]at D;simp at D
 refine⟨λ⟨i',k,p'⟩=>i'=i/\p'=p/\k<=i/\∀q∈on.take k,q.1≠p.1/\q.2≠p.2,λ⟨_,k,_⟩=>i-k,⟨(i,0,p),⟨rfl,rfl,aC,λq f=>by simp at f⟩,MT⟩,?_⟩;rintro⟨i,k,p⟩ ⟨rfl,rfl,hk,E⟩;dsimp only;refine aE (λM=>?_) (λO=>?_)
 .obtain⟨q,f⟩:∃q,on[k]? =some q:=⟨on[k]'(by omega),bu _⟩
  obtain⟨P,Q,R,S⟩:=o.at f;refine⟨P,Q,R,aC,aC,aC,aC,q.1,.imm (bA.part S 0 1),aC,aC,aB (λh4=>c λd=>?_) (λh4=>⟨P,Q,R,aC,aC,aC,aC,q.2,.imm (bA.part S 1 1),aC,aC,aB (λh5=>c λd=>?_) (λh5=>?_)⟩)⟩
  .exact(d.2.2.2 q (O8 f aC)).1 bk
  .exact(d.2.2.2 q (O8 f aC)).2 bk
  .refine⟨(i,k+1,p),⟨rfl,rfl,bk,λq' F=>?_⟩,bk,MT⟩;rcases UQ f F with e|rfl
   .grind
   grind
 .have:k=i:=by omega
  subst this;exact⟨k+1,⟨aC,I.succ A ⟨J,L,bk,E⟩⟩,aC,MT⟩
theorem Zl:cu 141 aoX:=by
 refine iB func141 ?_;rintro W m h K ⟨v,t,g,o,a,rfl,D,E,M,O⟩;refine⟨beJ v t m h,rfl,aD IK aF,R9 v t m h K,be,?_⟩;dsimp only[R9,push_cast];have X:=D.slen;have P:=D.len;have Y:=E.slen;have Q:=E.len;have d:¬Cw a g o v.limit->K (.val (.bool false)) m h:=λZ=>O false ⟨λe=>(by cases e),λe=>(Z e).elim⟩;refine⟨λi=>i<=g.length/\gE (MB a) g i,λi=>g.length-i,⟨0,⟨aC,.zero⟩,MT⟩,λi⟨R,y⟩=>aE (λf=>?_) (λz=>?_)⟩
 .obtain⟨c,u⟩:=eO X f;obtain⟨F,G,H,I⟩:=D.at' u;refine⟨F,G,H,aC,f,c,.imm I,t,a,c,rfl,M,aB (λj=>d λn=>Good.not u (λA=>?_) n.group_) (λj=>?_)⟩
  .rw[A.1]at j;cases j
  refine⟨λ⟨i',k,c'⟩=>i'=i/\c'=c/\k<=i/\c∉g.take k,λ⟨_,k,_⟩=>i-k,⟨(i,0,c),⟨rfl,rfl,aC,bf⟩,MT⟩,?_⟩;rintro⟨i,k,c⟩ ⟨rfl,rfl,hk,B⟩;dsimp only;refine aE (λS=>?_) (λT=>?_)
  .obtain⟨q,J⟩:∃q,g[k]? =some q:=⟨g[k]'(by omega),bu _⟩
   obtain⟨b4,o4,e4,r4⟩:=D.at' J;refine⟨b4,o4,e4,aC,aC,q,.imm r4,aB (λU=>d λn=>Good.not u (λA=>?_) n.group_) (λU=>?_)⟩
   .refine A.2 ?_;have:q=c:=bk
    rw[<-this];exact O8 J aC
   .refine⟨(i,k+1,c),⟨rfl,rfl,bk,λL=>?_⟩,bk,MT⟩;rcases UQ J L with e|rfl
    .exact B e
    .simp at U
  .have:k=i:=by omega
   subst this;exact⟨k+1,⟨aC,y.succ u ⟨bk,B⟩⟩,aC,MT⟩
 have gg:=y.all aC;clear R y z;refine⟨λi=>i<=o.length/\gE (Qq a) o i,λi=>o.length-i,⟨0,⟨aC,.zero⟩,MT⟩,λi⟨R,C⟩=>aE (λf=>?_) (λz=>?_)⟩
 .obtain⟨c,u⟩:=eO Y f;obtain⟨F,G,H,I⟩:=E.at u;refine⟨F,G,H,aC,f,c,.imm I,t,a,c.1,rfl,M,aB (λj=>d λn=>Good.not u (λA=>?_) n.order_) (λj=>⟨i+1,⟨aC,C.succ u (by simpa[Qq]using j)⟩,bk,MT⟩)⟩;rw[show Gt a c.1=true from A]at j;cases j
 have oo:=C.all aC;refine aE (λj=>aE (λV=>?_) (λV=>d λn=>?_)) (λj=>d λn=>?_)
 .refine O (decide (v.limit<=100)) ⟨λe=>⟨gg,oo,aC,V,br e⟩,λe=>decide_eq_true e.high⟩
 .have:=n.low;omega
 .have:=n.len_;omega
def iO:Pred:=.mk 0 0 eY eY []
def eT:Query->Prop
 |.mk op ta w co on gr od li _=>(op=1\/ta=0)/\(op=2\/w=iO)/\(op=3\/co=[])/\(op=4\/op=5\/on=[])/\(op=9\/op=10\/(gr=[]/\od=[]/\li=0))
def DK(l:dd):dd×Int:=if l.length<=12 then(l,0)else([],2)
def kV(e:Int):dd×Int:=([],e)
open Classical in
noncomputable def kB(s:j4)(ps:dd)(q:Query)(a b:dd):dd×Int:=
 if arity (match q with|.mk op .. =>op)<0\/¬eT q then kV 100 else
 match q with
 |.mk op ta w co on gr od li _=>
  if op=1 then(if 0<=ta/\ta<s.tables.length then DK (dT s ta)else kV 100)
  else if op=2 then(if jD a ps w=0 then DK a else kV (jD a ps w))
  else if op=3 then(if co≠[]/\Good (λ_ c=>Gt a c=true) co then DK (co.map λc=>a.getD c.toNat 0)else kV 100)
  else if op=4 then(if Good (zA a b) on then DK (a++b)else kV 100)
  else if op=5 then(if Good (zA a b) on then DK a else kV 100)
  else if op=9 then(if Cw a gr od li then DK a else kV 100)
  else if op=10 then(if a=b/\Cw a gr od li then DK a else kV 100)
  else(if a=b then DK a else kV 100)
def amX:Vc.Spec:=λc m h K=>∃v q,c=[aQ v]/\dR h q v/\∀r:Bool,(r=true↔eT q)->K (cB r) m h
def KR(K:dc)(m:MH)(h:PH)(r:dd×Int):Prop:=∀c h',PH.le h h'->Ints h' c r.1->K (.tup [cS c,cI r.2]) m h'
def b1X:Vc.Spec:=λc m h K=>∃sc p v a b s ps q d e,c=[aS sc,cS p,aQ v,cS a,cS b]/\dM h s sc/\mQ s/\Ints h p ps/\dR h q v/\Ints h a d/\Ints h b e/\d.length<=12/\e.length<=12/\KR K m h (kB s ps q d e)
noncomputable def bkQ(m:MH):Ctx:=
 dD [(102,Z7),(138,amX),(29,tW),(95,wY),(139,InS),(140,apX),(141,aoX),(132,Cv)] [(20,{A:=Nat×Sl×Sl×dd×PH,st:=λ⟨i,a,co,l,h⟩=>bU 121 126 [(3,sv a),(12,.at (.lst 94)),(78,sv co),(79,iv co.len),(80,iv i)] [(94,.lst 3 1 (l.map eI))] m h})] [] [] false
noncomputable def bfX(v:QV)(m:MH)(h:PH):Ctx:=
 cmZ [(161,bWJ)] [] [(2,{A:=Bool,st:=λr=>bU 78 79 [(1,.at (.ptr 1 0)),(3,bv r)] [(1,.cells 68 (v.enc.map .val))] m h})] [(2,[(9,{A:=Bool×Bool,st:=λx=>bU 78 79 [(1,.at (.ptr 1 0)),(3,bv x.1),(20,bv x.2)] [(1,.cells 68 (v.enc.map .val))] m h}),
  (11,{A:=Bool×Bool,st:=λx=>bU 78 79 [(1,.at (.ptr 1 0)),(3,bv x.1),(31,bv x.2)] [(1,.cells 68 (v.enc.map .val))] m h}),
  (11,{A:=Bool×Bool,st:=λx=>bU 78 79 [(1,.at (.ptr 1 0)),(3,bv x.1),(42,bv x.2)] [(1,.cells 68 (v.enc.map .val))] m h}),
  (16,{A:=Bool×Bool,st:=λx=>bU 78 79 [(1,.at (.ptr 1 0)),(3,bv x.1),(58,bv x.2)] [(1,.cells 68 (v.enc.map .val))] m h})])] [] false
abbrev fS(a b:Bool):Prop:=sQb a=sQb b
abbrev A4(a:Bool):Prop:=fS true a
abbrev JU(a:Prop)(b:(Bool×Bool->Prop)->Prop)(c:(Bool×Bool->Prop)->(Bool×Bool)->Prop):Prop:=a->∃(x:Bool×Bool->Prop),b x/\∀(d:Bool×Bool),c x d
noncomputable abbrev iT:cv:=mI tE
abbrev tK(a:Bool):Prop:=fS false a
attribute [push_cast] fS A4 JU iT tK
def Sc(v:QV)(m:MH)(h:PH)(K:dc):Prop:=
  ∃(I:Bool->Prop),bK v.op 9 (∃(x:Bool),aA (I x) fR (aA (A4 x) (fE v) (dP m m h h))) (∃(x:Bool),aA (I x) fR (aA (fS (v.op==10) x) (fE v) (dP m m h h)))/\∀(x:Bool),JU (I x) (λI1=>bK v.op 1 (∃(f:Bool×Bool),aA (I1 f) fR (aA (fS x f.1) (A4 f.2) (cF (fE v) m m h h))) (∃(f:Bool×Bool),aA (I1 f) fR (aA (fS x f.1) (fS (v.table==0) f.2) (cF (fE v) m m h h)))) (λI1 f=>JU (I1 f) (λI2=>branch f.2 (bK v.op 2 (∃(e:Bool×Bool),aA (I2 e) fR (aA (fS f.1 e.1) (A4 e.2) (cF (fE v) m m h h))) (JT (λg w p q=>aI (eC v.where_.enc (nS (lI (bH (cV 0) (cV 0) (bH Cz (cV 0) (bH (cV 0) (cV 0) (bH (cV 0) Cz iT))))))=eC g.enc (gX w)) (eX h p g) (eX h q w) (∀(r:
 Bool),(gO r↔p=q)->∃(e:Bool×Bool),aA (I2 e) fR (aA (fS f.1 e.1) (fS r e.2) (cF (fE v) m m h h)))))) (∃(e:Bool×Bool),aA (I2 e) fR (aA (fS f.1 e.1) (tK e.2) (cF (fE v) m m h h)))) (λI2 e=>JU (I2 e) (λI3=>branch e.2 (bK v.op 3 (∃(d:Bool×Bool),aA (I3 d) fR (aA (fS e.1 d.1) (A4 d.2) (cF (fE v) m m h h))) (∃(d:Bool×Bool),aA (I3 d) fR (aA (fS e.1 d.1) (fS (aG v.columns==0) d.2) (cF (fE v) m m h h)))) (∃(d:Bool×Bool),aA (I3 d) fR (aA (fS e.1 d.1) (tK d.2) (cF (fE v) m m h h)))) (λI3 d=>JU (I3 d) (λI4=>branch d.2 (bK v.op 4 (∃(c:Bool×Bool),aA (I4 c) fR (aA (fS d.1 c.1) (A4 c.2) (cF (fE v) m m h h))) (bK v.op 5 (∃(c:Bool×
 Bool),aA (I4 c) fR (aA (fS d.1 c.1) (A4 c.2) (cF (fE v) m m h h))) (∃(c:Bool×Bool),aA (I4 c) fR (aA (fS d.1 c.1) (fS (aG v.on==0) c.2) (cF (fE v) m m h h))))) (∃(c:Bool×Bool),aA (I4 c) fR (aA (fS d.1 c.1) (tK c.2) (cF (fE v) m m h h)))) (λI4 c=>lA (I4 c) c.2 (branch c.1 (K fB m h) (bK (aG v.group) 0 (branch (aG v.order==0) (K (Cr (v.limit==0)) m h) (K aZ m h)) (K aZ m h))) (K aZ m h)))))
noncomputable abbrev sH(a:Int):CV:=CV.tup (cO CE a)
noncomputable abbrev jP:CV:=sH 100
noncomputable abbrev cH(a:Sl):Sl:=Sl.mk a.a a.len a.cap
abbrev rE(a:dc)(b:Sl)(c:MH)(d:PH):Prop:=a (CV.tup (cO (mL b) 0)) c d
noncomputable abbrev oE(a:List cv):Int:=(↑a.length:Int)
abbrev Bs(a:List cv)(b:dc)(c:MH)(d:PH):Prop:=iG (oE a) 12 b (sH 2) c d (bQ d 1 a (λx e=>rE b x c e))
noncomputable abbrev Ap(a:Nat×Sl×Sl×dd×PH):Sl:=a.2.2.1
noncomputable abbrev ET(a:Nat×Sl×Sl×dd×PH):List cv:=gI a.2.2.2.1
noncomputable abbrev Aq(a:Nat×Sl×Sl×dd×PH):Nat->Nat->Option Value:=a.2.2.2.2
abbrev qV(a:Sl->Sl->Sl->Prop):Prop:=jE (λx c=>∃(d:Sl),a x c d)
abbrev u6(a b:List cv)(c:Nat):Prop:=cW (iA a b.length*c)
noncomputable abbrev u7(a b:List cv):Nat:=iA a b.length
noncomputable abbrev kI(a:QV)(b:Sl):du:=eC a.enc (mL b)
attribute [push_cast] sH jP cH rE oE Bs Ap ET Aq qV u6 u7 kI
def Ml(sc:bJ)(p:Sl)(v:QV)(a b:Sl)(m:MH)(h:PH)(K:dc):Prop:=
  ∃(o:Int),eN v.op o/\aY (arity o) 0 (K jP m h) (sG (λD q=>aA (eW (eH v) (eH D)) (dR h q D) (∀(r:Bool),(gO r↔eT q)->branch (!r) (K jP m h) (∃(y:List cv),aA (dQ 1 y) (bX h (cH a) 1 y) (aA (cW (y.length*8)) (cW y.length) (bK v.op 1 (aY v.table 0 (K jP m h) (mE v.table (gY sc) K jP m h (Am (cO (gL sc) v.table) h (λs C=>iG (aG s) 12 K (sH 2) m C (rE K s m C))))) (bK v.op 2 (GZ (cQ a (fP p (gX v.where_))) h (λc E F=>branch (jD c E F !=0) (K (sH (jD c E F)) m h) (Bs y K m h))) (bK v.op 3 (branch (aG v.columns==0) (K jP m h) (∃(I:Nat×Sl×Sl×dd×PH->Prop)(G:Nat×Sl×Sl×dd×PH->Nat),(∃(x:Nat×Sl×Sl×dd×PH),aA (I x) (aX a
 x.2.1) (aA (eL 94) (aX v.columns (Ap x)) (aA (cD v.columns (Ap x)) (bE x.1) (aA (uE (ET x)) (m=m) (dH h (Aq x))))))/\∀(x:Nat×Sl×Sl×dd×PH),I x->aY (↑x.1:Int) (aG (Ap x)) (bD (λj e=>aI (bF (Ap x).a j e) (0<=(↑x.1:Int)) ((↑x.1:Int)<aG (Ap x)) (∃(d:Int),aJ m (Aq x) j (bB e x.1 1) (bG d)/\GX x.2.1 d (Aq x) (λl n=>branch (!(Gt l n)) (K jP m (Aq x)) (bD (λH J=>aI (bF x.2.1.a H J) (0<=d) (d<aG x.2.1) (∃(L:Int),aI (aJ m (Aq x) H (eM J d 1) (bG L)) (G4 (ET x)) (fN (ET x)) (∃(B:Nat×Sl×Sl×dd×PH),aA (I B) (G B<G x) (aA (aX x.2.1 B.2.1) (eL 94) (aA (aX (Ap x) (Ap B)) (cD (Ap x) (Ap B)) (aA (fJ
 (aW x.1 1)=bY B.1) (uF (ET x) L (ET B)) (dP m m (Aq x) (Aq B))))))))))))) (iG (oE (ET x)) 12 K (sH 2) m (Aq x) (bQ (Aq x) 1 (gI x.2.2.2.1) (λs C=>rE K s m C))))) (bK v.op 4 (qV (λs t u=>∃(e:di),Bc (λz j=>aA (cQ v.on (gK a b)=cQ s (gK t u)) (lF h s e) (aA (Ints h t z) (Ints h u j) (∀(f:Bool),(gO f↔Good (zA z j) e)->branch (!f) (K jP m h) (bK v.op 4 (∃(d:List cv),aA (dQ 1 d) (bX h (cH b) 1 d) (aA (u6 y d 8) (cW (u7 y d)) (Bs (y++d) K m h))) (Bs y K m h))))))) (bK v.op 5 (qV (λs t u=>∃(e:di),Bc (λz j=>aA (cQ v.on (gK a b)=cQ s (gK t u)) (lF h s e) (aA (Ints h t z) (Ints h u j) (∀
 (f:Bool),(gO f↔Good (zA z j) e)->branch (!f) (K jP m h) (bK v.op 4 (∃(d:List cv),aA (dQ 1 d) (bX h (cH b) 1 d) (aA (u6 y d 8) (cW (u7 y d)) (Bs (y++d) K m h))) (Bs y K m h))))))) (bK v.op 9 (∃(A:QV),IC (λt g=>∃(e:dg)(z:dd),aA (kI v a=kI A t) (Ints h A.group g) (aA (kC h A.order e) (Ints h t z) (∀(f:Bool),(gO f↔Cw z g e A.limit)->branch (!f) (K jP m h) (Bs y K m h))))) (EJ a b h (λz j f=>(gO f↔z=j)->branch (!f) (K jP m h) (bK v.op 10 (∃(A:QV),IC (λt g=>∃(e:dg)(M:dd),aA (kI v a=kI A t) (Ints h A.group g) (aA (kC h A.order e) (Ints h t M) (∀(O:Bool),(gO O↔Cw M g e A.limit)->branch (!O) (K
 jP m h) (Bs y K m h))))) (Bs y K m h)))))))))))))))
theorem Kx{α:Type}{n:Nat}{l:List α}(h:n=l.length):((n:Int)==0)=true↔l=[]:=by
 rw[beq_iff_eq,h, <-length_eq_zero_iff];omega
theorem Eh(h:PH):eX h iO ⟨0,0,eY,eY,⟨none,0,0⟩⟩:=eX.mk (v:=⟨0,0,eY,eY,⟨none,0,0⟩⟩) (.nil _ _ _ _)
theorem Zn:cu 138 amX:=by
 refine iB func138 ?_;rintro o m h K ⟨v,q,rfl,t,g⟩;refine⟨bfX v m h,rfl,aD Y8 aF,Sc v m h K,be,?_⟩;dsimp only[Sc,push_cast];obtain⟨op,ta,w,co,on,gr,od,li,args⟩:=q;have a:=t.parts;have u:=a.op_;have y:=a.table_;have z:=a.limit_;have D:=Kx a.columns_.slen;have E:=Kx a.on_.slen;have F:=Kx a.group_.slen;have G:=Kx a.order_.slen;simp only[eT]at g;subst u y z;refine⟨λr=>(r=true↔v.op=9\/v.op=10),aB (λd=>⟨true,bk,MT⟩) (λd=>⟨_,?_,MT⟩),λr j=>?_⟩
 .grind
 refine⟨λx=>x.1=r/\(x.2=true↔(v.op=1\/v.table=0)),aB (λd=>⟨(r,true),⟨rfl,bk⟩,MT⟩) (λd=>⟨(r,_),⟨rfl,?_⟩,MT⟩),?_⟩
 .grind
 rintro⟨r,c⟩ ⟨rfl,e⟩;dsimp only at e j⊢
 refine⟨λx=>x.1=r/\(x.2=true↔(v.op=1\/v.table=0)/\(v.op=2\/w=iO)),aB (λd=>aB (λf=>⟨(r,true),⟨rfl,⟨λ_=>⟨e.1 d,.inl bk⟩,λ_=>rfl⟩⟩,MT⟩) (λf=>⟨v.where_,⟨0,0,eY,eY,⟨none,0,0⟩⟩,w,iO,rfl,a.where_,Eh h,λA B=>⟨(r,A),⟨rfl,?_⟩,MT⟩⟩)) (λd=>⟨(r,false),⟨rfl,?_⟩,MT⟩),?_⟩
 .grind
 .grind
 clear e c;rintro⟨r,c⟩ ⟨rfl,e⟩;dsimp only at e j⊢
 refine⟨λx=>x.1=r/\(x.2=true↔(v.op=1\/v.table=0)/\(v.op=2\/w=iO)/\(v.op=3\/co=[])),aB (λd=>aB (λf=>⟨(r,true),⟨rfl,⟨λ_=>⟨(e.1 d).1,(e.1 d).2,.inl bk⟩,λ_=>rfl⟩⟩,MT⟩) (λf=>⟨(r,_),⟨rfl,?_⟩,MT⟩)) (λd=>⟨(r,false),⟨rfl,?_⟩,MT⟩),?_⟩
 .grind
 .grind
 clear e c;rintro⟨r,c⟩ ⟨rfl,e⟩;dsimp only at e j⊢
 refine⟨λx=>x.1=r/\(x.2=true↔(v.op=1\/v.table=0)/\(v.op=2\/w=iO)/\(v.op=3\/co=[])/\(v.op=4\/v.op=5\/on=[])),aB (λd=>aB (λf=>⟨(r,true),⟨rfl,⟨λ_=>⟨(e.1 d).1,(e.1 d).2.1,(e.1 d).2.2,.inl bk⟩,λ_=>rfl⟩⟩,MT⟩) (λf=>aB (λn=>⟨(r,true),⟨rfl,⟨λ_=>⟨(e.1 d).1,(e.1 d).2.1,(e.1 d).2.2,.inr (.inl bk)⟩,λ_=>rfl⟩⟩,MT⟩) (λn=>⟨(r,_),⟨rfl,?_⟩,MT⟩))) (λd=>⟨(r,false),⟨rfl,?_⟩,MT⟩),?_⟩
 .grind
 .grind
 clear e c;rintro⟨r,c⟩ ⟨rfl,e⟩;dsimp only at e j⊢
 refine aB (λd=>aB (λf=>g true ⟨λ_=>?_,λ_=>rfl⟩) (λf=>aB (λn=>aB (λC=>g _ ?_) (λC=>g false ?_)) (λn=>g false ?_))) (λd=>g false ?_)
 .grind
 .grind
 .grind
 .grind
 .grind
theorem CJ(l:dd):dQ 1 (l.map eI):=by
 constructor
 .intro e c;obtain⟨x,_,rfl⟩:=mem_map.1 c;rfl
 .intro e c u d;obtain⟨x,_,rfl⟩:=mem_map.1 c;simp[eI]at d;subst d;rfl
theorem KR.err{r:dd×Int}{e:Int}(d:KR K m h r)(c:PH.le h h')(f:r=kV e):K (.tup [.val (.slice none 0 0),.val (.int .i64 e)]) m h':=by
 subst f;exact d ⟨none,0,0⟩ h' c ⟨.nil _ _,by simp[kV]⟩
theorem KR.big{r:dd×Int}(d:KR K m h r)(c:PH.le h h')(e:r=DK l)(f:12<l.length):K (.tup [.val (.slice none 0 0),.val (.int .i64 2)]) m h':=
 d.err c (by rw[e,DK,if_neg aC];rfl)
theorem KR.ok{r:dd×Int}{sl:Sl}(d:KR K m h r)(c:PH.le h h')(e:r=DK l)(f:l.length<=12)(g:bX h' sl 1 (l.map eI)):K (.tup [.val (.slice sl.a sl.len sl.cap),.val (.int .i64 0)]) m h':=by
 rw[e,DK,if_pos f]at d;exact d sl h' c ⟨g,bk⟩
theorem bUX{p:Sl}{a b:Sl}{n C:dd}(W:dM h s sc)(h8:mQ s)(hp:Ints h p ps)(X:dR h q v)(B:Ints h a n)(L:Ints h b C)(Y:n.length<=12)(Z:C.length<=12)(d:KR K m h (kB s ps q n C)):Ml sc p v a b m h K:=by
 dsimp only[Ml,push_cast];have O:=X;obtain⟨op,ta,w,co,on,gr,od,li,args⟩:=q;have x:=X.parts;have e0:=x.op_;have e1:=x.table_;have e2:=x.limit_;have a0:=W.tables.slen;have a1:=B.slen;have H:=x.columns_.slen;have P:=x.columns_.len;subst e0 e1 e2;refine⟨v.op,rfl,aE (λQ=>d.err (.refl _) ?_) (λQ=>⟨v,_,rfl,O,λr z=>aB (λh2=>d.err (.refl _) ?_) (λh2=>?_)⟩)⟩
 .unfold kB;rw[if_pos (.inl Q)]
 .unfold kB;rw[if_pos (.inr λe=>bk)]
 have hu:eT (.mk v.op v.table w co on gr od v.limit args):=z.1 bk;unfold kB at d;rw[if_neg (λe=>e.elim Q (λe=>e hu))]at d;dsimp only at d;clear z h2;refine⟨n.map eI,CJ _,B.row,bj,bj,aB (λo=>?_) (λo=>aB (λy=>?_) (λy=>aB (λA=>?_) (λA=>aB (λD=>?_) (λD=>aB (λE=>?_) (λE=>aB (λI=>?_) (λI=>?_))))))⟩
 .rw[beq_iff_eq]at o;rw[if_pos o]at d;refine aE (λu=>d.err (.refl _) (if_neg aC)) (λu=>aE (λt=>d.err (.refl _) (if_neg aC)) (λt=>⟨sc,s,v.table,rfl,W,h8,λF h' f j=>?_⟩));rw[if_pos aC]at d;have:=j.slen;exact aE (λg=>d.big f rfl aC) (λg=>d.ok f rfl aC j.row)
 .rw[beq_eq_false_iff_ne]at o;rw[beq_iff_eq]at y;rw[if_neg o,if_pos y]at d;refine⟨a,p,v.where_,n,ps,w,rfl,B,hp,x.where_,aB (λu=>d.err (.refl _) (if_neg bk)) (λu=>?_)⟩;rw[if_pos bk]at d;exact aE (λg=>d.big (.refl _) rfl bk) (λg F h' f j=>d.ok f rfl aC j)
 .rw[beq_eq_false_iff_ne]at o y;rw[beq_iff_eq]at A;rw[if_neg o,if_neg y,if_pos A]at d;refine aB (λu=>d.err (.refl _) (if_neg λe=>e.1 ((Kx H).1 u))) (λu=>?_);have R:co≠[]:=λe=>bk
  refine⟨λ⟨i,a',S,l,hx⟩=>a'=a/\S=v.columns/\hx=h/\i<=co.length/\l=(co.take i).map (λc=>n.getD c.toNat 0)/\gE (λ_ c=>Gt n c=true) co i,λ⟨i,_,_,_,_⟩=>co.length-i,⟨(0,a,v.columns,[],h),⟨rfl,rfl,rfl,aC,bf,.zero⟩,MT⟩,?_⟩;rintro⟨i,a,_,l,h⟩ ⟨rfl,rfl,rfl,j,rfl,hg⟩;dsimp only;refine aE (λJ=>?_) (λa2=>?_)
  .obtain⟨c,M⟩:=eO H J;obtain⟨b1,o1,T,r1⟩:=x.columns_.at' M;refine⟨b1,o1,T,aC,J,c,.imm r1,a,n,c,rfl,B,aB (λt=>d.err (.refl _) (if_neg λe=>?_)) (λt=>?_)⟩
   .have:=e.2 i c M;grind
   have t:Gt n c=true:=bk
   have g:=nR.1 t;obtain⟨b2,o2,U,r2⟩:=B.inb g.1 g.2;refine⟨b2,o2,U,aC,aC,_,.imm r2,?_,?_,(i+1,a,v.columns,(co.take (i+1)).map (λc=>n.getD c.toNat 0),h),⟨rfl,rfl,rfl,aC,rfl,hg.succ M t⟩,aC,?_⟩
   .simp;omega
   .simp;omega
   .rw[iE M,cd];exact MT
  .rw[if_pos ⟨R,hg.all aC⟩]at d;rw[ca aC];exact aE (λg=>d.big (.refl _) rfl bk) (λg F h' f j=>d.ok f rfl bk j)
 .rw[beq_eq_false_iff_ne]at o y A;have G:=beq_iff_eq.1 D;rw[if_neg o,if_neg y,if_neg A,if_pos G]at d;refine⟨v.on,a,b,on,n,C,rfl,x.on_,B,L,λr z=>aB (λu=>d.err (.refl _) (if_neg λe=>?_)) (λu=>aB (λ_=>⟨C.map eI,CJ _,L.row,bj,bj,?_⟩) (λt=>?_))⟩
  .grind
  .rw[if_pos (z.1 bk)]at d;rw[<-cd];exact aE (λg=>d.big (.refl _) rfl bk) (λg F h' f j=>d.ok f rfl bk j)
  grind
 .rw[beq_eq_false_iff_ne]at o y A;have G:=beq_eq_false_iff_ne.1 D;rw[beq_iff_eq]at E;rw[if_neg o,if_neg y,if_neg A,if_neg G,if_pos E]at d;refine⟨v.on,a,b,on,n,C,rfl,x.on_,B,L,λr z=>aB (λu=>d.err (.refl _) (if_neg λe=>?_)) (λu=>aB (λt=>?_) (λt=>?_))⟩
  .grind
  .grind
  .rw[if_pos (z.1 bk)]at d;exact aE (λg=>d.big (.refl _) rfl bk) (λg F h' f j=>d.ok f rfl aC j)
 .rw[beq_eq_false_iff_ne]at o y A D E;rw[beq_iff_eq]at I;rw[if_neg o,if_neg y,if_neg A,if_neg D,if_neg E,if_pos I]at d;refine⟨v,a,gr,od,n,rfl,x.group_,x.order_,B,λr z=>aB (λu=>d.err (.refl _) (if_neg λe=>?_)) (λu=>?_)⟩
  .grind
  rw[if_pos (z.1 bk)]at d;exact aE (λg=>d.big (.refl _) rfl bk) (λg F h' f j=>d.ok f rfl aC j)
 .rw[beq_eq_false_iff_ne]at o y A D E I;rw[if_neg o,if_neg y,if_neg A,if_neg D,if_neg E,if_neg I]at d;refine⟨a,b,n,C,rfl,B,L,λr z=>aB (λu=>d.err (.refl _) ?_) (λu=>aB (λt=>⟨v,a,gr,od,n,rfl,x.group_,x.order_,B,λr2 V=>aB (λd4=>d.err (.refl _) ?_) (λd4=>?_)⟩) (λt=>?_))⟩
  .grind
  .grind
  .rw[beq_iff_eq]at t;rw[if_pos t,if_pos ⟨z.1 bk,V.1 bk⟩]at d;exact aE (λg=>d.big (.refl _) rfl bk) (λg F h' f j=>d.ok f rfl aC j)
  .rw[beq_eq_false_iff_ne]at t;rw[if_neg t,if_pos (z.1 bk)]at d;exact aE (λg=>d.big (.refl _) rfl bk) (λg F h' f j=>d.ok f rfl aC j)
theorem ZE:cu 103 b1X:=by
 refine iB func103 ?_;rintro c m h K ⟨sc,p,v,a,b,s,ps,q,y,z,rfl,d,e,f,g,j,n,o,t,u⟩;refine⟨bkQ m,rfl,aD PU (aD Zn (aD xA (aD LM (aD IK (aD Zm (aD Zl (aD Zq aF))))))),Ml sc p v a b m h K,be,?_⟩;exact bUX d e f g j n o t u
mutual
noncomputable def cJ(s:j4)(ps:dd):Query->dd×Int
 |.mk op ta w co on gr od li args=>
  match fX s ps args with
  |(ks,e)=>if e=0 then(if(ks.length:Int)=arity op then kB s ps (.mk op ta w co on gr od li args) (ks.getD 0 []) (ks.getD 1 [])else kV 100)else kV e
noncomputable def fX(s:j4)(ps:dd):dl->List dd×Int
 |[]=>([],0)
 |q::qs=>
  match cJ s ps q with
  |(k,e)=>if e=0 then(match fX s ps qs with|(ks,c)=>if c=0 then(k::ks,0)else([],c))else([],e)
end
theorem Ck{s:j4}{ps:dd}:∀{c:dl}{ks:List dd},c.map (cJ s ps)=ks.map (λk=>(k,0))->fX s ps c=(ks,0)
 |[],[],_=>by simp[fX]
 |q::c,k::ks,h=>by
  simp only[map_cons,List.cons.injEq]at h;simp only[fX,h.1,Ck h.2,if_true]
 |[],_::_,h=>by simp at h
 |_::_,[],h=>by simp at h
theorem Gq{s:j4}{ps:dd}{e:Int}(d:e≠0):∀{c:dl}{ks:List dd}{i:Nat}{q:Query},(c.take i).map (cJ s ps)=ks.map (λk=>(k,0))->c[i]? =some q->(cJ s ps q).2=e->fX s ps c=([],e)
 |[],_,_,_,_,h,_=>by simp at h
 |q::c,_,0,g,_,h,f=>by
  simp at h;subst h;simp only[fX,f,if_neg d]
 |q::c,[],i+1,_,h,_,_=>by simp at h
 |q::c,k::ks,i+1,g,h,j,f=>by
  simp only[take_succ_cons,map_cons,List.cons.injEq]at h;have:=Gq d h.2 bk f;simp only[fX,h.1,this,if_true,if_neg d]
theorem a0J(l:dd):(DK l).1.length<=12:=by unfold DK;grind
theorem ayZ(s:j4)(ps:dd)(q:Query)(a b:dd):(kB s ps q a b).1.length<=12:=by
 obtain⟨op,ta,w,co,on,gr,od,li,args⟩:=q;unfold kB;dsimp only
 repeat' split
 all_goals first|exact a0J _|(simp[kV];done)
theorem Fo(s:j4)(ps:dd)(q:Query):(cJ s ps q).1.length<=12:=by
 obtain⟨op,ta,w,co,on,gr,od,li,args⟩:=q;simp only[cJ]
 repeat' split
 all_goals first|exact ayZ .. |simp[kV]
noncomputable def eG(s:j4)(ps:dd)(q:Query):dd×Int:=
 if dK s=0 then(if ps.all cX=true then(if wK q=true then cJ s ps q else kV 2)else kV 1)else kV (dK s)
def Slices(h:PH)(c:dk)(ks:List dd):Prop:=c.length=ks.length/\∀(j:Nat) s k,c[j]? =some s->ks[j]? =some k->Ints h s k
theorem Slices.mono{c:dk}(x:Slices h c ks)(le:PH.le h h'):Slices h' c ks:=⟨x.1,λj s k d e=>(x.2 j s k d e).mono le⟩
theorem Slices.snoc{c:dk}{s:Sl}{k:dd}(x:Slices h c ks)(o:Ints h s k):Slices h (c++[s]) (ks++[k]):=by
 refine⟨by simp[x.1],λj g n d e=>?_⟩;by_cases f:j<c.length
 .rw[getElem?_append_left f]at d;rw[getElem?_append_left (by rw[<-x.1];exact f)]at e;exact x.2 j g n d e
 .rw[getElem?_append_right aC]at d;rw[getElem?_append_right (by have:=x.1;omega), <-x.1]at e
  grind
def BW(N:Nat):Vc.Spec:=λc m h K=>∃sc p v s ps q,c=[aS sc,cS p,aQ v]/\dM h s sc/\mQ s/\Ints h p ps/\dR h q v/\SizeOf.sizeOf q<N/\KR K m h (cJ s ps q)
def tV:Vc.Spec:=λc m h K=>∃sc p v s ps q,c=[aS sc,cS p,aQ v]/\dM h s sc/\Ints h p ps/\dR h q v/\KR K m h (eG s ps q)
noncomputable def bJJ(N:Nat)(sc:bJ)(p:Sl)(v:QV)(m:MH):Ctx:=
 dD [(61,BW N),(102,Z7),(103,b1X)] [(3,{A:=Nat×dk×PH,st:=λ⟨i,c,h⟩=>bU 58 61 [(1,sv p),(3,.at (.ptr 3 0)),(5,.at (.ptr 5 0)),(8,.at (.lst 35)),(14,iv v.args.len),(15,iv i)] [(3,.cells 29 (sc.enc.map .val)),(5,.cells 68 (v.enc.map .val)),(35,.lst 31 1 (c.map eS))] m h})] [] [] false
noncomputable abbrev vD(a:dk):List cv:=List.map eS a
noncomputable abbrev xM(a:Nat×dk×PH):List cv:=vD a.2.1
noncomputable abbrev oC(a:Nat×dk×PH):Nat->Nat->Option Value:=a.2.2
abbrev DG(a:bJ->Sl->Prop):Prop:=∃(x:bJ)(c:Sl),a x c
abbrev DT(a:j4->dd->Prop):Prop:=∃(x:j4)(c:dd),a x c
abbrev JF(a:bJ)(b:Sl)(c:QV)(d:PH)(e:QV->j4->dd->Query->Prop):Prop:=DG (λx g=>∃(j:QV),DT (λf n=>∃(o:Query),aA (cE (dX a) (fP b (eH c))=cE (dX x) (fP g (eH j))) (dM d f x) (aA (mQ f) (Ints d g n) (e j f n o))))
abbrev kX(a:List cv)(b:Nat)(c:Prop):Prop:=aA (cW (iA a 1*b)) (fN a) c
noncomputable abbrev JV(a:Nat×dk×PH):List cv:=xM a++iT::fV iT
abbrev pW(a:List cv)(b:Nat)(c:cv):Prop:=a[b]? =Option.some c
abbrev DA(a b:Nat)(c d:cv):Prop:=List.take a (List.drop b c)=d
attribute [push_cast] vD xM oC DG DT JF kX JV pW DA
def Wh(N:Nat)(sc:bJ)(p:Sl)(v:QV)(m:MH)(h:PH)(K:dc):Prop:=
  ∃(I:Nat×dk×PH->Prop)(u:Nat×dk×PH->Nat),(∃(x:Nat×dk×PH),aA (I x) (aH p) (aA (eP 3) bS (aA (eL 35) (uT v) (aA (bE x.1) (aU sc) (nO (fE v) (pE 31 1 (xM x)) (m=m) (h=oC x))))))/\∀(x:Nat×dk×PH),I x->aY (↑x.1:Int) (aG v.args) (bD (λb o=>aI (bF v.args.a b o) (0<=(↑x.1:Int)) ((↑x.1:Int)<aG v.args) (∃(y:QV),aJ m (oC x) b (bB o x.1 21) y.enc/\JF sc p y (oC x) (λj s f q=>aA (dR (oC x) q j) (sD q N) (lE (λd c=>cR (oC x) c (Ints c d (cJ s f q).1) (branch ((cJ s f q).2 !=0) (K (CV.tup (qS CE (CV.val (cV (cJ s f q).2)))) m c) (kX (xM x) 24 (∃(g:Nat×dk×PH),aA (I g) (u g<u x) (aA (aH p) fW (aA bS (eL 35) (aA (uT v) (fJ (aW
 x.1 1)=bY g.1) (aA (aU sc) (fE v) (aA (Option.some (Own.lst 31 1 (eK (xM x) (aM d)))=Option.some (Own.lst 31 1 (xM g))) (m=m) (dH c (oC g)))))))))))))))) (∃(o:Int),eN v.op o/\branch (oE (xM x) !=arity o) (K jP m (oC x)) (aA (cW (iA (xM x) 2*24)) (cW (iA (xM x) 2)) (aA (dG 0) (0<oE (JV x)) (∃(e:cv),pW (JV x) 0 e/\∃(y:Sl),aI (DA 1 0 e (aM y)) ((0:Int)<=1) (1<oE (JV x)) (∃(z:cv),pW (JV x) 1 z/\∃(A:Sl),DA 1 0 z (aM A)/\DG (λs f=>∃(j:QV),jE (λa b=>DT (λd t=>∃(q:Query),Bc (λl n=>aA (cE (dX sc) (cQ p (cE v.enc (gK y A)))=cE (dX s) (cQ f (cE j.enc (gK a b)))) (dM (oC x) d s) (aA (mQ d)
 (Ints (oC x) f t) (aA (dR (oC x) q j) (Ints (oC x) a l) (aA (Ints (oC x) b n) (l.length<=12) (n.length<=12/\lE (λB c=>cR (oC x) c (Ints c B (kB d t q l n).1) (K (CV.tup (fP B (CV.val (cV (kB d t q l n).2)))) m c)))))))))))))))
abbrev G7(a:bJ)(b:PH)(c:j4->Prop):Prop:=Bi (λx d=>aA (eW (gL a) (gL x)) (dM b d x) (c d))
attribute [push_cast] G7
def Ww(N:Nat)(sc:bJ)(p:Sl)(v:QV)(m:MH)(h:PH)(K:dc):Prop:=
  G7 sc h (λs=>branch (dK s !=0) (K (sH (dK s)) m h) (CQ p h (λl=>branch (!(DE l)) (K (sH 1) m h) (sG (λd e=>aA (eW (eH v) (eH d)) (dR h e d) (branch (!(wK e)) (K (sH 2) m h) (JF sc p v h (λn f g q=>aA (dR h q n) (sD q N) (lE (λj c=>cR h c (Ints c j (cJ f g q).1) (K (CV.tup (fP j (CV.val (cV (cJ f g q).2)))) m c)))))))))))
theorem LC{c:dl}(h:c.map (cJ s ps)=ks.map (λk=>(k,0)))(j:Nat):(ks.getD j []).length<=12:=by
 rw[getD_eq_getElem?_getD];cases e:ks[j]? with
 |none=>simp
 |some k=>
  have d:(c.map (cJ s ps))[j]? =some (k,0):=bk
  rw[getElem?_map,Option.map_eq_some_iff]at d;obtain⟨q,_,f⟩:=d;have:=Fo s ps q
  grind
theorem Slices.pick{c:dk}(x:Slices h c ks)(j:Nat)(f:j<c.length+2):∃y:Sl,(c.map eS++[[.slice none 0 0],[.slice none 0 0]])[j]? =some [.slice y.a y.len y.cap]/\Ints h y (ks.getD j []):=by
 by_cases d:j<c.length
 .refine⟨c[j],?_,?_⟩
  .rw[getElem?_append_left bk];simp[d,eS]
  .have e:j<ks.length:=by rw[<-x.1];exact d
   rw[getD_eq_getElem?_getD,bu e];exact x.2 j _ _ (bu d) (bu e)
 .refine⟨⟨none,0,0⟩,?_,?_⟩
  .grind
  .rw[getD_eq_getElem?_getD,getElem?_eq_none (by have:=x.1;omega)];exact⟨.nil _ _,bf⟩
theorem ahZ:∀N,cu 61 (BW N)
 |0=>by
  refine eR (fn:=Tryz.f61) (c:=cK Tryz.f61) func61 rfl bg ?_;rintro C m h K ⟨sc,p,v,s,ps,q,rfl,_,_,_,_,Y,_⟩;omega
 |N+1=>by
  refine iB func61 ?_;rintro C m h K ⟨sc,p,v,s,ps,q,rfl,Q,R,S,T,Y,n⟩;refine⟨bJJ N sc p v m,rfl,aD (ahZ N) (aD PU (aD ZE aF)),Wh N sc p v m h K,be,?_⟩;dsimp only[Wh,push_cast];have D:=@B9 q;have E:=T;obtain⟨op,ta,w,co,on,gr,od,li,args⟩:=q;have x:=T.parts;have e0:=x.op_;have Z:=x.args_.slen;have U:=x.args_.len;simp only[Query.args]at D;simp only[cJ]at n;refine⟨λ⟨i,z,F⟩=>i<=args.length/\PH.le h F/\∃ks,Slices F z ks/\(args.take i).map (cJ s ps)=ks.map (λk=>(k,0)),λ⟨i,_,_⟩=>args.length-i,⟨(0,[],h),⟨aC,.refl _,[],⟨rfl,λj s k y=>by simp at y⟩,bf⟩,MT⟩,?_⟩;rintro⟨i,z,F⟩ ⟨V,d,ks,A,g⟩;have G:ks.length=i:=by have:=congrArg List.length g;grind
  have a':z.length=i:=by rw[A.1,G]
  dsimp only;refine aE (λo=>?_) (λa0=>?_)
  .obtain⟨B,t⟩:=eO Z o;obtain⟨b1,o1,u,H,r1,I⟩:=(x.args_.mono d).at t;refine⟨b1,o1,H,aC,o,u,.imm r1,sc,p,u,s,ps,B,rfl,Q.mono d,R,S.mono d,I,?_,λJ h' f L=>aB (λy=>?_) (λy=>?_)⟩
   .grind
   .have M:(cJ s ps B).2≠0:=bk
    rw[Gq M g t rfl]at n;exact n.err (d.trans f) (if_neg M)
   .have M:(cJ s ps B).2=0:=bk
    refine⟨bj,bj,(i+1,z++[J],h'),⟨aC,d.trans f,ks++[(cJ s ps B).1],(A.mono f).snoc L,?_⟩,aC,?_⟩
    .rw[iE t,g,cd]
     grind
    .rw[cd];exact MT
  .rw[ca aC]at g;rw[Ck g]at n;simp only[if_true]at n;refine⟨v.op,rfl,aB (λy=>n.err d (if_neg λe=>?_)) (λy=>?_)⟩
   .grind
   have y:(z.length:Int)=arity op:=bk
   rw[if_pos aC]at n;obtain⟨W,O,i0⟩:=A.pick 0 aC;obtain⟨X,P,i1⟩:=A.pick 1 aC;exact⟨bj,bj,aC,bj,_,O,W,rfl,aC,bj,_,P,X,rfl,sc,p,v,W,X,s,ps,_,_,_,rfl,Q.mono d,R,S.mono d,E.mono d,i0,i1,LC g 0,LC g 1,λJ h' f V=>n J h' (d.trans f) V⟩
theorem BX(h:dK s=0):mQ s:=by
 have c:DN s:=Classical.byContradiction λd=>by rw[wM d]at h;cases h
 intro t e;obtain⟨j,f⟩:=mem_iff_getElem?.1 e;exact(c.2 j t f).1
theorem LS:cu 27 tV:=by
 refine iB func27 ?_;rintro n m h K ⟨sc,p,v,s,ps,q,rfl,f,g,j,c⟩;refine⟨dD [(58,z7),(59,Qs),(60,amZ),(61,BW (SizeOf.sizeOf q+1))] [] [] [] false,rfl,aD aq (aD aj (aD aHJ (aD (ahZ _) aF))),Ww (SizeOf.sizeOf q+1) sc p v m h K,be,?_⟩;dsimp only[Ww,push_cast];unfold eG at c;refine⟨sc,s,rfl,f,aB (λd=>c.err (.refl _) (if_neg bk)) (λd=>?_)⟩;have d:dK s=0:=bk
 rw[if_pos d]at c;refine⟨p,ps,rfl,g,aB (λo=>c.err (.refl _) (if_neg λe=>bk)) (λo=>?_)⟩;rw[if_pos bk]at c;refine⟨v,q,rfl,j,aB (λt=>c.err (.refl _) (if_neg λe=>bk)) (λt=>?_)⟩;rw[if_pos bk]at c;exact⟨sc,p,v,s,ps,q,rfl,f,BX d,g,j,aC,c⟩
def aN(n:NV):CV:=.val (.agg ⟨n.enc⟩)
structure Bg(h:PH)(s:j4)(ps:dd)(q:Query)(ks:List dd)(n:NV):Prop where
 s_:dM h s n.s
 ps_:Ints h n.params ps
 q_:dR h q n.q
 ks_:bC h 1 eS (λk sl=>Ints h sl k) n.args ks
 len:∀k∈ks,k.length<=12
def Query.withOf(u q:Query):Query:=match u,q with|.mk _ ta w co on gr od li _,.mk op _ _ _ _ _ _ _ args=>.mk op ta w co on gr od li args
def Dv:Vc.Spec:=λc m h K=>∃n k u s ps q ks d,c=[aN n,cI k,aQ u]/\Bg h s ps q ks n/\dR h d u/\∀r:Bool,(r=true↔(ks.length:Int)=k/\q=d.withOf q)->K (cB r) m h
def Ql:Vc.Spec:=λc m h K=>∃n s ps q ks,c=[aN n]/\Bg h s ps q ks n/\K (aQ ⟨0,0,⟨0,0,eY,eY,⟨none,0,0⟩⟩,⟨none,0,0⟩,⟨none,0,0⟩,n.q.group,n.q.order,n.q.limit,⟨none,0,0⟩⟩) m h
def Qm:Vc.Spec:=λc m h K=>∃n s ps q ks a,c=[aN n]/\Bg h s ps q ks n/\ks[0]? =some a/\∀r:Bool,(r=true↔∃op ta w co on gr od li args,q= .mk op ta w co on gr od li args/\Cw a gr od li)->K (cB r) m h
def NC(ks:List dd):Query->Prop
 |.mk op ta w co on gr od li _=>ks.length=2/\ta=0/\w=iO/\co=[]/\gr=[]/\od=[]/\li=0/\Good (zA (ks.getD 0 []) (ks.getD 1 [])) on
def Qp:Vc.Spec:=λc m h K=>∃n s ps q ks,c=[aN n]/\Bg h s ps q ks n/\∀r:Bool,(r=true↔NC ks q)->K (cB r) m h
noncomputable def baZ(n:NV)(h:PH):Ctx:=
 rT [] [(4,{A:=Nat×Nat×Nat×MH,st:=λ⟨i,c,b,d⟩=>bU 72 73 [(1,.at (.ptr 1 0)),(3,iv c),(4,vv (.pointer (some ⟨b,0,none⟩))),(16,sv n.q.group),(17,iv n.q.group.len),(18,iv i)] [(1,.cells 206 (n.enc.map .val))] d h}),
  (11,{A:=Nat×Nat×MH,st:=λ⟨i,c,d⟩=>bU 72 73 [(1,.at (.ptr 1 0)),(3,iv c),(39,sv n.q.order),(40,iv n.q.order.len),(41,iv i)] [(1,.cells 206 (n.enc.map .val))] d h})] [] [] [259] [] false
noncomputable def bbQ(n:NV)(h:PH):Ctx:=
 rT [(191,Dv)] [(6,{A:=Nat×Sl×Sl×Nat×Nat×MH,st:=λ⟨i,s,t,b,c,d⟩=>bU 80 81 [(3,sv s),(4,sv t),(5,vv (.pointer (some ⟨b,0,none⟩))),(6,vv (.pointer (some ⟨c,0,none⟩))),(28,sv n.q.on),(29,iv n.q.on.len),(30,iv i)] [] d h})] [] [] [259] [] false
noncomputable abbrev vO(a:OV):Int:=a.value.int
noncomputable abbrev Gi(a:OV)(b:cv):cv:=bH (cV a.kind) (cV a.index) (bH (cV a.value.kind) (cV (vO a)) b)
noncomputable abbrev Gj(a:QV):OV:=a.where_.left
noncomputable abbrev G5(a b:QV)(c:cv):cv:=bH (cV a.op) (cV b.table) (bH (cV b.where_.op) (cV b.where_.cmp) (Gi (Gj b) c))
noncomputable abbrev zT(a:OV):Value:=Value.string a.value.text
noncomputable abbrev vQ(a:QV):OV:=a.where_.right
noncomputable abbrev A9(a:OV)(b:cv):cv:=bH (cV a.index) (cV a.value.kind) (bH (cV (vO a)) (zT a) b)
noncomputable abbrev Hi(a:QV)(b:cv):cv:=bH (zT (Gj a)) (cV (vQ a).kind) (A9 (vQ a) (bH (eF a.where_.args) (eF a.columns) b))
attribute [push_cast] vO Gi Gj G5 zT vQ A9 Hi
def RW(n:NV)(k:Int)(u:QV)(m:MH)(h:PH)(K:dc):Prop:=
  bK (aG n.args) k (∃(v:QV),sG (λw p=>∃(q:Query),aI (eC n.q.enc (nS (G5 n.q u (Hi u (bH (eF u.on) (eF u.group) (bH (eF u.order) (cV u.limit) (aM n.q.args))))))=eC v.enc (eH w)) (dR h p v) (dR h q w) (∀(r:Bool),(gO r↔p=q)->K (Cr r) m h))) (K aZ m h)
noncomputable abbrev BQ(a:cv):cv:=bH tE tE a
noncomputable abbrev NK(a:QV):cv:=BQ (bH tE (eF a.group) (bH (eF a.order) (cV a.limit) iT))
attribute [push_cast] BQ NK
def RU(n:NV)(m:MH)(h:PH)(K:dc):Prop:=
  K (nS (lI (lI (bH Cz (cV 0) (bH (cV 0) (cV 0) (bH (cV 0) Cz (NK n.q))))))) m h
noncomputable abbrev vF:Value:=Value.bool false
abbrev NJ(a:MH)(b:PH)(c:Nat->MH->Prop):Prop:=∀(x:Nat)(d:MH),aR (dL a b x) (cL a d x (bH vF vF (bH vF vF (bH vF vF (bH vF vF (bH vF vF (bH vF vF [])))))) 259) (c x d)
noncomputable abbrev wT(a:QV):At:=iN a.table
noncomputable abbrev yK(a:QV)(b c:At)(d:dt):dt:=pQ a.where_ (cG b c (cG (fY a.group) (fY a.order) d))
noncomputable abbrev zO(a:QV):At:=fY a.columns
abbrev Ez(a:NV):Prop:=eQ (oQ 206 (cG (iN a.s.version) (fY a.s.tables) (cG (fY a.params) (iN a.q.op) (wT a.q::yK a.q (zO a.q) (fY a.q.on) (cG (iN a.q.limit) (fY a.q.args) (qB a.args))))))
noncomputable abbrev tI(a:Bool):cv:=mI (Value.bool a)
abbrev pK(a:MH)(b c:Nat)(d:cv)(e:MH->Prop):Prop:=mH (λx f=>aA (CA a b (jI x f 0)) (c<x.size) (∀(g:MH),cL a g b (splice x.toList c d) f->e g))
attribute [push_cast] vF NJ wT yK zO Ez tI pK
def HO(n:NV)(m:MH)(h:PH)(K:dc):Prop:=
  dN n.args.a 0 n.args (λb o y=>aJ m h b (o+0) (aM y)/\NJ m h (λz A=>∃(I:Nat×Nat×Nat×MH->Prop)(t:Nat×Nat×Nat×MH->Nat),(∃(x:Nat×Nat×Nat×MH),aA (I x) fR (aA (bY y.len=bY x.2.1) (eU z (kA x.2)) (aA (aH n.q.group) (bI n.q.group) (aA (bE x.1) (Ez n) (dP A (gH x.2) h h)))))/\∀(x:Nat×Nat×Nat×MH),I x->aY (↑x.1:Int) (aG n.q.group) (bD (λe f=>aI (bF n.q.group.a e f) (0<=(↑x.1:Int)) ((↑x.1:Int)<aG n.q.group) (∃(d:Int),aJ (gH x.2) h e (bB f x.1 1) (bG d)/\aY d 0 (K aZ (gH x.2) h) (branch (decide (d>=(↑x.2.1:Int))) (K aZ (gH x.2) h) (aA (dG d) (d<12) (∃(u:Bool),aJ (gH x.2) h (kA x.2) (eM 0 d 1) (tI u)/\branch u (K aZ (gH x.2) h) (aA (dG d) (d<
 12) (pK (gH x.2) (kA x.2) (eM 0 d 1) (mI xN) (λj=>∃(c:Nat×Nat×Nat×MH),aA (I c) (t c<t x) (aA fR (bP x.2.1 c.2.1) (aA (eU (kA x.2) (kA c.2)) (aH n.q.group) (aA (bI n.q.group) (fJ (aW x.1 1)=bY c.1) (cF (Ez n) j (gH c.2) h h))))))))))))) (∃(I1:Nat×Nat×MH->Prop)(j:Nat×Nat×MH->Nat),Oa (λc=>aA (I1 c) fR (aA (bP x.2.1 (kA c)) (aH n.q.order) (aA (bI n.q.order) (bE c.1) (aA (Ez n) (gH x.2=gH c) (dH h h))))) (λc=>I1 c->aY (↑c.1:Int) (aG n.q.order) (bD (λe f=>aI (bF n.q.order.a e f) (0<=(↑c.1:Int)) ((↑c.1:Int)<aG n.q.order) (∃(d:Int×Bool),aJ (gH c) h e (bB f c.1 2) (CY d)/\aY d.1 0 (K aZ (gH c) h) (branch (decide (d.1>=
 (↑(kA c):Int))) (K aZ (gH c) h) (∃(g:Nat×Nat×MH),aA (I1 g) (j g<j c) (aA fR (bP (kA c) (kA g)) (aA (aH n.q.order) (bI n.q.order) (aA (fJ (aW c.1 1)=bY g.1) (Ez n) (dP (gH c) (gH g) h h))))))))) (Dg (aG n.q.order) 12 (mE n.q.limit 0 K (Cr (decide (n.q.limit<=100))) (gH c) h (K aZ (gH c) h)) (K aZ (gH c) h))))))
abbrev Ev(a:j4->dd->Query->(List dd)->Prop):Prop:=DT (λx c=>∃(d:Query)(e:List dd),a x c d e)
noncomputable abbrev hZ(a:NV)(b:cv):cv:=bH (cV a.s.version) (eF a.s.tables) (bH (eF a.params) (cV a.q.op) b)
abbrev CP(a:NV)(b:cv)(c:Int)(d:cv)(e:NV->Int->QV->du)(g:PH)(i:Int->Query->(List dd)->Query->Bool->Prop):Prop:=∃(x:NV)(f:Int)(j:QV),Ev (λu y n o=>∃(t:Query),aI (cE (hZ a b) (fT c (nS d))=e x f j) (Bg g u y n o x) (dR g t j) (∀(z:Bool),i f n o t z))
noncomputable abbrev fD(a:NV)(b:cv):cv:=bH (cV a.q.table) (cV a.q.where_.op) (bH (cV a.q.where_.cmp) (cV (Gj a.q).kind) (A9 (Gj a.q) (Gi (vQ a.q) b)))
noncomputable abbrev xP(a:OV)(b:QV)(c:Sl)(d:cv):cv:=bH (zT a) (eF b.where_.args) (bH (eF b.columns) (eF c) (bH (eF b.group) (eF b.order) d))
noncomputable abbrev fC(a:NV):cv:=xP (vQ a.q) a.q a.q.on (bH (cV a.q.limit) (eF a.q.args) (aM a.args))
noncomputable abbrev zM(a:cv):cv:=bH tE (cV 0) a
abbrev CU(a:List dd)(b:Int)(c d:Query):Prop:=(↑a.length:Int)=b/\c=Query.withOf d c
noncomputable abbrev A5(a:Nat×Sl×Sl×Nat×Nat×MH):Nat×Nat×MH:=a.2.2.2
noncomputable abbrev oM(a:Nat×Sl×Sl×Nat×Nat×MH):Nat->Option Obj:=gH (A5 a)
attribute [push_cast] Ev hZ CP fD xP fC zM CU A5 oM
def HP(n:NV)(m:MH)(h:PH)(K:dc):Prop:=
  CP n (fD n (fC n)) 2 (lI (lI (bH Cz (cV 0) (bH (cV 0) (cV 0) (bH (cV 0) Cz (bH tE tE (bH (eF n.q.on) tE (zM iT)))))))) (λe k u=>cE (hZ e (fD e (fC e))) (fT k (eH u))) h (λk q H u r=>(gO r↔CU H k q u)->branch (!r) (K aZ m h) (dN n.args.a 0 n.args (λb o y=>aJ m h b (o+0) (aM y)/\dN n.args.a 1 n.args (λJ L f=>aJ m h J (L+1) (aM f)/\NJ m h (λM O=>NJ O h (λP Q=>∃(I:Nat×Sl×Sl×Nat×Nat×MH->Prop)(g:Nat×Sl×Sl×Nat×Nat×MH->Nat),(∃(x:Nat×Sl×Sl×Nat×Nat×MH),aA (I x) (aX y x.2.1) (aA (aX f x.2.2.1) (eU M (A5 x).1) (aA (eU P (kA (A5 x))) (aH n.q.on) (aA (bI n.q.on) (bE x.1) (dP Q (oM x) h h)))))/\∀(x:Nat×Sl×Sl×Nat×Nat×
 MH),I x->aY (↑x.1:Int) (aG n.q.on) (bD (λj t=>aI (bF n.q.on.a j t) (0<=(↑x.1:Int)) ((↑x.1:Int)<aG n.q.on) (∃(c:Int×Int),aA (aJ (oM x) h j (bB t x.1 2) (As c)) (dG 0) (aA ((0:Int)<2) (dG 1) ((1:Int)<2/\aY c.1 0 (K aZ (oM x) h) (branch (decide (c.1>=aG x.2.1)) (K aZ (oM x) h) (aY c.2 0 (K aZ (oM x) h) (branch (decide (c.2>=aG x.2.2.1)) (K aZ (oM x) h) (bD (λz A=>aI (bF x.2.1.a z A) (0<=c.1) (c.1<aG x.2.1) (∃(B:Int),aJ (oM x) h z (eM A c.1 1) (bG B)/\bD (λC D=>aI (bF x.2.2.1.a C D) (0<=c.2) (c.2<aG x.2.2.1) (∃(E:Int),aJ (oM x) h C (eM D c.2 1) (bG E)/\branch (B !=E) (K aZ (oM x) h) (aA (dG c.1) (c.1<12) (∃(F:Bool),aJ (oM
 x) h (A5 x).1 (eM 0 c.1 1) (tI F)/\branch F (K aZ (oM x) h) (aA (dG c.2) (c.2<12) (∃(G:Bool),aJ (oM x) h (kA (A5 x)) (eM 0 c.2 1) (tI G)/\branch G (K aZ (oM x) h) (aA (dG c.1) (c.1<12) (pK (oM x) (A5 x).1 (eM 0 c.1 1) (mI xN) (λR=>aA (dG c.2) (c.2<12) (pK R (kA (A5 x)) (eM 0 c.2 1) (mI xN) (λS=>∃(d:Nat×Sl×Sl×Nat×Nat×MH),aA (I d) (g d<g x) (aA (aX x.2.1 d.2.1) (aX x.2.2.1 d.2.2.1) (aA (eU (A5 x).1 (A5 d).1) (eU (kA (A5 x)) (kA (A5 d))) (aA (aH n.q.on) (bI n.q.on) (cF (fJ (aW x.1 1)=bY d.1) S (oM d) h h)))))))))))))))))))))))))) (K fB (oM x) h)))))))
structure Arr(m:MH)(b:Nat)(seen:dd):Prop where
 ex:∃bs:ez,m b=some (.cells ⟨bs.map Value.bool⟩ 259 (0,0))/\bs.length=12/\∀k:Nat,k<12->(bs[k]? =some true↔(k:Int)∈seen)
theorem Arr.zero(h:m b=some (.cells ⟨[.bool false,.bool false,.bool false,.bool false,.bool false,.bool false,.bool false,.bool false,.bool false,.bool false,.bool false,.bool false]⟩ 259 (0,0))):Arr m b []:=
 ⟨⟨replicate 12 false,h,rfl,λk c=>bk⟩⟩
theorem Arr.look{c:dd}(x:Arr m b c){n:Int}(f:0<=n)(g:n<12):∃y:Bool,aJ m h b (0+n.toNat*1) [.bool y]/\(y=true↔n∈c):=by
 obtain⟨d,e,j,o⟩:=x.ex;have t:n.toNat<d.length:=by omega
 refine⟨d[n.toNat],.lent _ _ _ e ?_,?_⟩
 .simp only[Nat.zero_add,Nat.mul_one,cq,length_nil];rw[drop_eq_getElem_cons bk];simp
 grind
theorem Arr.store{c:dd}(x:Arr m b c){n:Int}(o:0<=n)(t:n<12):∃(cs:Array Value)(E:TypeId),CA m b (.cells cs E (0,0))/\0+n.toNat*1<cs.size/\∀m',gR m m' b (.cells ⟨splice cs.toList (0+n.toNat*1) [.bool true]⟩ E (0,0))->Arr m' b (c++[n]):=by
 obtain⟨d,e,u,y⟩:=x.ex;have f:n.toNat<d.length:=by omega
 refine⟨_,_,⟨e⟩,bk,λm' g=>⟨d.set n.toNat true,?_,bk,λk j=>?_⟩⟩
 .rw[g.at_];congr 3;simp only[splice,Nat.zero_add,Nat.mul_one,cq,length_nil];rw[set_eq_take_append_cons_drop,if_pos f];simp[map_take,map_drop]
 grind
theorem Arr.other{f:Nat}{d:dd}(x:Arr m b d)(g:b≠f)(t:∀c,c≠f->m' c=m c):Arr m' b d:=by
 obtain⟨j,e,n,o⟩:=x.ex;exact⟨j,bk,n,o⟩
theorem Bg.arg{n:NV}(x:Bg h s ps q ks n){j:Nat}{k:dd}(c:ks[j]? =some k):∃b o sl,n.args.a=some ⟨b,o,none⟩/\bA h b (o+j*1) [.slice sl.a sl.len sl.cap]/\Ints h sl k/\k.length<=12/\j<n.args.len:=by
 obtain⟨b,o,sl,e,r,d⟩:=x.ks_.at c;have:=(bt c);exact⟨b,o,sl,e,r,d,x.len k (bx c),by rw[x.ks_.slen];exact this⟩
theorem bPQ{n:NV}(c:K (aQ ⟨0,0,⟨0,0,eY,eY,⟨none,0,0⟩⟩,⟨none,0,0⟩,⟨none,0,0⟩,n.q.group,n.q.order,n.q.limit,⟨none,0,0⟩⟩) m h):RU n m h K:=c
theorem wW:cu 191 Dv:=by
 refine iB func191 ?_;rintro C m h K ⟨n,k,u,s,ps,q,ks,D,rfl,c,E,B⟩;refine⟨dD [(217,ckX)] [] [] [] false,rfl,aD YB aF,RW n k u m h K,be,?_⟩;dsimp only[RW,push_cast];have L:=c.ks_.slen;have F:=c.q_;have d:=c.q_;obtain⟨op,ta,w,co,on,gr,od,li,args⟩:=q;obtain⟨G,f,H,g,j,o,t,z,A⟩:=D;have x:=E.parts;have y:=F.parts;refine aB (λI=>⟨n.q,⟨n.q.op,u.table,u.where_,u.columns,u.on,u.group,u.order,u.limit,n.q.args⟩,_,.mk op f H g j o t z args,rfl,d,sL.rep ⟨y.op_,x.table_,x.where_,x.columns_,x.on_,x.group_,x.order_,x.limit_,y.args_⟩,λr J=>B r (J.trans ⟨λe=>⟨?_,e⟩,λe=>e.2⟩)⟩) (λI=>B false ⟨λe=>(by cases e),λe=>?_⟩)
 .grind
 grind
theorem PF:cu 194 Ql:=by
 refine iB func194 ?_;rintro c m h K ⟨n,s,ps,q,ks,rfl,e,d⟩;refine⟨dD [] [] [] [] false,rfl,aF,RU n m h K,be,?_⟩;exact bPQ d
theorem bOJ{n:NV}{op:Int}{on:di}{args:dl}(z:Bg h s ps (.mk op ta w co on gr od li args) ks n)(ha:ks[0]? =some a)(X:∀r:Bool,(r=true↔Cw a gr od li)->K (cB r) m h):HO n m h (oG h K):=by
 dsimp only[HO,push_cast];have x:=z.q_.parts;have gl:=x.group_.slen;have Y:=x.group_.len;have ol:=x.order_.slen;have Z:=x.order_.len;have el:=x.limit_;obtain⟨b0,o0,sl,e0,r0,L,a',a0⟩:=z.arg ha;have M:=L.slen;have u:∀f,Sub m f->¬Cw a gr od li->oG h K (.val (.bool false)) f h:=λf hm z=>.sub hm (X false ⟨λe=>(by cases e),λe=>(z e).elim⟩);refine⟨b0,o0,e0,aC,aC,sl,.imm aC,λb m1 hb D=>?_⟩;refine⟨λ⟨i,F,b',f⟩=>F=a.length/\b'=b/\i<=gr.length/\Sub m f/\Arr f b (gr.take i)/\gE (MB a) gr i,λ⟨i,_,_,_⟩=>gr.length-i,⟨(0,sl.len,b,m1),⟨M,rfl,aC,(Sub.refl m).upd hb.m_ D.other,.zero D.at_,.zero⟩,MT⟩,?_⟩;rintro⟨i,F,b,f⟩ ⟨rfl,rfl,hi,d,j,O⟩;dsimp only;refine aE (λo=>?_) (λG=>?_)
 .obtain⟨c,A⟩:=eO gl o;obtain⟨P,Q,R,S⟩:=x.group_.at' A;have t:¬MB a (gr.take i) c->oG h K (.val (.bool false)) f h:=λz=>u f d λg=>Good.not A z g.group_;refine⟨P,Q,R,aC,o,c,.imm S,aE (λH=>t λg=>?_) (λH=>aE (λC=>t λg=>?_) (λC=>?_))⟩
  .have:=nR.1 g.1;omega
  .have:=nR.1 g.1;omega
  obtain⟨y,hy,T⟩:=j.look (h:=h) (n:=c) aC aC;refine⟨aC,aC,y,hy,aB (λh3=>t λg=>g.2 (T.1 h3)) (λh3=>?_)⟩;obtain⟨cs,E,U,V,W⟩:=j.store (n:=c) aC aC;refine⟨aC,aC,cs,E,U,V,λm2 I=>⟨(i+1,a.length,b,m2),⟨rfl,rfl,aC,d.upd hb.m_ I.other,?_,O.succ A ⟨nR.2 ⟨aC,aC⟩,λe=>?_⟩⟩,aC,MT⟩⟩
  .have:=W m2 I
   rwa [cj,A]
  grind
 have gg:=O.all aC;refine⟨λ⟨i,F,f⟩=>F=a.length/\i<=od.length/\Sub m f/\gE (Qq a) od i,λ⟨i,_,_⟩=>od.length-i,⟨(0,a.length,f),⟨rfl,aC,d,.zero⟩,MT⟩,?_⟩;clear hi O G d j f;rintro⟨i,F,f⟩ ⟨rfl,hi,d,J⟩;dsimp only;refine aE (λo=>?_) (λG=>?_)
 .obtain⟨c,A⟩:=eO ol o;obtain⟨P,Q,R,S⟩:=x.order_.at A;have B:¬Qq a (od.take i) c->oG h K (.val (.bool false)) f h:=λz=>u f d λg=>Good.not A z g.order_;refine⟨P,Q,R,aC,o,c,.imm S,aE (λH=>B λg=>?_) (λH=>aE (λC=>B λg=>?_) (λC=>⟨(i+1,a.length,f),⟨rfl,aC,d,J.succ A (nR.2 ⟨aC,aC⟩)⟩,aC,MT⟩))⟩
  .have:=nR.1 (show Gt a c.1=true from g);omega
  .have:=nR.1 (show Gt a c.1=true from g);omega
 have oo:=J.all aC;rw[el];refine aE (λH=>aE (λC=>?_) (λC=>u f d λg=>?_)) (λH=>u f d λg=>?_)
 .exact .sub d (X (decide (li<=100)) ⟨λe=>⟨gg,oo,aC,C,br e⟩,λe=>decide_eq_true e.high⟩)
 .have:=g.low;omega
 .have:=g.len_;omega
theorem PE:cu 195 Qm:=by
 refine KC func195 ?_;rintro c m h K ⟨n,s,ps,q,ks,a,rfl,d,f,g⟩;refine⟨baZ n h,rfl,aF,HO n m h (oG h K),be,?_⟩;dsimp only[HO,push_cast];obtain⟨op,ta,w,co,on,gr,od,li,args⟩:=q;refine bOJ d f (λr j=>g r (j.trans ⟨λe=>⟨_,_,_,_,_,_,_,_,_,rfl,e⟩,?_⟩))
 grind
theorem XC{on:di}{sl:Sl}(c:lF h sl on):dR h (.mk 0 0 iO [] on [] [] 0 []) ⟨0,0,⟨0,0,eY,eY,⟨none,0,0⟩⟩,⟨none,0,0⟩,sl,⟨none,0,0⟩,⟨none,0,0⟩,0,⟨none,0,0⟩⟩:=
 sL.rep ⟨rfl,rfl,Eh h,⟨.nil _ _,bf⟩,c,⟨.nil _ _,bf⟩,⟨.nil _ _,bf⟩,rfl,.nil _ _ _ _⟩
theorem PG:cu 192 Qp:=by
 refine KC func192 ?_;rintro a8 m h K ⟨n,s,ps,q,ks,rfl,t,hK⟩;refine⟨bbQ n h,rfl,aD wW aF,HP n m h (oG h K),be,?_⟩;dsimp only[HP,push_cast];obtain⟨op,ta,w,co,on,gr,od,li,args⟩:=q;show HP n m h (oG h K);dsimp only[HP,push_cast];have x:=t.q_.parts;have ol:=x.on_.slen;have a6:=x.on_.len;have u:∀g,Sub m g->¬NC ks (.mk op ta w co on gr od li args)->oG h K (.val (.bool false)) g h:=λg U t=>.sub U (hK false ⟨λe=>(by cases e),λe=>(t e).elim⟩);refine⟨n,2,⟨0,0,⟨0,0,eY,eY,⟨none,0,0⟩⟩,⟨none,0,0⟩,n.q.on,⟨none,0,0⟩,⟨none,0,0⟩,0,⟨none,0,0⟩⟩,s,ps,_,ks,.mk 0 0 iO [] on [] [] 0 [],rfl,t,XC x.on_,λr hr=>aB (λh1=>u m (Sub.refl m) λf=>?_) (λh1=>?_)⟩
 .have:r=true:=hr.2 ⟨by have:=f.1;omega,by obtain⟨_,rfl,rfl,rfl,rfl,rfl,rfl,_⟩:=f;rfl⟩
  grind
 obtain⟨V,H⟩:=hr.1 bk;simp only[Query.withOf,Query.mk.injEq]at H;obtain⟨_,rfl,rfl,rfl,_,rfl,rfl,rfl,_⟩:=H
 obtain⟨F,G,rfl⟩:∃F G,ks=[F,G]:=by
  match ks,V with
  |[F,G],_=>grind
  |[],h=>simp at h
  |[_],h=>simp at h
  |_::_::_::_,h=>grind
 obtain⟨b0,o0,I,e0,r0,i0,l0,j0⟩:=t.arg (j:=0) rfl;obtain⟨b1,o1,J,e1,r1,i1,l1,j1⟩:=t.arg (j:=1) rfl;have a9:=i0.slen;have b4:=i1.slen;have u:∀g,Sub m g->¬Good (zA F G) on->oG h K (.val (.bool false)) g h:=λg U t=>u g U λf=>t f.2.2.2.2.2.2.2;refine⟨b0,o0,e0,aC,aC,I,.imm aC,b1,o1,e1,aC,aC,J,.imm aC,λb m1 hb A c m2 hc B=>?_⟩;have C:b≠c:=λe=>by have:=hc.m_;rw[<-e,A.at_]at this;cases this
 have L:Sub m m1:=(Sub.refl m).upd hb.m_ A.other;have M:m c=none:=L.free hc.m_
 refine⟨λ⟨i,s',t',b',c',g⟩=>s'=I/\t'=J/\b'=b/\c'=c/\i<=on.length/\Sub m g/\Arr g b ((on.take i).map Prod.fst)/\Arr g c ((on.take i).map Prod.snd)/\gE (zA F G) on i,λ⟨i,_,_,_,_,_⟩=>on.length-i,
  ⟨(0,I,J,b,c,m2),⟨rfl,rfl,rfl,rfl,aC,L.upd M B.other,(Arr.zero A.at_).other C B.other,.zero B.at_,.zero⟩,MT⟩,?_⟩
 rintro⟨i,I,J,b,c,g⟩ ⟨rfl,rfl,rfl,rfl,hi,o,hA,hB,hg⟩;dsimp only;refine aE (λO=>?_) (λb5=>.sub o (hK true ⟨λ_=>⟨rfl,rfl,rfl,rfl,rfl,rfl,rfl,hg.all aC⟩,λ_=>rfl⟩));obtain⟨p,P⟩:=eO ol O;obtain⟨bp,W,ep,rp⟩:=x.on_.at P;have d:¬zA F G (on.take i) p->oG h K (.val (.bool false)) g h:=λt=>u g o (Good.not P t);refine⟨bp,W,ep,aC,O,p,.imm rp,aC,aC,aC,aC,aE (λd1=>d λf=>?_) (λd1=>aE (λd2=>d λf=>?_) (λd2=>aE (λd3=>d λf=>?_) (λd3=>aE (λd4=>d λf=>?_) (λd4=>?_))))⟩
 .have:=nR.1 f.1;omega
 .have:=nR.1 f.1;omega
 .have:=nR.1 f.2.1;omega
 .have:=nR.1 f.2.1;omega
 obtain⟨b2,o2,e2,r2⟩:=i0.inb (n:=p.1) aC aC;obtain⟨b3,o3,e3,r3⟩:=i1.inb (n:=p.2) aC aC;obtain⟨y,hy,X⟩:=hA.look (h:=h) (n:=p.1) aC aC;obtain⟨z,hz,Y⟩:=hB.look (h:=h) (n:=p.2) aC aC;obtain⟨cs,E,Z,a',a2⟩:=hA.store (n:=p.1) aC aC;refine⟨b2,o2,e2,aC,aC,_,.imm r2,b3,o3,e3,aC,aC,_,.imm r3,aB (λd5=>d λf=>?_) (λd5=>⟨aC,aC,y,hy,aB (λd6=>d λf=>?_) (λd6=>⟨aC,aC,z,hz,aB (λd7=>d λf=>?_) (λd7=>⟨aC,aC,cs,E,Z,a',λm3 D=>?_⟩)⟩)⟩)⟩
 .rw[f.2.2.1]at d5;simp at d5
 .obtain⟨q,T,e⟩:=mem_map.1 (X.1 d6);exact(f.2.2.2 q T).1 e
 .obtain⟨q,T,e⟩:=mem_map.1 (Y.1 d7);exact(f.2.2.2 q T).2 e
 have a3:=a2 m3 D;have a4:=hB.other C.symm D.other;obtain⟨a5,E2,Q,R,a7⟩:=a4.store (n:=p.2) aC aC;refine⟨aC,aC,a5,E2,Q,R,λm4 S=>⟨(i+1,I,J,b,c,m4),⟨rfl,rfl,rfl,rfl,aC,(o.upd hb.m_ D.other).upd M S.other,?_,?_,hg.succ P ⟨nR.2 ⟨aC,aC⟩,nR.2 ⟨aC,aC⟩,bk,λq T=>⟨λe=>?_,λe=>?_⟩⟩⟩,aC,MT⟩⟩
 .rw[iE P];exact a3.other C S.other
 .rw[iE P];grind
 .grind
 .grind
def fin(r:dd×Int):dd×Int:=if r.2=0 then DK r.1 else kV r.2
def Query.op:Query->Int
 |.mk op .. =>op
noncomputable def rQ(s:j4)(ps:dd)(q:Query)(ks:List dd):dd×Int:=if(ks.length:Int)=arity q.op then kB s ps q (ks.getD 0 []) (ks.getD 1 [])else kV 100
def Bk(P:Int->Prop):Vc.Spec:=λc m h K=>∃n s ps q ks,c=[aN n]/\Bg h s ps q ks n/\mQ s/\P q.op/\∀r,fin r=rQ s ps q ks->KR K m h r
def cjQ(h:PH)(c:Sl)(ks:List dd):Prop:=bC h 1 eS (λk d=>Ints h d k) c ks
def Om:Vc.Spec:=λc m h K=>∃d ks,c=[cS d]/\cjQ h d ks/\ks.length<=10/\(∀k∈ks,k.length<=12)/\∀e h',PH.le h h'->Ints h' e ks.flatten->K (cS e) m h'
noncomputable def bcZ(n:NV)(m:MH)(h:PH):Ctx:=
 dD [(191,Dv)] [(5,{A:=Nat×dd,st:=λ⟨i,l⟩=>bU 57 58 [(1,.at (.ptr 1 0)),(4,.at (.lst 25)),(28,sv n.q.columns),(29,iv n.q.columns.len),(30,iv i)] [(1,.cells 206 (n.enc.map .val)),(25,.lst 3 1 (l.map eI))] m h})] [] [] false
noncomputable abbrev Ko(a:Value):cv:=bH a tE (bH tE tE (zM iT))
attribute [push_cast] Ko
def HW(n:NV)(m:MH)(h:PH)(K:dc):Prop:=
  CP n (fD n (fC n)) 0 (bH (cV 0) (cV n.q.table) (bH (cV 0) (cV 0) (lI (bH Cz (cV 0) (bH (cV 0) (cV 0) (bH (cV 0) Cz (Ko tE))))))) (λc k u=>cE (hZ c (fD c (fC c))) (fT k (eH u))) h (λk q d u r=>(gO r↔CU d k q u)->branch (!r) (K jP m h) (aY n.q.table 0 (K jP m h) (mE n.q.table (gY n.s) K jP m h (Am (cO (gL n.s) n.q.table) h (λs e=>rE K s m e)))))
def HV(n:NV)(m:MH)(h:PH)(K:dc):Prop:=
  CP n (fD n (fC n)) 1 (bH (cV 0) (cV 0) (bH (cV n.q.where_.op) (cV n.q.where_.cmp) (Gi (Gj n.q) (bH (zT (Gj n.q)) (cV (vQ n.q).kind) (A9 (vQ n.q) (Ko (eF n.q.where_.args))))))) (λd k u=>cE (hZ d (fD d (fC d))) (fT k (eH u))) h (λk q g u r=>(gO r↔CU g k q u)->branch (!r) (K jP m h) (dN n.args.a 0 n.args (λb o y=>aJ m h b (o+0) (aM y)/\GZ (cQ y (fP n.params (gX n.q.where_))) h (λc p e=>branch (jD c p e !=0) (K (sH (jD c p e)) m h) (dN n.args.a 0 n.args (λj t f=>aJ m h j (t+0) (aM f)/\rE K f m h))))))
def HU(n:NV)(m:MH)(h:PH)(K:dc):Prop:=
  CP n (fD n (fC n)) 1 (lI (lI (bH Cz (cV 0) (bH (cV 0) (cV 0) (bH (cV 0) Cz (bH tE (eF n.q.columns) (BQ (zM iT)))))))) (λd k u=>cE (hZ d (fD d (fC d))) (fT k (eH u))) h (λk q A u r=>(gO r↔CU A k q u)->branch (!r) (K jP m h) (branch (aG n.q.columns==0) (K jP m h) (aA (dG 0) (dG (aG n.q.columns)) (aA (Cg (aG n.q.columns*8)) (Cg (aG n.q.columns)) (∃(I:Nat×dd->Prop)(f:Nat×dd->Nat),(∃(x:Nat×dd),aA (I x) fR (aA (eL 25) (aH n.q.columns) (aA (bI n.q.columns) (bE x.1) (aA (Ez n) (uE (gI x.2)) (dP m m h h)))))/\∀(x:Nat×dd),I x->aY (↑x.1:Int) (aG n.q.columns) (bD (λb o=>aI (bF n.q.columns.a b o) (0<=(↑x.1:Int)) ((↑x.1:Int)<aG
 n.q.columns) (∃(y:Int),aJ m h b (bB o x.1 1) (bG y)/\aY y 0 (K jP m h) (dN n.args.a 0 n.args (λB C g=>aJ m h B (C+0) (aM g)/\mE y (aG g) K jP m h (dN n.args.a 0 n.args (λD E e=>aJ m h D (E+0) (aM e)/\bD (λj t=>aI (bF e.a j t) (0<=y) (y<aG e) (∃(z:Int),aI (aJ m h j (eM t y 1) (bG z)) (G4 (gI x.2)) (fN (gI x.2)) (∃(c:Nat×dd),aA (I c) (f c<f x) (aA fR (eL 25) (aA (aH n.q.columns) (bI n.q.columns) (aA (fJ (aW x.1 1)=bY c.1) (Ez n) (cF (uF (gI x.2) z (gI c.2)) m m h h)))))))))))))) (bQ h 1 (gI x.2) (λs F=>rE K s m F)))))))
noncomputable abbrev oK(a:Sl):du:=LA (mL a)
attribute [push_cast] oK
def HT(n:NV)(m:MH)(h:PH)(K:dc):Prop:=
  ∃(c:NV),Ev (λs p q k=>aA (eW (nS (hZ n (fD n (fC n)))) (nS (hZ c (fD c (fC c))))) (Bg h s p q k c) (∀(r:Bool),(gO r↔NC k q)->branch (!r) (K jP m h) (dN n.args.a 0 n.args (λb o y=>aJ m h b (o+0) (aM y)/\dN n.args.a 1 n.args (λg j e=>aI (aJ m h g (j+1) (aM e)) (bA h b (o+0) (aM y)) (bA h g (j+1) (aM e)) (bQ h 1 (aM y::fV (aM e)) (λB t=>∃(u:Sl)(d:List dd),aA (oK B=oK u) (cjQ t u d) (aA (d.length<=10) (∀(z:dd),List.Mem z d->z.length<=12) (lE (λA f=>cR t f (Ints f A d.flatten) (rE K A m f)))))))))))
def HS(n:NV)(m:MH)(h:PH)(K:dc):Prop:=
  ∃(c:NV),Ev (λs p q k=>aA (eW (nS (hZ n (fD n (fC n)))) (nS (hZ c (fD c (fC c))))) (Bg h s p q k c) (∀(r:Bool),(gO r↔NC k q)->branch (!r) (K jP m h) (dN n.args.a 0 n.args (λb o y=>aJ m h b (o+0) (aM y)/\rE K y m h))))
def Mc(n:NV)(m:MH)(h:PH)(K:dc):Prop:=
  CP n (fD n (fC n)) 2 zV (λc k u=>cE (hZ c (fD c (fC c))) (fT k (eH u))) h (λk q g u r=>(gO r↔CU g k q u)->branch (!r) (K jP m h) (dN n.args.a 0 n.args (λb o y=>aJ m h b (o+0) (aM y)/\dN n.args.a 1 n.args (λj t d=>aJ m h j (t+1) (aM d)/\EJ y d h (λa z e=>(gO e↔a=z)->branch (!e) (K jP m h) (dN n.args.a 0 n.args (λA B f=>aJ m h A (B+0) (aM f)/\rE K f m h)))))))
abbrev Lz(a:dd->dg->Prop):Prop:=∃(x:dd)(c:dg),a x c
attribute [push_cast] Lz
def HR(n:NV)(m:MH)(h:PH)(K:dc):Prop:=
  ∃(e:NV),Ev (λs p q k=>aA (eW (nS (hZ n (fD n (fC n)))) (nS (hZ e (fD e (fC e))))) (Bg h s p q k e) (CP n (fD n (fC n)) 1 (lI (lI (bH Cz (cV 0) (bH (cV 0) (cV 0) (bH (cV 0) Cz (NK e.q)))))) (λd f u=>cE (hZ d (fD d (fC d))) (fT f (eH u))) h (λf C D u r=>(gO r↔CU D f C u)->branch (!r) (K jP m h) (∃(d:NV),Ev (λE F j z=>∃(a:dd),aI (eW (nS (hZ n (fD n (fC n)))) (nS (hZ d (fD d (fC d))))) (Bg h E F j z d) (z[0]? =Option.some a) (∀(A:Bool),(gO A↔(∃(o t:Int)(w:Pred)(c:dd)(G:di),Lz (λg B=>∃(l:Int)(H:dl),j=Query.mk o t w c G g B l H/\Cw a g B l)))->branch (!A) (K jP m h)
 (dN n.args.a 0 n.args (λb o y=>aJ m h b (o+0) (aM y)/\rE K y m h))))))))
def HQ(n:NV)(m:MH)(h:PH)(K:dc):Prop:=
  ∃(e:NV),Ev (λs p q k=>aA (eW (nS (hZ n (fD n (fC n)))) (nS (hZ e (fD e (fC e))))) (Bg h s p q k e) (CP n (fD n (fC n)) 2 (lI (lI (bH Cz (cV 0) (bH (cV 0) (cV 0) (bH (cV 0) Cz (NK e.q)))))) (λd j u=>cE (hZ d (fD d (fC d))) (fT j (eH u))) h (λj J L u r=>(gO r↔CU L j J u)->branch (!r) (K jP m h) (dN n.args.a 0 n.args (λb o y=>aJ m h b (o+0) (aM y)/\dN n.args.a 1 n.args (λz A f=>aJ m h z (A+1) (aM f)/\EJ y f h (λa M C=>lA (gO C↔a=M) (!C) (aA (bA h b (o+0) (aM y)) (bA h z (A+1) (aM f)) (K jP m h)) (aA (bA h b (o+0) (aM y)) (bA h z (A+1) (aM f)) (∃(d:NV),Ev (λO P D E=>∃(F:dd),aI
 (eW (nS (hZ n (fD n (fC n)))) (nS (hZ d (fD d (fC d))))) (Bg h O P D E d) (E[0]? =Option.some F) (∀(G:Bool),(gO G↔(∃(B t:Int)(w:Pred)(c:dd)(Q:di),Lz (λg H=>∃(l:Int)(R:dl),D=Query.mk B t w c Q g H l R/\Cw F g H l)))->branch (!G) (K jP m h) (dN n.args.a 0 n.args (λS B I=>aJ m h S (B+0) (aM I)/\rE K I m h)))))))))))))
theorem bDQ{e:Int}(h:e≠0):fin (kV e)=kV e:=by unfold fin;rw[if_neg (by simpa[kV]using h)];rfl
theorem bCJ(l:dd):fin (l,0)=DK l:=by unfold fin;grind
structure Tst(K:dc)(m:MH)(h:PH)(full:dd×Int):Prop where
 all:∀r,fin r=full->KR K m h r
theorem Tst.err{f:dd×Int}{e:Int}(x:Tst K m h f)(d:f=kV e)(g:e≠0)(c:PH.le h h'):K (.tup [.val (.slice none 0 0),.val (.int .i64 e)]) m h':=
 (x.all (kV e) (by rw[d,bDQ g])).err c rfl
theorem Tst.ok{f:dd×Int}{sl:Sl}(x:Tst K m h f)(d:f=DK l)(c:PH.le h h')(e:Ints h' sl l):K (.tup [.val (.slice sl.a sl.len sl.cap),.val (.int .i64 0)]) m h':=
 x.all (l,0) (by rw[d,bCJ]) sl h' c e
theorem yV(h:¬((ks.length:Int)=arity q.op/\eT q)):rQ s ps q ks=kV 100:=by
 unfold rQ;by_cases c:(ks.length:Int)=arity q.op
 .rw[if_pos c];unfold kB;rw[if_pos (.inr λe=>h ⟨c,e⟩)]
 grind
theorem rZ{s:j4}{ps:dd}{op ta:Int}{w:Pred}{co:dd}{on:di}{gr:dd}{od:dg}{li:Int}{args:dl}{ks:List dd}(c:(ks.length:Int)=arity op)(d:eT (.mk op ta w co on gr od li args))(e:0<=arity op):
 rQ s ps (.mk op ta w co on gr od li args) ks=kB s ps (.mk op ta w co on gr od li args) (ks.getD 0 []) (ks.getD 1 [])/\¬(arity op<0\/¬eT (.mk op ta w co on gr od li args)):=by
 unfold rQ;rw[if_pos (show(ks.length:Int)=arity (Query.op (.mk op ta w co on gr od li args))from c)]
 grind
section
variable{n:NV}{s:j4}{ps:dd}{ta:Int}{w:Pred}{co:dd}{on:di}{gr:dd}{od:dg}{li:Int}{args:dl}{ks:List dd}{m:MH}{h:PH}{K:dc}
theorem XS(c:(ks.length:Int)=1):∃a,ks=[a]:=by
 match ks,c with
 |[a],_=>grind
 |[],h=>simp at h
 |_::_::_,h=>grind
theorem Tj(c:(ks.length:Int)=2):∃a b,ks=[a,b]:=by
 match ks,c with
 |[a,b],_=>grind
 |[],h=>simp at h
 |[_],h=>simp at h
 |_::_::_::_,h=>grind
theorem bRZ(f:Bg h s ps (.mk 1 ta w co on gr od li args) ks n)(u:mQ s)(c:Tst K m h (rQ s ps (.mk 1 ta w co on gr od li args) ks)):HW n m h K:=by
 dsimp only[HW,push_cast];have x:=f.q_.parts;have j:=x.table_;have y:=f.s_.tables.slen;refine⟨n,0,⟨0,n.q.table,⟨0,0,eY,eY,⟨none,0,0⟩⟩,⟨none,0,0⟩,⟨none,0,0⟩,⟨none,0,0⟩,⟨none,0,0⟩,0,⟨none,0,0⟩⟩,s,ps,_,ks,.mk 0 ta iO [] [] [] [] 0 [],rfl,f,sL.rep ⟨rfl,j,Eh h,⟨.nil _ _,bf⟩,⟨.nil _ _,bf⟩,⟨.nil _ _,bf⟩,⟨.nil _ _,bf⟩,rfl,.nil _ _ _ _⟩,λr o=>aB (λz=>c.err (yV λe=>?_) aC (.refl _)) (λz=>?_)⟩
 .have:r=true:=o.2 ⟨e.1,by have:=e.2;simp[eT]at this;obtain⟨rfl,rfl,rfl,rfl,rfl,rfl⟩:=this;rfl⟩
  grind
 obtain⟨A,d⟩:=o.1 bk;simp only[Query.withOf,Query.mk.injEq]at d;obtain⟨_,_,rfl,rfl,rfl,rfl,rfl,rfl,_⟩:=d;obtain⟨B,C⟩:=rZ (s:=s) (ps:=ps) (op:=1) (ta:=ta) (w:=iO) (co:=[]) (on:=[]) (gr:=[]) (od:=[]) (li:=0) (args:=args) (ks:=ks) A (by simp[eT]) bg;rw[B]at c;unfold kB at c;rw[if_neg C]at c;dsimp only at c;rw[if_pos rfl]at c;refine aE (λD=>c.err (if_neg aC) aC (.refl _)) (λD=>aE (λE=>c.err (if_neg aC) aC (.refl _)) (λE=>⟨n.s,s,n.q.table,rfl,f.s_,u,λy h' g t=>?_⟩));rw[j]at t;exact c.ok (if_pos aC) g t
theorem bRX(f:Bg h s ps (.mk 2 ta w co on gr od li args) ks n)(c:Tst K m h (rQ s ps (.mk 2 ta w co on gr od li args) ks)):HV n m h K:=by
 dsimp only[HV,push_cast];have x:=f.q_.parts;refine⟨n,1,⟨0,0,n.q.where_,⟨none,0,0⟩,⟨none,0,0⟩,⟨none,0,0⟩,⟨none,0,0⟩,0,⟨none,0,0⟩⟩,s,ps,_,ks,.mk 0 0 w [] [] [] [] 0 [],rfl,f,sL.rep ⟨rfl,rfl,x.where_,⟨.nil _ _,bf⟩,⟨.nil _ _,bf⟩,⟨.nil _ _,bf⟩,⟨.nil _ _,bf⟩,rfl,.nil _ _ _ _⟩,λr o=>aB (λB=>c.err (yV λe=>?_) aC (.refl _)) (λB=>?_)⟩
 .have:r=true:=o.2 ⟨e.1,by have:=e.2;simp[eT]at this;obtain⟨rfl,rfl,rfl,rfl,rfl,rfl⟩:=this;rfl⟩
  grind
 obtain⟨t,d⟩:=o.1 bk;simp only[Query.withOf,Query.mk.injEq]at d;obtain⟨_,rfl,_,rfl,rfl,rfl,rfl,rfl,_⟩:=d;obtain⟨C,D⟩:=rZ (s:=s) (ps:=ps) (op:=2) (ta:=0) (w:=w) (co:=[]) (on:=[]) (gr:=[]) (od:=[]) (li:=0) (args:=args) (ks:=ks) t (by simp[eT]) bg;rw[C]at c;unfold kB at c;rw[if_neg D]at c;dsimp only at c;rw[if_neg bg,if_pos rfl]at c;obtain⟨a,rfl⟩:=XS t;obtain⟨u,y,g,z,F,A,G,H⟩:=f.arg (j:=0) rfl;simp only[getD_cons_zero]at c;refine⟨u,y,z,aC,aC,g,.imm aC,g,n.params,n.q.where_,a,ps,w,rfl,A,f.ps_,x.where_,aB (λE=>c.err (if_neg bk) bk (.refl _)) (λE=>⟨u,y,z,aC,aC,g,.imm aC,c.ok (if_pos bk) (.refl _) A⟩)⟩
theorem bQZ(t:Bg h s ps (.mk 5 ta w co on gr od li args) ks n)(d:Tst K m h (rQ s ps (.mk 5 ta w co on gr od li args) ks)):HS n m h K:=by
 dsimp only[HS,push_cast];refine⟨n,s,ps,_,ks,rfl,t,λr u=>aB (λy=>d.err ?_ aC (.refl _)) (λy=>?_)⟩
 .by_cases f:((ks.length:Int)=arity 5/\eT (.mk 5 ta w co on gr od li args))
  .obtain⟨g,o⟩:=rZ (s:=s) (ps:=ps) f.1 f.2 bg;rw[g];unfold kB;rw[if_neg o];dsimp only;rw[if_neg bg,if_neg bg,if_neg bg,if_neg bg,if_pos rfl,if_neg];intro c;have e:=f.2;simp[eT]at e;have:r=true:=u.2 ⟨by have:=f.1;simp[arity]at this;omega,e.1,e.2.1,e.2.2.1,e.2.2.2.1,e.2.2.2.2.1,e.2.2.2.2.2,c⟩
   grind
  .exact yV f
 obtain⟨z,rfl,rfl,rfl,rfl,rfl,rfl,c⟩:=u.1 bk;obtain⟨g,o⟩:=rZ (s:=s) (ps:=ps) (op:=5) (ta:=0) (w:=iO) (co:=[]) (on:=on) (gr:=[]) (od:=[]) (li:=0) (args:=args) (ks:=ks) (by rw[z];rfl) (by simp[eT]) bg;rw[g]at d;unfold kB at d;rw[if_neg o]at d;dsimp only at d;rw[if_neg bg,if_neg bg,if_neg bg,if_neg bg,if_pos rfl,if_pos c]at d;obtain⟨a,b,rfl⟩:=Tj (ks:=ks) aC;obtain⟨A,B,C,D,F,E,G,H⟩:=t.arg (j:=0) rfl;exact⟨A,B,D,aC,aC,C,.imm aC,d.ok rfl (.refl _) E⟩
theorem bQJ(y:Bg h s ps (.mk 4 ta w co on gr od li args) ks n)(f:Tst K m h (rQ s ps (.mk 4 ta w co on gr od li args) ks)):HT n m h K:=by
 dsimp only[HT,push_cast];refine⟨n,s,ps,_,ks,rfl,y,λr D=>aB (λE=>f.err ?_ aC (.refl _)) (λE=>?_)⟩
 .by_cases o:((ks.length:Int)=arity 4/\eT (.mk 4 ta w co on gr od li args))
  .obtain⟨z,A⟩:=rZ (s:=s) (ps:=ps) o.1 o.2 bg;rw[z];unfold kB;rw[if_neg A];dsimp only;rw[if_neg bg,if_neg bg,if_neg bg,if_pos rfl,if_neg];intro c;have e:=o.2;simp[eT]at e;have:r=true:=D.2 ⟨by have:=o.1;simp[arity]at this;omega,e.1,e.2.1,e.2.2.1,e.2.2.2.1,e.2.2.2.2.1,e.2.2.2.2.2,c⟩
   grind
  .exact yV o
 obtain⟨d,rfl,rfl,rfl,rfl,rfl,rfl,c⟩:=D.1 bk;obtain⟨z,A⟩:=rZ (s:=s) (ps:=ps) (op:=4) (ta:=0) (w:=iO) (co:=[]) (on:=on) (gr:=[]) (od:=[]) (li:=0) (args:=args) (ks:=ks) (by rw[d];rfl) (by simp[eT]) bg;rw[z]at f;unfold kB at f;rw[if_neg A]at f;dsimp only at f;rw[if_neg bg,if_neg bg,if_neg bg,if_pos rfl,if_pos c]at f;obtain⟨a,b,rfl⟩:=Tj (ks:=ks) aC;obtain⟨F,G,B,H,S,I,T,U⟩:=y.arg (j:=0) rfl;obtain⟨J,L,C,M,V,O,W,X⟩:=y.arg (j:=1) rfl;refine⟨F,G,H,aC,aC,B,.imm aC,J,L,M,aC,aC,C,.imm aC,aC,aC,λP h' g t=>⟨P,[a,b],rfl,⟨⟨[B,C],t,rfl,λj k d=>?_⟩,bf⟩,bf,λk d=>y.len k d,λQ e u R=>f.ok (l:=a++b) bf (g.trans u) bk⟩⟩
 match j,d with
 |0,d=>simp at d;subst d;exact⟨B,rfl,I.mono g⟩
 |1,d=>simp at d;subst d;exact⟨C,rfl,O.mono g⟩
 |_+2,d=>simp at d
theorem bQX{op:Int}(t:op=6\/op=7\/op=8)(o:Bg h s ps (.mk op ta w co on gr od li args) ks n)(d:Tst K m h (rQ s ps (.mk op ta w co on gr od li args) ks)):Mc n m h K:=by
 dsimp only[Mc,push_cast];have x:=o.q_.parts;have P:arity op=2:=by rcases t with rfl|rfl|rfl<;>rfl
 have c:op≠1/\op≠2/\op≠3/\op≠4/\op≠5/\op≠9/\op≠10:=by omega
 refine⟨n,2,⟨0,0,⟨0,0,eY,eY,⟨none,0,0⟩⟩,⟨none,0,0⟩,⟨none,0,0⟩,⟨none,0,0⟩,⟨none,0,0⟩,0,⟨none,0,0⟩⟩,s,ps,_,ks,.mk 0 0 iO [] [] [] [] 0 [],rfl,o,sL.rep ⟨rfl,rfl,Eh h,⟨.nil _ _,bf⟩,⟨.nil _ _,bf⟩,⟨.nil _ _,bf⟩,⟨.nil _ _,bf⟩,rfl,.nil _ _ _ _⟩,λr z=>aB (λG=>d.err (yV λe=>?_) aC (.refl _)) (λG=>?_)⟩
 .have A:(ks.length:Int)=arity op:=e.1;have:r=true:=z.2 ⟨aC,by have:=e.2;simp[eT,c]at this;obtain⟨rfl,rfl,rfl,rfl,rfl,rfl,rfl⟩:=this;rfl⟩
  grind
 obtain⟨H,f⟩:=z.1 bk;simp only[Query.withOf,Query.mk.injEq]at f;obtain⟨_,rfl,rfl,rfl,rfl,rfl,rfl,rfl,_⟩:=f;obtain⟨I,J⟩:=rZ (s:=s) (ps:=ps) (op:=op) (ta:=0) (w:=iO) (co:=[]) (on:=[]) (gr:=[]) (od:=[]) (li:=0) (args:=args) (ks:=ks) aC (by simp[eT]) aC;rw[I]at d;unfold kB at d;rw[if_neg J]at d;dsimp only at d;rw[if_neg c.1,if_neg c.2.1,if_neg c.2.2.1,if_neg c.2.2.2.1,if_neg c.2.2.2.2.1,if_neg c.2.2.2.2.2.1,if_neg c.2.2.2.2.2.2]at d;obtain⟨a,b,rfl⟩:=Tj H;obtain⟨B,C,u,D,Q,E,R,S⟩:=o.arg (j:=0) rfl;obtain⟨L,M,F,A,T,O,U,V⟩:=o.arg (j:=1) rfl;refine⟨B,C,D,aC,aC,u,.imm aC,L,M,A,aC,aC,F,.imm aC,u,F,a,b,rfl,E,O,λW g=>aB (λy=>d.err (if_neg λe=>?_) aC (.refl _)) (λy=>⟨B,C,D,aC,aC,u,.imm aC,d.ok (if_pos (g.1 bk)) (.refl _) E⟩)⟩;have e:a=b:=e;rw[g.2 e]at y;cases y
theorem bRQ(z:Bg h s ps (.mk 3 ta w co on gr od li args) ks n)(d:Tst K m h (rQ s ps (.mk 3 ta w co on gr od li args) ks)):HU n m h K:=by
 dsimp only[HU,push_cast];have x:=z.q_.parts;have E:=x.columns_.slen;have F:=x.columns_.len;refine⟨n,1,⟨0,0,⟨0,0,eY,eY,⟨none,0,0⟩⟩,n.q.columns,⟨none,0,0⟩,⟨none,0,0⟩,⟨none,0,0⟩,0,⟨none,0,0⟩⟩,s,ps,_,ks,.mk 0 0 iO co [] [] [] 0 [],rfl,z,sL.rep ⟨rfl,rfl,Eh h,x.columns_,⟨.nil _ _,bf⟩,⟨.nil _ _,bf⟩,⟨.nil _ _,bf⟩,rfl,.nil _ _ _ _⟩,λr G=>aB (λQ=>d.err (yV λe=>?_) aC (.refl _)) (λQ=>?_)⟩
 .have:r=true:=G.2 ⟨e.1,by have:=e.2;simp[eT]at this;obtain⟨rfl,rfl,rfl,rfl,rfl,rfl⟩:=this;rfl⟩
  grind
 obtain⟨H,o⟩:=G.1 bk;simp only[Query.withOf,Query.mk.injEq]at o;obtain⟨_,rfl,rfl,_,rfl,rfl,rfl,rfl,_⟩:=o;obtain⟨R,S⟩:=rZ (s:=s) (ps:=ps) (op:=3) (ta:=0) (w:=iO) (co:=co) (on:=[]) (gr:=[]) (od:=[]) (li:=0) (args:=args) (ks:=ks) H (by simp[eT]) bg;rw[R]at d;unfold kB at d;rw[if_neg S]at d;dsimp only at d;rw[if_neg bg,if_neg bg,if_pos rfl]at d;obtain⟨a,rfl⟩:=XS H;obtain⟨I,J,L,M,r0,O,l0,j0⟩:=z.arg (j:=0) rfl;have T:=O.slen;simp only[getD_cons_zero]at d;refine aB (λP=>d.err (if_neg λe=>e.1 ((Kx E).1 P)) aC (.refl _)) (λP=>?_);have A:co≠[]:=λe=>bk
 refine⟨aC,aC,aC,aC,λ⟨i,l⟩=>i<=co.length/\l=(co.take i).map (λc=>a.getD c.toNat 0)/\gE (λ_ c=>Gt a c=true) co i,λ⟨i,_⟩=>co.length-i,⟨(0,[]),⟨aC,bf,.zero⟩,MT⟩,?_⟩;rintro⟨i,_⟩ ⟨hi,rfl,t⟩;dsimp only;refine aE (λu=>?_) (λU sl h' B f=>?_)
 .obtain⟨c,y⟩:=eO E u;obtain⟨V,W,C,X⟩:=x.columns_.at' y;have g:¬Gt a c=true->K (.tup [.val (.slice none 0 0),.val (.int .i64 100)]) m h:=λY=>d.err (if_neg λe=>Y (e.2 i c y)) aC (.refl _);refine⟨V,W,C,aC,u,c,.imm X,aE (λZ=>g λe=>?_) (λZ=>⟨I,J,M,aC,aC,L,.imm aC,aE (λd3=>g λe=>?_) (λd3=>?_)⟩)⟩
  .have:=nR.1 e;omega
  .have:=nR.1 e;omega
  obtain⟨b2,o2,D,r2⟩:=O.inb (n:=c) aC aC;refine⟨I,J,M,aC,aC,L,.imm aC,b2,o2,D,aC,aC,_,.imm r2,?_,?_,(i+1,(co.take (i+1)).map (λc=>a.getD c.toNat 0)),⟨aC,rfl,t.succ y (nR.2 ⟨aC,aC⟩)⟩,aC,?_⟩
  .simp;omega
  .simp;omega
  .rw[iE y,cd];exact MT
 .rw[ca aC]at f;exact d.ok (if_pos ⟨A,t.all aC⟩) B ⟨f,bj⟩
theorem bQQ(d:Bg h s ps (.mk 9 ta w co on gr od li args) ks n)(c:Tst K m h (rQ s ps (.mk 9 ta w co on gr od li args) ks)):HR n m h K:=by
 dsimp only[HR,push_cast];have x:=d.q_.parts;refine⟨n,s,ps,_,ks,rfl,d,n,1,⟨0,0,⟨0,0,eY,eY,⟨none,0,0⟩⟩,⟨none,0,0⟩,⟨none,0,0⟩,n.q.group,n.q.order,n.q.limit,⟨none,0,0⟩⟩,s,ps,_,ks,.mk 0 0 iO [] [] gr od li [],rfl,d,sL.rep ⟨rfl,rfl,Eh h,⟨.nil _ _,bf⟩,⟨.nil _ _,bf⟩,x.group_,x.order_,x.limit_,.nil _ _ _ _⟩,λr g=>aB (λt=>c.err (yV λe=>?_) aC (.refl _)) (λt=>?_)⟩
 .have:r=true:=g.2 ⟨e.1,by have:=e.2;simp[eT]at this;obtain⟨rfl,rfl,rfl,rfl⟩:=this;rfl⟩
  grind
 obtain⟨o,f⟩:=g.1 bk;simp only[Query.withOf,Query.mk.injEq]at f;obtain⟨_,rfl,rfl,rfl,rfl,_,_,_,_⟩:=f;obtain⟨u,y⟩:=rZ (s:=s) (ps:=ps) (op:=9) (ta:=0) (w:=iO) (co:=[]) (on:=[]) (gr:=gr) (od:=od) (li:=li) (args:=args) (ks:=ks) o (by simp[eT]) bg;rw[u]at c;unfold kB at c;rw[if_neg y]at c;dsimp only at c;rw[if_neg bg,if_neg bg,if_neg bg,if_neg bg,if_neg bg,if_pos rfl]at c;obtain⟨a,rfl⟩:=XS o;obtain⟨z,A,B,C,G,D,H,I⟩:=d.arg (j:=0) rfl;refine⟨n,s,ps,_,[a],a,rfl,d,rfl,λJ E=>aB (λF=>c.err (if_neg λe=>?_) aC (.refl _)) (λF=>⟨z,A,C,aC,aC,B,.imm aC,c.ok (if_pos ?_) (.refl _) D⟩)⟩
 .grind
 grind
theorem bPZ(d:Bg h s ps (.mk 10 ta w co on gr od li args) ks n)(c:Tst K m h (rQ s ps (.mk 10 ta w co on gr od li args) ks)):HQ n m h K:=by
 dsimp only[HQ,push_cast];have x:=d.q_.parts;refine⟨n,s,ps,_,ks,rfl,d,n,2,⟨0,0,⟨0,0,eY,eY,⟨none,0,0⟩⟩,⟨none,0,0⟩,⟨none,0,0⟩,n.q.group,n.q.order,n.q.limit,⟨none,0,0⟩⟩,s,ps,_,ks,.mk 0 0 iO [] [] gr od li [],rfl,d,sL.rep ⟨rfl,rfl,Eh h,⟨.nil _ _,bf⟩,⟨.nil _ _,bf⟩,x.group_,x.order_,x.limit_,.nil _ _ _ _⟩,λr t=>aB (λD=>c.err (yV λe=>?_) aC (.refl _)) (λD=>?_)⟩
 .have:r=true:=t.2 ⟨e.1,by have:=e.2;simp[eT]at this;obtain⟨rfl,rfl,rfl,rfl⟩:=this;rfl⟩
  grind
 obtain⟨u,f⟩:=t.1 bk;simp only[Query.withOf,Query.mk.injEq]at f;obtain⟨_,rfl,rfl,rfl,rfl,_,_,_,_⟩:=f;obtain⟨E,F⟩:=rZ (s:=s) (ps:=ps) (op:=10) (ta:=0) (w:=iO) (co:=[]) (on:=[]) (gr:=gr) (od:=od) (li:=li) (args:=args) (ks:=ks) u (by simp[eT]) bg;rw[E]at c;unfold kB at c;rw[if_neg F]at c;dsimp only at c;rw[if_neg bg,if_neg bg,if_neg bg,if_neg bg,if_neg bg,if_neg bg,if_pos rfl]at c;obtain⟨a,b,rfl⟩:=Tj u;obtain⟨y,z,g,A,P,B,Q,R⟩:=d.arg (j:=0) rfl;obtain⟨G,H,C,I,S,J,T,U⟩:=d.arg (j:=1) rfl;refine⟨y,z,A,aC,aC,g,.imm aC,G,H,I,aC,aC,C,.imm aC,g,C,a,b,rfl,B,J,λV o=>aB (λL=>⟨aC,aC,c.err (if_neg λe=>?_) aC (.refl _)⟩) (λL=>⟨aC,aC,n,s,ps,_,[a,b],a,rfl,d,rfl,λW M=>aB (λO=>c.err (if_neg λe=>?_) aC (.refl _)) (λO=>⟨y,z,A,aC,aC,g,.imm aC,c.ok (if_pos ⟨o.1 bk,?_⟩) (.refl _) B⟩)⟩)⟩
 .grind
 .grind
 .grind
end
def fv(f:Nat):CV:=.val (.func (.func f) #[] #[])
def SZ:Vc.Spec:=λc m h K=>∃op,c=[cI op]/\
 branch (op==1) (K (fv 163) m h) (branch (op==2) (K (fv 164) m h) (branch (op==3) (K (fv 165) m h) (branch (op==4) (K (fv 166) m h) (branch (op==5) (K (fv 167) m h) (branch (op==6) (K (fv 168) m h) (branch (op==7) (K (fv 168) m h) (branch (op==8) (K (fv 168) m h) (branch (op==9) (K (fv 169) m h) (branch (op==10) (K (fv 170) m h) (K (.val .nilFunc) m h))))))))))
noncomputable def biX(N:Nat)(sc:bJ)(p:Sl)(v:QV)(m:MH):Ctx:=
 dD [(112,BW N),(149,SZ),(163,Bk (· =1)),(164,Bk (· =2)),(165,Bk (· =3)),(166,Bk (· =4)),(167,Bk (· =5)),(168,Bk (λop=>op=6\/op=7\/op=8)),(169,Bk (· =9)),(170,Bk (· =10))] [(3,{A:=Nat×dk×PH,st:=λ⟨i,c,h⟩=>bU 62 65 [(1,sv p),(3,.at (.ptr 3 0)),(5,.at (.ptr 5 0)),(8,.at (.ptr 8 0)),(21,sv v.args),(22,iv v.args.len),(23,iv i)] [(3,.cells 29 (sc.enc.map .val)),(5,.cells 68 (v.enc.map .val)),(8,.cells 206 ((sc.enc++eS p++v.enc).map .val++[.lst 41])),(41,.lst 31 1 (c.map eS))] m h})] [] [] false
abbrev GR(a:MH)(b:Nat->Nat->Option Value)(c:cv)(d e:Nat)(g:(Array Value)->cv)(i:Nat->MH->Prop):Prop:=∀(x:Nat)(f:MH),aR (dL a b x) (cL a f x c d) (mH (λj o=>aA (CA f x (jI j o 0)) (e<=j.size) (∀(t:MH),cL f t x (g j) o->i x t)))
noncomputable abbrev N6:cv:=mI Value.nilFunc
noncomputable abbrev oJ(a:Nat):Value:=Value.func (Fn.func a) uX uX
noncomputable abbrev Kn:CV:=CV.val Value.nilFunc
attribute [push_cast] GR N6 oJ Kn
def Mf(op:Int)(m:MH)(h:PH)(K:dc):Prop:=
  GR m h (bH Value.nilFunc Value.nilFunc (bH Value.nilFunc Value.nilFunc (bH Value.nilFunc Value.nilFunc (bH Value.nilFunc Value.nilFunc (bH Value.nilFunc Value.nilFunc N6))))) 228 11 (λc=>bH Value.nilFunc (oJ 163) (bH (oJ 164) (oJ 165) (bH (oJ 166) (oJ 167) (bH (oJ 168) (oJ 168) (bH (oJ 168) (oJ 169) (jJ (oJ 170) 11 c)))))) (λb d=>aY op 0 (K Kn d h) (mE op 11 K Kn d h (aA (dG op) (op<11) (∃(y:Option Nat),aJ d h b (eM 0 op 1) (mI (blX y))/\K (CV.val (blX y)) d h))))
abbrev xT(a:Nat×dk×PH)(b:bJ)(c:Sl)(d:QV)(e:Sl->cv)(g:NV->cv)(i:Query->Prop)(j:j4->dd->Query->(List dd)->(dd×Int)->Prop)(k:PH->(dd×Int)->Prop):Prop:=bQ (oC a) 1 (xM a) (λx t=>∃(u:NV),Ev (λf y o z=>aA (LA (nS (bH (cV b.version) (eF b.tables) (bH (eF c) (cV d.op) (e x))))=LA (nS (g u))) (Bg t f y o z u) (aA (mQ f) (i o) (∀(A:dd×Int),j f y o z A->k t A))))
noncomputable abbrev wF(a:QV)(b:cv):cv:=bH (cV a.table) (cV a.where_.op) (bH (cV a.where_.cmp) (cV (Gj a).kind) (A9 (Gj a) (Gi (vQ a) b)))
abbrev xS(a:PH)(b:dd×Int)(c:dc)(d:MH):Prop:=lE (λx e=>cR a e (Ints e x b.1) (branch (b.2 !=0) (c (sH b.2) d e) (iG (aG x) 12 c (sH 2) d e (rE c x d e))))
attribute [push_cast] xT wF xS
def Sx(N:Nat)(sc:bJ)(p:Sl)(v:QV)(m:MH)(h:PH)(K:dc):Prop:=
  ∃(I:Nat×dk×PH->Prop)(f:Nat×dk×PH->Nat),(∃(x:Nat×dk×PH),aA (I x) (aH p) (aA (eP 3) bS (aA dC (aH v.args) (aA (uT v) (bE x.1) (aA (aU sc) (fE v) (aA (eQ (oQ 206 (cG (iN sc.version) (fY sc.tables) (cG (fY p) (iN v.op) (wT v::yK v (zO v) (fY v.on) (cG (iN v.limit) (fY v.args) (rN (At.lst 41)))))))) (pE 31 1 (xM x)) (dP m m h (oC x))))))))/\∀(x:Nat×dk×PH),I x->aY (↑x.1:Int) (aG v.args) (bD (λb o=>aI (bF v.args.a b o) (0<=(↑x.1:Int)) ((↑x.1:Int)<aG v.args) (∃(y:QV),aJ m (oC x) b (bB o x.1 21) y.enc/\JF sc p y (oC x) (λj s d q=>aA (dR (oC x) q j) (sD q N) (lE (λg c=>cR (oC x) c (Ints c g (cJ s d q).1) (branch ((cJ s d q).2 !=0) (K (CV.tup
 (qS CE (CV.val (cV (cJ s d q).2)))) m c) (kX (xM x) 24 (∃(e:Nat×dk×PH),aA (I e) (f e<f x) (aA (aH p) fW (aA bS dC (aA (aH v.args) (uT v) (aA (fJ (aW x.1 1)=bY e.1) (aU sc) (aA (fE v) (eQ (oQ 206 (cG (iN sc.version) (fY sc.tables) (cG (fY p) (iN v.op) (wT v::yK v (zO v) (fY v.on) (cG (iN v.limit) (fY v.args) (rN (At.lst 41)))))))) (cF (Option.some (Own.lst 31 1 (eK (xM x) (aM g)))=Option.some (Own.lst 31 1 (xM e))) m m c (oC e)))))))))))))))) (∃(o:Int),eN v.op o/\bK o 1 (xT x sc p v (λs=>wF v (xP (vQ v) v v.on (bH (cV v.limit) (eF v.args) (aM s)))) (λn=>hZ n (fD n (fC n))) (λq=>q.op=1) (λs d q k r=>fin r=rQ s d q k) (λc r=>xS c r K m)) (bK o 2
 (xT x sc p v (λs=>wF v (xP (vQ v) v v.on (bH (cV v.limit) (eF v.args) (aM s)))) (λn=>hZ n (fD n (fC n))) (λq=>q.op=2) (λs d q k r=>fin r=rQ s d q k) (λc r=>xS c r K m)) (bK o 3 (xT x sc p v (λs=>wF v (xP (vQ v) v v.on (bH (cV v.limit) (eF v.args) (aM s)))) (λn=>hZ n (fD n (fC n))) (λq=>q.op=3) (λs d q k r=>fin r=rQ s d q k) (λc r=>xS c r K m)) (bK o 4 (xT x sc p v (λs=>wF v (xP (vQ v) v v.on (bH (cV v.limit) (eF v.args) (aM s)))) (λn=>hZ n (fD n (fC n))) (λq=>q.op=4) (λs d q k r=>fin r=rQ s d q k) (λc r=>xS c r K m)) (bK o 5 (xT x sc p v (λs=>wF v (xP (vQ v) v v.on (bH (cV v.limit) (eF v.args) (aM s)))) (λn
 =>hZ n (fD n (fC n))) (λq=>q.op=5) (λs d q k r=>fin r=rQ s d q k) (λc r=>xS c r K m)) (bK o 6 (xT x sc p v (λs=>wF v (xP (vQ v) v v.on (bH (cV v.limit) (eF v.args) (aM s)))) (λn=>hZ n (fD n (fC n))) (λq=>q.op=6\/q.op=7\/q.op=8) (λs d q k r=>fin r=rQ s d q k) (λc r=>xS c r K m)) (bK o 7 (xT x sc p v (λs=>wF v (xP (vQ v) v v.on (bH (cV v.limit) (eF v.args) (aM s)))) (λn=>hZ n (fD n (fC n))) (λq=>q.op=6\/q.op=7\/q.op=8) (λs d q k r=>fin r=rQ s d q k) (λc r=>xS c r K m)) (bK o 8 (xT x sc p v (λs=>wF v (xP (vQ v) v v.on (bH (cV v.limit) (eF v.args) (aM s)))) (λn=>hZ n (fD n (fC n))) (λq=>q.op=6\/q.op=7\/
 q.op=8) (λs d q k r=>fin r=rQ s d q k) (λc r=>xS c r K m)) (bK o 9 (xT x sc p v (λs=>wF v (xP (vQ v) v v.on (bH (cV v.limit) (eF v.args) (aM s)))) (λn=>hZ n (fD n (fC n))) (λq=>q.op=9) (λs d q k r=>fin r=rQ s d q k) (λc r=>xS c r K m)) (bK o 10 (xT x sc p v (λs=>wF v (xP (vQ v) v v.on (bH (cV v.limit) (eF v.args) (aM s)))) (λn=>hZ n (fD n (fC n))) (λq=>q.op=10) (λs d q k r=>fin r=rQ s d q k) (λc r=>xS c r K m)) (K jP m (oC x))))))))))))
theorem Zg:cu 149 SZ:=by
 refine KC func149 ?_;rintro u m h K ⟨op,rfl,f⟩;refine⟨rT [] [] [] [] [228] [] false,rfl,aF,Mf op m h (oG h K),be,?_⟩;show Mf op m h (oG h K);dsimp only[Mf,push_cast];intro b L t g;refine⟨_,_,⟨g.at_⟩,bg,λy j=>?_⟩;have c:Sub m y:=((Sub.refl m).upd t.m_ g.other).upd t.m_ j.other;have e:=j.at_
 have d:∀k,¬(1<=op/\op<=10)->op=k->K (.val .nilFunc) m h:=λk M _=>by
  have:(op==1)=false/\(op==2)=false/\(op==3)=false/\(op==4)=false/\(op==5)=false/\(op==6)=false/\(op==7)=false/\(op==8)=false/\(op==9)=false/\(op==10)=false:=by
   grind
  obtain⟨z,A,B,C,D,E,F,G,H,o⟩:=this;rw[z,A,B,C,D,E,F,G,H,o]at f;exact f
 refine aE (λI=>.sub c (d _ aC rfl)) (λI=>aE (λJ=>.sub c (d _ aC rfl)) (λJ=>⟨aC,aC,?_⟩));have:op=0\/op=1\/op=2\/op=3\/op=4\/op=5\/op=6\/op=7\/op=8\/op=9\/op=10:=by omega
 rcases this with rfl|rfl|rfl|rfl|rfl|rfl|rfl|rfl|rfl|rfl|rfl
 .exact⟨none,.lent _ _ _ e rfl,.sub c (d 0 aC rfl)⟩
 .exact⟨some 163,.lent _ _ _ e rfl,.sub c f⟩
 .exact⟨some 164,.lent _ _ _ e rfl,.sub c f⟩
 .exact⟨some 165,.lent _ _ _ e rfl,.sub c f⟩
 .exact⟨some 166,.lent _ _ _ e rfl,.sub c f⟩
 .exact⟨some 167,.lent _ _ _ e rfl,.sub c f⟩
 .exact⟨some 168,.lent _ _ _ e rfl,.sub c f⟩
 .exact⟨some 168,.lent _ _ _ e rfl,.sub c f⟩
 .exact⟨some 168,.lent _ _ _ e rfl,.sub c f⟩
 .exact⟨some 169,.lent _ _ _ e rfl,.sub c f⟩
 .exact⟨some 170,.lent _ _ _ e rfl,.sub c f⟩
theorem Y6:cu 163 (Bk (· =1)):=by
 refine iB func163 ?_;rintro d m h K ⟨n,s,ps,q,ks,rfl,e,f,c,g⟩;obtain⟨op,ta,w,co,on,gr,od,li,args⟩:=q;refine⟨dD [(191,Dv),(109,tW)] [] [] [] false,rfl,(aD wW (aD IM aF)),HW n m h K,be,?_⟩;dsimp only[HW,push_cast];cases (show op=1 from c);exact bRZ e f ⟨g⟩
theorem Y5:cu 164 (Bk (· =2)):=by
 refine iB func164 ?_;rintro d m h K ⟨n,s,ps,q,ks,rfl,e,g,c,f⟩;obtain⟨op,ta,w,co,on,gr,od,li,args⟩:=q;refine⟨dD [(191,Dv),(110,wY)] [] [] [] false,rfl,(aD wW (aD PT aF)),HV n m h K,be,?_⟩;dsimp only[HV,push_cast];cases (show op=2 from c);exact bRX e ⟨f⟩
theorem Y4:cu 165 (Bk (· =3)):=by
 refine iB func165 ?_;rintro d m h K ⟨n,s,ps,q,ks,rfl,e,g,c,f⟩;obtain⟨op,ta,w,co,on,gr,od,li,args⟩:=q;refine⟨bcZ n m h,rfl,(aD wW aF),HU n m h K,be,?_⟩;dsimp only[HU,push_cast];cases (show op=3 from c);exact bRQ e ⟨f⟩
theorem Y3(c:cu 193 Om):cu 166 (Bk (· =4)):=by
 refine iB func166 ?_;rintro e m h K ⟨n,s,ps,q,ks,rfl,f,j,d,g⟩;obtain⟨op,ta,w,co,on,gr,od,li,args⟩:=q;refine⟨dD [(192,Qp),(193,Om)] [] [] [] false,rfl,(aD PG (aD c aF)),HT n m h K,be,?_⟩;dsimp only[HT,push_cast];cases (show op=4 from d);exact bQJ f ⟨g⟩
theorem Y2:cu 167 (Bk (· =5)):=by
 refine iB func167 ?_;rintro d m h K ⟨n,s,ps,q,ks,rfl,e,g,c,f⟩;obtain⟨op,ta,w,co,on,gr,od,li,args⟩:=q;refine⟨dD [(192,Qp)] [] [] [] false,rfl,(aD PG aF),HS n m h K,be,?_⟩;dsimp only[HS,push_cast];cases (show op=5 from c);exact bQZ e ⟨f⟩
theorem Y1:cu 168 (Bk (λop=>op=6\/op=7\/op=8)):=by
 refine iB func168 ?_;rintro d m h K ⟨n,s,ps,q,ks,rfl,e,g,c,f⟩;obtain⟨op,ta,w,co,on,gr,od,li,args⟩:=q;refine⟨dD [(191,Dv),(69,Cv)] [] [] [] false,rfl,(aD wW (aD HJ aF)),Mc n m h K,be,?_⟩;exact bQX c e ⟨f⟩
theorem Y0:cu 169 (Bk (· =9)):=by
 refine iB func169 ?_;rintro d m h K ⟨n,s,ps,q,ks,rfl,e,g,c,f⟩;obtain⟨op,ta,w,co,on,gr,od,li,args⟩:=q;refine⟨dD [(191,Dv),(194,Ql),(195,Qm)] [] [] [] false,rfl,(aD wW (aD PF (aD PE aF))),HR n m h K,be,?_⟩;dsimp only[HR,push_cast];cases (show op=9 from c);exact bQQ e ⟨f⟩
theorem YZ:cu 170 (Bk (· =10)):=by
 refine iB func170 ?_;rintro d m h K ⟨n,s,ps,q,ks,rfl,e,g,c,f⟩;obtain⟨op,ta,w,co,on,gr,od,li,args⟩:=q;refine⟨dD [(191,Dv),(69,Cv),(194,Ql),(195,Qm)] [] [] [] false,rfl,(aD wW (aD HJ (aD PF (aD PE aF)))),HQ n m h K,be,?_⟩;dsimp only[HQ,push_cast];cases (show op=10 from c);exact bPZ e ⟨f⟩
theorem WX(F:cu 193 Om):∀N,cu 112 (BW N)
 |0=>by
  refine eR (fn:=Tryz.f112) (c:=cK Tryz.f112) func112 rfl bg ?_;rintro S m h K ⟨sc,p,v,s,ps,q,rfl,_,_,_,_,hN,_⟩;omega
 |N+1=>by
  refine iB func112 ?_;rintro S m h K ⟨sc,p,v,s,ps,q,rfl,hs,C,hp,hq,hN,B⟩;refine⟨biX N sc p v m,rfl,(aD (WX F N) (aD Zg (aD Y6 (aD Y5 (aD Y4 (aD (Y3 F) (aD Y2 (aD Y1 (aD Y0 (aD YZ aF)))))))))),Sx N sc p v m h K,be,?_⟩;dsimp only[Sx,push_cast];have T:=@B9 q;have U:=hq;obtain⟨op,ta,w,co,on,gr,od,li,args⟩:=q;have x:=hq.parts;have D:=x.op_;have hl:=x.args_.slen;have a':=x.args_.len;simp only[Query.args]at T;simp only[cJ]at B;refine⟨λ⟨i,G,L⟩=>i<=args.length/\PH.le h L/\∃ks,Slices L G ks/\(args.take i).map (cJ s ps)=ks.map (λk=>(k,0)),λ⟨i,_,_⟩=>args.length-i,⟨(0,[],h),⟨aC,.refl _,[],⟨rfl,λj s k V=>by simp at V⟩,bf⟩,MT⟩,?_⟩;rintro⟨i,G,L⟩ ⟨hi,y,ks,P,A⟩;have W:ks.length=i:=by have:=congrArg List.length A;grind
  have X:G.length=i:=by rw[P.1,W]
  dsimp only;refine aE (λH=>?_) (λa0=>?_)
  .obtain⟨Q,I⟩:=eO hl H;obtain⟨b1,o1,u,Y,r1,Z⟩:=(x.args_.mono y).at I;refine⟨b1,o1,Y,aC,H,u,.imm r1,sc,p,u,s,ps,Q,rfl,hs.mono y,C,hp.mono y,Z,?_,λg h' d E=>aB (λV=>?_) (λV=>?_)⟩
   .grind
   .have he:(cJ s ps Q).2≠0:=bk
    rw[Gq he A I rfl]at B;exact B.err (y.trans d) (if_neg he)
   .have he:(cJ s ps Q).2=0:=bk
    refine⟨bj,bj,(i+1,G++[g],h'),⟨aC,y.trans d,ks++[(cJ s ps Q).1],(P.mono d).snoc E,?_⟩,aC,?_⟩
    .rw[iE I,A,cd]
     grind
    .rw[cd];exact MT
  .rw[ca aC]at A;rw[Ck A]at B;simp only[if_true]at B;have B:KR K m h (rQ s ps (.mk op ta w co on gr od li args) ks):=B
   have o:∀(g:Sl)(h':PH),PH.le L h'->bX h' g 1 (G.map eS)->Bg h' s ps (.mk op ta w co on gr od li args) ks ⟨sc,p,v,g⟩:=λg h' d f=>by
    refine⟨(hs.mono y).mono d,(hp.mono y).mono d,(U.mono y).mono d,⟨⟨G,f,P.1.symm,λj k hk=>?_⟩,aC⟩,λk hk=>?_⟩
    .have hj:j<G.length:=bk
     exact⟨G[j],bu hj,(P.2 j _ _ (bu hj) hk).mono d⟩
    .obtain⟨j,hj⟩:=mem_iff_getElem?.1 hk;have:=LC A j
     grind
   have t:∀(h':PH),PH.le L h'->∀r,fin r=rQ s ps (.mk op ta w co on gr od li args) ks->∀(g:Sl)(z:PH),PH.le h' z->Ints z g r.1->
    branch (r.2 !=0) (K (.tup [.val (.slice none 0 0),.val (.int .i64 r.2)]) m z) (branch (decide ((g.len:Int)>12)) (K (.tup [.val (.slice none 0 0),.val (.int .i64 2)]) m z) (K (.tup [.val (.slice g.a g.len g.cap),.val (.int .i64 0)]) m z)):=by
    intro h' d r hr g z M E;have J:PH.le h z:=(y.trans d).trans M;rw[<-hr]at B;have X:=E.slen;refine aB (λR=>?_) (λR=>aE (λd2=>?_) (λd2=>?_))
    .have R:r.2≠0:=bk
     exact B.err J (by unfold fin;grind)
    .have R:r.2=0:=bk
     exact B.big (l:=r.1) J (by unfold fin;grind) aC
    .have R:r.2=0:=bk
     exact B.ok (l:=r.1) J (by unfold fin;grind) aC E.row
   refine⟨v.op,rfl,?_⟩;rw[D];refine aB (λc1 g h' d f=>⟨⟨sc,p,v,g⟩,s,ps,_,ks,by rw[<-D],o g h' d f,C,beq_iff_eq.1 c1,t h' d⟩) (λc1=>?_);refine aB (λc2 g h' d f=>⟨⟨sc,p,v,g⟩,s,ps,_,ks,by rw[<-D],o g h' d f,C,beq_iff_eq.1 c2,t h' d⟩) (λc2=>?_);refine aB (λc3 g h' d f=>⟨⟨sc,p,v,g⟩,s,ps,_,ks,by rw[<-D],o g h' d f,C,beq_iff_eq.1 c3,t h' d⟩) (λc3=>?_);refine aB (λc4 g h' d f=>⟨⟨sc,p,v,g⟩,s,ps,_,ks,by rw[<-D],o g h' d f,C,beq_iff_eq.1 c4,t h' d⟩) (λc4=>?_);refine aB (λc5 g h' d f=>⟨⟨sc,p,v,g⟩,s,ps,_,ks,by rw[<-D],o g h' d f,C,beq_iff_eq.1 c5,t h' d⟩) (λc5=>?_);refine aB (λc6 g h' d f=>⟨⟨sc,p,v,g⟩,s,ps,_,ks,by rw[<-D],o g h' d f,C,.inl (beq_iff_eq.1 c6),t h' d⟩) (λc6=>?_);refine aB (λc7 g h' d f=>⟨⟨sc,p,v,g⟩,s,ps,_,ks,by rw[<-D],o g h' d f,C,.inr (.inl (beq_iff_eq.1 c7)),t h' d⟩) (λc7=>?_);refine aB (λc8 g h' d f=>⟨⟨sc,p,v,g⟩,s,ps,_,ks,by rw[<-D],o g h' d f,C,.inr (.inr (beq_iff_eq.1 c8)),t h' d⟩) (λc8=>?_);refine aB (λc9 g h' d f=>⟨⟨sc,p,v,g⟩,s,ps,_,ks,by rw[<-D],o g h' d f,C,beq_iff_eq.1 c9,t h' d⟩) (λc9=>?_);refine aB (λO g h' d f=>⟨⟨sc,p,v,g⟩,s,ps,_,ks,by rw[<-D],o g h' d f,C,beq_iff_eq.1 O,t h' d⟩) (λO=>B.err y ?_);refine yV λe=>?_;have:arity op= -1:=by simp only[arity];grind
   have:=e.1;simp only[Query.op]at this;omega
def gU:PV:=⟨0,0,eY,eY,⟨none,0,0⟩⟩
theorem Tv(l:di):dQ 2 (l.map qP):=by
 constructor
 .intro e c;obtain⟨x,_,rfl⟩:=mem_map.1 c;rfl
 .intro e c u d;obtain⟨x,_,rfl⟩:=mem_map.1 c;simp[qP]at d;rcases d with rfl|rfl<;>rfl
theorem Tu(l:dg):dQ 2 (l.map CI):=by
 constructor
 .intro e c;obtain⟨x,_,rfl⟩:=mem_map.1 c;rfl
 .intro e c u d;obtain⟨x,_,rfl⟩:=mem_map.1 c;simp[CI]at d;rcases d with rfl|rfl<;>rfl
theorem OH{n c:Nat}{α:Type}{enc:α->cv}{l:List α}(r:bX h ⟨none,n,c⟩ sz (l.map enc)):l=[]:=by
 rcases r.row with e|⟨b,o,e,_⟩
 .simpa using e
 .cases e
end Go.Ps
