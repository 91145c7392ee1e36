/- Own work. -/
import Derived.Test.YtjpjambjoceofaaGreatDoorUb
set_option linter.unusedVariables false
set_option linter.unusedSimpArgs false
namespace Go.Ps
open Go Go.Vc Go.Proofs List Tryz
variable{K:dk}{m:MH}{h:PH}{s:lL}{ps:dl}{cb:Nat}{sc:bX}{v:QV}{q:Query}{p:Pred}{l:dl}{i:Nat}{N:Nat}{m':MH}{h':PH}{co:dl}{gr:dl}{od:dr}{w:Pred}{ta:Int}{li:Int}{xs:List dj}{sz:Nat}{k:Nat}{ks:List dl}{rs:dl}{r:Sl}{a:dl}{b:Nat}
theorem T9:Tryz.prog.underlying 9=some .string:=bu
theorem Ee:KeyLaw Tryz.prog 9 (λv=>∃s,v= .string s):=by
 refine⟨⟨_,T9⟩,?_,?_,?_⟩
 .rintro _ w b ⟨s,rfl⟩
  have e:∀n:Nat,(Instr.checkKey b (n+1) 9 (.string s)).run Tryz.prog w= .ok () w:=λn=>by
   unfold Instr.checkKey;simp only[Sem.run_bind,run_underlying T9,Result.andThen];simp
  exact e 9999
 .rintro _ _ w ⟨s,rfl⟩ ⟨t,rfl⟩;refine⟨_,run_equalIn_string w 9999 9 s t T9,?_⟩;rw[beq_iff_eq];exact⟨λe=>by rw[nV e],λe=>cg⟩
 .rintro d _ _ r c ⟨s,rfl⟩ ⟨t,rfl⟩ h;rw[T9]at c;cases c;simp only[Instr.sameNow,cw]at h;subst h;rw[beq_toListBytes,beq_iff_eq];exact⟨λe=>by rw[nV e],λe=>cg⟩
def fC{α:Type}(T:List α->α->Prop)(l:List α)(i:Nat):Prop:=∀j x,j<i->l[j]? =some x->T (l.take j) x
def Good{α:Type}(T:List α->α->Prop)(l:List α):Prop:=∀(j:Nat) x,l[j]? =some x->T (l.take j) x
theorem fC.zero{α:Type}{T:List α->α->Prop}{l:List α}:fC T l 0:=λ_ _ h=>by omega
theorem fC.succ{α:Type}{T:List α->α->Prop}{l:List α}{x:α}(h:fC T l i)(d:l[i]? =some x)(t:T (l.take i) x):fC T l (i+1):=by
 intro j y f c;by_cases e:j=i
 .grind
 .exact h j y aC c
theorem fC.all{α:Type}{T:List α->α->Prop}{l:List α}(h:fC T l i)(d:l.length<=i):Good T l:=λj x c=>h j x cg c
theorem Good.not{α:Type}{T:List α->α->Prop}{l:List α}{x:α}(c:l[i]? =some x)(t:¬T (l.take i) x):¬Good T l:=λh=>t (h i x c)
def XY(d:List pB)(c:pB):Prop:=oM c.name=true/\eH c.kind=true/\c.name∉d.map pB.name
def D7(c:List A8)(t:A8):Prop:=oM t.name=true/\1<=t.key/\t.key<=t.columns.length/\t.name∉c.map A8.name/\Good XY t.columns
def kA(s:lL)(t:Int):dl:=if t<0 then[]else match s.tables[t.toNat]? with|none=>[]|some t=>t.columns.map pB.kind
def vC(s:lL)(t:Int):Bool:=decide (0<=t)&&decide (t<s.tables.length)
def aS(v:bX):CV:=.val (.agg ⟨v.enc⟩)
def nM(s:lL):Prop:=∀t∈s.tables,t.columns.length<=8
def cxX:Vc.Spec:=λc m h K=>∃v s t,c=[aS v,cI t]/\fR h s v/\K (cB (vC s t)) m h
def y8:Vc.Spec:=λc m h K=>∃v s t,c=[aS v,cI t]/\fR h s v/\nM s/\∀d h',PH.le h h'->Ints h' d (kA s t)->K (cS d) m h'
noncomputable def UM(m:MH)(h:PH):Ctx:=
 cT [] [(5,{A:=Nat×Sl×dl,st:=λx=>bO 35 37 [(5,.at (.lst 32)),(22,sv x.2.1),(23,iv x.2.1.len),(24,iv x.1)] [(32,.lst 3 1 (x.2.2.map eI))] m h})] [] [] false
noncomputable def bwJ(m:MH)(h:PH):Ctx:=
 cT [(175,cxX)] [(5,{A:=Nat×Sl×dl,st:=λx=>bO 38 40 [(5,.at (.lst 19)),(25,sv x.2.1),(26,iv x.2.1.len),(27,iv x.1)] [(19,.lst 3 1 (x.2.2.map eI))] m h})] [] [] false
noncomputable abbrev gE(a:bX):Int:=aF a.tables
attribute [push_cast] gE
def S4(v:bX)(t:Int)(m:MH)(h:PH)(K:dk):Prop:=
  eK t 0 (K (vD (decide (t<gE v))) m h) (K aX m h)
noncomputable abbrev lW(a:bX):Option Addr:=a.tables.a
noncomputable abbrev aM(a:Sl):dj:=kH (iI a)
abbrev N7(a:bX)(b c:Int)(d:MH)(e:PH)(g:Nat->Nat)(i:Nat)(j:Sl->(Nat×Sl×dl->Prop)->(Nat×Sl×dl)->Prop)(k:(Nat×Sl×dl->Prop)->(Nat×Sl×dl->Nat)->(Nat×Sl×dl)->Prop):Prop:=aJ (λx n=>aI (aK (lW a) x n) (b<=c) (c<aF a.tables) (∃(o:Sl),aR d e x (cC (g n) c 5+i) (aM o)/\∃(t:Nat×Sl×dl->Prop)(u:Nat×Sl×dl->Nat),(∃(f:Nat×Sl×dl),j o t f)/\∀(f:Nat×Sl×dl),k t u f))
abbrev bA(a b:Sl):Prop:=Ye a=Ye b
noncomputable abbrev nP(a:Nat×Sl×dl):Sl:=a.2.1
abbrev cJ(a b:Sl):Prop:=bL a.len=bL b.len
noncomputable abbrev bW(a b:Nat)(c:List dj):Option Go.Vc.Own:=Option.some (Own.lst a b c)
abbrev xP(a:dl):Prop:=bW 3 1 []=bW 3 1 (List.map eI a)
abbrev j4(a:Nat):Prop:=a<=140737488355328
noncomputable abbrev nY(a:List dj)(b:Nat):Nat:=a.length+b
abbrev zY(a:List dj):Prop:=a.length<140737488355328
abbrev nQ(a:Prop)(b:List dj)(c:Nat)(d:Prop):Prop:=aI a (j4 (nY b 1*c)) (zY b) d
noncomputable abbrev dT(a:dl):List dj:=List.map eI a
abbrev N6(a:Prop)(b:Nat×Sl×dl)(c:Int)(d:Nat->Nat->pB->Prop)(e:Nat)(g:pB->(Nat×Sl×dl)->Prop)(i:Prop):Prop:=a->aW (↑b.1:Int) (aF (nP b)) (aJ (λx f=>aI (aK (nP b).a x f) (c<=(↑b.1:Int)) ((↑b.1:Int)<aF (nP b)) (∃(j:pB),nQ (d x f j) (dT b.2.2) e (∃(n:Nat×Sl×dl),g j n)))) i
noncomputable abbrev wG(a:pB):Value:=Value.string a.name
abbrev gU(a:List dj)(b:dl):Prop:=bW 3 1 a=bW 3 1 (List.map eI b)
noncomputable abbrev gL(a:dj):List dj:=[a]
noncomputable abbrev eG(a:List dj)(b:dj):List dj:=a++gL b
abbrev fT(a:Sl->PH->Prop):Prop:=∀(x:Sl)(c:PH),a x c
abbrev dN(a b:PH)(c d:Prop):Prop:=PH.le a b->c->d
abbrev bU(a:Nat->Nat->Option Value)(b:Nat)(c:List dj)(d:Sl->PH->Prop):Prop:=fT (λx e=>dN a e (cE e x b c) (d x e))
abbrev nD(a:PH)(b:List dj)(c:dk)(d:MH):Prop:=bU a 1 b (λx e=>c (F9 x) d e)
attribute [push_cast] lW aM N7 bA nP cJ bW xP j4 nY zY nQ dT N6 wG gU gL eG fT dN bU nD
def WG(v:bX)(t:Int)(m:MH)(h:PH)(K:dk):Prop:=
  aW t 0 (K iO m h) (eK t (gE v) (K iO m h) (N7 v 0 t m h (λo=>o) 1 (λy I x=>aA (I x) (eL 32) (aA (bA y (nP x)) (cJ y (nP x)) (aA (aZ x.1) (xP x.2.2) (aA (m=m) (h=h) True)))) (λI d x=>N6 (I x) x 0 (λb o y=>aR m h b (bE o x.1 2) (nL (wG y) (fE y.kind))) 8 (λy c=>aA (I c) (d c<d x) (aA (eL 32) (bA (nP x) (nP c)) (aA (cJ (nP x) (nP c)) (eR (bF ((↑x.1:Int)+1))=bL c.1) (aA (gU (eG (dT x.2.2) (bQ y.kind)) c.2.2) (m=m) (bR h h))))) (nD h (dT x.2.2) K m))))
abbrev qS(a:bX->lL->Prop):Prop:=∃(x:bX)(c:lL),a x c
noncomputable abbrev cD(a:bX):dj:=nL (fE a.version) (iI a.tables)
abbrev qU(a:Int):Prop:=a<=281474976710656
abbrev sK(a:Sl)(b:Int):Prop:=qU (aF a*b)
attribute [push_cast] qS cD qU sK
def Tp(v:bX)(t:Int)(m:MH)(h:PH)(K:dk):Prop:=
  qS (λf s=>∃(g:Int),aA (bD (gV (cD v)) t=bD (gV (cD f)) g) (fR h s f) (mB (vC s g) (K iO m h) (aJ (λb o=>aI (aK (lW v) b o) (0<=t) (t<aF v.tables) (∃(y:Sl),aA (aR m h b (cC o t 5+1) (aM y)) (bY 0) (aA (bY (aF y)) (sK y 8) (qU (aF y)/\N7 v 0 t m h (λe=>e) 1 (λc I x=>aA (I x) (eL 19) (aA (bA c (nP x)) (cJ c (nP x)) (aA (aZ x.1) (xP x.2.2) (aA (m=m) (h=h) True)))) (λI j x=>N6 (I x) x 0 (λn e c=>aR m h n (bE e x.1 2) (nL (wG c) (fE c.kind))) 8 (λc d=>aA (I d) (j d<j x) (aA (eL 19) (bA (nP x) (nP d)) (aA (cJ (nP x) (nP d)) (eR (bF ((↑x.1:Int)+1))=bL d.1) (aA (gU (eG (dT x.2.2) (bQ c.kind)) d.2.2) (m=m) (bR h
 h))))) (nD h (dT x.2.2) K m)))))))))
theorem bZ.part{o:Nat}{l:dj}(r:bZ h b o l)(k n:Nat):bZ h b (o+k) ((l.drop k).take n):=
 ⟨λi v e=>by
  have:l[k+i]? =some v:=by
   grind
  have:=r.rd (k+i) v this
  grind⟩
theorem Gb.at{s:Sl}{l:List pB}(r:Gb h s l){x:pB}(c:l[i]? =some x):∃b o,s.a=some ⟨b,o,none⟩/\bZ h b (o+i*2) (pB.enc x):=by
 obtain⟨b,o,v,e,k,rfl⟩:=bI.at r c
 grind
theorem GC{t:Int}(h:¬(0<=t/\t<s.tables.length)):kA s t=[]:=by
 unfold kA
 grind
theorem Ni{t:Int}{x:A8}(h:0<=t)(c:s.tables[t.toNat]? =some x):kA s t=x.columns.map pB.kind:=by
 unfold kA
 grind
theorem fR.table{v:bX}(c:fR h s v){t:Int}(f:0<=t)(g:t<(v.tables.len:Int)):∃x b o w,s.tables[t.toNat]? =some x/\v.tables.a=some ⟨b,o,none⟩/\bZ h b (o+t.toNat*5) (cR.enc w)/\MM h x w:=by
 have j:=c.tables.slen;have d:s.tables[t.toNat]? =some (s.tables[t.toNat]'(by omega)):=cq _;obtain⟨b,o,w,e,r,k⟩:=c.tables.at d
 grind
theorem iN{α β:Type}{f:α->β}{l:List α}{x:α}(c:l[i]? =some x):(l.take (i+1)).map f=(l.take i).map f++[f x]:=by
 rw[db,c];simp
theorem Qm:di 175 cxX:=by
 refine fU func175 ?_;rintro e m h K ⟨v,s,t,rfl,f,d⟩;refine⟨cT [] [] [] [] false,rfl,aG,S4 v t m h K,bu,?_⟩;dsimp only[S4,push_cast];have g:=f.tables.slen;refine aD (λc=>jB d ?_) (λc=>jB d ?_)
 .have c:0<=t:=c;simp only[vC,g,decide_eq_true c,Bool.true_and]
 .have c:¬0<=t:=by omega
  simp only[vC,decide_eq_false c,Bool.false_and]
theorem Ii:di 46 y8:=by
 refine fU func46 ?_;rintro D m h K ⟨v,s,t,rfl,A,E,n⟩;refine⟨UM m h,rfl,aG,WG v t m h K,bu,?_⟩;dsimp only[WG,push_cast];have M:=A.tables.slen;have d:kA s t=[]->K (.val (.slice none 0 0)) m h:=λe=>n ⟨none,0,0⟩ h (.refl _) (by rw[e];exact⟨.nil _ _,bx⟩);refine aD (λF=>d (GC aC)) (λF=>aD (λG=>d (GC aC)) (λG=>?_));obtain⟨x,b,o,w,B,H,I,f⟩:=A.table (t:=t) aC aC;have J:=E x (cr B);have u:=bI.slen f.columns;rw[Ni aC B]at n;refine⟨b,o,H,aC,aC,w.columns,.imm (bZ.part I 1 1),λ⟨i,y,l⟩=>y=w.columns/\i<=x.columns.length/\l=(x.columns.take i).map pB.kind,λ⟨i,_,_⟩=>x.columns.length-i,⟨(0,w.columns,[]),⟨rfl,bx,bx⟩,MT⟩,?_⟩;rintro⟨i,_,_⟩ ⟨rfl,O,rfl⟩;dsimp only;refine aD (λj=>?_) (λL y h' z g=>?_)
 .obtain⟨c,C⟩:=dO u j;obtain⟨b,o,e,r⟩:=Gb.at f.columns C;refine⟨b,o,e,aC,j,c,.imm r,?_,?_,(i+1,w.columns,(x.columns.take (i+1)).map pB.kind),⟨rfl,aC,rfl⟩,aC,?_⟩
  .simp;omega
  .simp;omega
  .rw[iN C,cv];exact MT
 .rw[cu aC]at g;exact n y h' z ⟨g,ce⟩
theorem Jf:di 139 y8:=by
 refine fU func139 ?_;rintro G m h K ⟨v,s,t,rfl,n,H,u⟩;refine⟨bwJ m h,rfl,aE Qm aG,Tp v t m h K,bu,?_⟩;dsimp only[Tp,push_cast];have L:=n.tables.slen;have g:kA s t=[]->K (.val (.slice none 0 0)) m h:=λe=>u ⟨none,0,0⟩ h (.refl _) (by rw[e];exact⟨.nil _ _,bx⟩);refine⟨v,s,t,rfl,n,aB (λy=>g (GC ?_)) (λy=>?_)⟩
 .simp only[vC,Bool.not_eq_true',Bool.and_eq_false_iff,decide_eq_false_iff_not]at y;omega
 simp only[vC,Bool.not_eq_false',cz,dc]at y;obtain⟨x,b,o,w,C,D,E,d⟩:=n.table (t:=t) aC aC;have I:=H x (cr C);have z:=bI.slen d.columns;rw[Ni aC C]at u;refine⟨b,o,D,aC,aC,w.columns,.imm (bZ.part E 1 1),aC,aC,aC,aC,b,o,D,aC,aC,w.columns,.imm (bZ.part E 1 1),λ⟨i,A,l⟩=>A=w.columns/\i<=x.columns.length/\l=(x.columns.take i).map pB.kind,λ⟨i,_,_⟩=>x.columns.length-i,⟨(0,w.columns,[]),⟨rfl,bx,bx⟩,MT⟩,?_⟩;rintro⟨i,_,_⟩ ⟨rfl,M,rfl⟩;dsimp only;refine aD (λj=>?_) (λJ A h' B f=>?_)
 .obtain⟨c,F⟩:=dO z j;obtain⟨b,o,e,r⟩:=Gb.at d.columns F;refine⟨b,o,e,aC,j,c,.imm r,?_,?_,(i+1,w.columns,(x.columns.take (i+1)).map pB.kind),⟨rfl,aC,rfl⟩,aC,?_⟩
  .simp;omega
  .simp;omega
  .rw[iN F,cv];exact MT
 .rw[cu aC]at f;exact u A h' B ⟨f,ce⟩
def Sub(m m':MH):Prop:=∀b o,m b=some o->m' b=some o
theorem Sub.refl(m:MH):Sub m m:=λ_ _ e=>e
theorem Sub.free(h:Sub m m')(c:m' b=none):m b=none:=by
 cases e:m b with
 |none=>rfl
 |some o=>rw[h b o e]at c;cases c
theorem Sub.upd{f:MH}(h:Sub m f)(j:m b=none)(g:∀c,c≠b->m' c=f c):Sub m m':=λc o e=>by
 have d:c≠b:=λn=>cg
 rw[g c d,h c o e]
def MO(m:MH)(b:Nat)(c:eu):Prop:=qM m b (c.map λn=>(.string n,.bool true))
theorem MO.other{d:Nat}{e:eu}(h:MO m b e)(f:b≠d)(o:∀c,c≠d->m' c=m c):MO m' b e:=by
 obtain⟨g,j,t,n⟩:=h.ex;exact⟨g,j,cg,n⟩
def bLX:Vc.Spec:=λc m h K=>∃v s,c=[aS v]/\fR h s v/\∀r:Bool,(r=true↔Good D7 s.tables)->K (cB r) m h
def bGQ:Vc.Spec:=λc m h K=>∃v s t,∃i:Nat,c=[aS v,cI i]/\fR h s v/\s.tables[i]? =some t/\∀r:Bool,(r=true↔D7 (s.tables.take i) t)->K (cB r) m h
noncomputable def bvQ(v:bX)(h:PH):Ctx:=
 cT [(217,aBX)] [(3,{A:=Nat×Nat×MH,st:=λ⟨i,c,d⟩=>bO 79 80 [(3,vv (.map (some c))),(11,sv v.tables),(12,iv v.tables.len),(13,iv i)] [] d h}),
  (10,{A:=Nat×Nat×Nat×Nat×Sl×MH,st:=λ⟨i,k,c,f,e,d⟩=>bO 79 80 [(3,vv (.map (some c))),(6,vv (.map (some f))),(11,sv v.tables),(12,iv v.tables.len),(13,iv i),(45,sv e),(46,iv e.len),(47,iv k)] [] d h})] [] [] false
noncomputable def bwQ(v:bX)(i:Nat)(m:MH)(h:PH):Ctx:=
 cT [(216,aBX),(151,bLJ)] [(5,{A:=Nat×cR,st:=λ⟨k,w⟩=>bO 94 96 [(1,iv i),(2,.at (.ptr 2 0)),(5,.at (.ptr 5 0)),(6,iv k)] [(2,.cells 43 (v.enc.map .val)),(5,.cells 87 (w.enc.map .val))] m h}),
  (10,{A:=Nat×cR,st:=λ⟨k,w⟩=>bO 94 96 [(5,.at (.ptr 5 0)),(53,iv w.columns.len),(54,iv k)] [(5,.cells 87 (w.enc.map .val))] m h}),
  (15,{A:=Nat×Nat×cR,st:=λ⟨k,j,w⟩=>bO 94 96 [(5,.at (.ptr 5 0)),(7,iv k),(8,iv j),(53,iv w.columns.len),(54,iv k)] [(5,.cells 87 (w.enc.map .val))] m h})] [] [] false
abbrev CT(a:MH)(b:PH)(c:Nat->MH->Prop):Prop:=mE a b (λx d=>iD a d x (Obj.map (Array.mk []) 0)) (λx d=>c x d)
noncomputable abbrev mL(a:Nat):Value:=Value.map (Option.some a)
abbrev jK(a b:Nat):Prop:=SV.at (At.val (mL a))=SV.at (At.val (mL b))
abbrev sA(a:bX):Prop:=aH a.tables
abbrev iZ(a:bX):Prop:=aY a.tables
abbrev Hg(a:Prop)(b:Nat)(c:bX)(d:Nat->Nat->cR->Prop)(e:Prop):Prop:=a->aW (↑b:Int) (aF c.tables) (aJ (λx f=>aI (aK (lW c) x f) (0<=(↑b:Int)) ((↑b:Int)<aF c.tables) (∃(g:cR),d x f g))) e
noncomputable abbrev Ck(a:cR):Value:=Value.string a.name
noncomputable abbrev AF(a:cR):dj:=bC (Ck a) (iI a.columns) (bC (fE a.key) (iI a.references) (aM a.checks))
noncomputable abbrev jM(a:ByteArray):CV:=CV.val (Value.string a)
abbrev oN(a:dk)(b:Nat×Nat×MH)(c:PH):Prop:=a aX (gG b) c
abbrev DO(a:Nat)(b:Value->Prop):Prop:=KeyLaw Proofs.Tryz.prog a b
abbrev J5(a:MH)(b:Nat)(c:(Value->Prop)->Prop)(d:(Value×Bool)->Prop)(e:Prop)(g:(List (Value×Bool))->Bool->Prop):Prop:=∃(x:List (Value×Bool))(j:Value->Prop),aA (qM a b (List.map (fun(f:Value×Bool)=>(f.1,Value.bool f.2)) x)) (DO 9 j) (aA (c j) (∀(f:Value×Bool),List.Mem f x->j f.1) (((∀(f:Value×Bool),List.Mem f x->d f->False)->e)/\∀(f:Bool),g x f))
noncomputable abbrev AR(a:cR):Int:=aF a.columns
abbrev LW(a:dt->(Value->Prop)->Prop):Prop:=∃(x:dt)(c:Value->Prop),a x c
abbrev H5(a:Value×Value)(b:dt)(c:Value):Prop:=List.Mem a b->a.1=c->False
noncomputable abbrev DL(a b:Value):dt:=[(a,b)]
noncomputable abbrev Bc:Value:=Value.bool true
noncomputable abbrev DM(a:Nat×Nat×Nat×Nat×Sl×MH):Nat:=a.2.2.2.1
abbrev bV(a b:Nat):Prop:=bL a=bL b
noncomputable abbrev wI(a:Nat×Nat×Nat×Nat×Sl×MH):Sl:=a.2.2.2.2.1
noncomputable abbrev uZ(a:Nat×Nat×Nat×Nat×Sl×MH):Nat->Option Obj:=a.2.2.2.2.2
abbrev JT(a:Nat×Nat×Nat×Nat×Sl×MH)(b:pB)(c:MH->Prop):Prop:=LW (λx e=>aA (qM (uZ a) (DM a) x) (DO 9 e) (aA (e (wG b)) (∀(d:Value×Value),List.Mem d x->e d.1) ((∀(d:Value×Value),H5 d x (wG b))/\∀(d:MH),qD (uZ a) d (DM a)->qM d (DM a) (x++DL (wG b) Bc)->c d)))
abbrev tP(a:pB)(b:Int)(c:Prop)(d:Nat×Nat×Nat×Nat×Sl×MH->Prop)(e:Nat×Nat×Nat×Nat×Sl×MH->Nat)(g:Nat×Nat×Nat×Nat×Sl×MH)(i:bX)(j:(Nat×Nat×Nat×Nat×Sl×MH)->Prop):Prop:=cK a.kind b c (∃(x:Nat×Nat×Nat×Nat×Sl×MH),aA (d x) (e x<e g) (aA (jK g.2.2.1 x.2.2.1) (jK (DM g) (DM x)) (aA (aH i.tables) (iZ i) (aA (bV g.1 x.1) (bA (wI g) (wI x)) (j x)))))
abbrev tS(a b:Nat×Nat×Nat×Nat×Sl×MH)(c:MH)(d:PH):Prop:=rZ (cJ (wI a) (wI b)) (eR (bF ((↑a.2.1:Int)+1))=bL b.2.1) c (uZ b) d d
attribute [push_cast] CT mL jK sA iZ Hg Ck AF jM oN DO J5 AR LW H5 DL Bc DM bV wI uZ JT tP tS
def Mo(v:bX)(m:MH)(h:PH)(K:dk):Prop:=
  CT m h (λb G=>∃(I:Nat×Nat×MH->Prop)(C:Nat×Nat×MH->Nat),Oq (λx=>aA (I x) (jK b (iE x)) (aA (sA v) (iZ v) (bS (aZ x.1) G (gG x) h h))) (λx=>Hg (I x) x.1 v (λH o y=>aR (gG x) h H (bE o x.1 5) (AF y)/\∃(s:ByteArray),hZ (w6 (jM y.name)=w6 (jM s)) (!(oM s)) (oN K x h) (J5 (gG x) (iE x) (λO=>O (Ck y)) (λe=>e.1=Ck y) (aW y.key 1 (oN K x h) (fA y.key (AR y) (oN K x h) (LW (λk O=>aA (qM (gG x) (iE x) k) (DO 9 O) (aA (O (Ck y)) (∀(e:Value×Value),List.Mem e k->O e.1) ((∀(e:Value×Value),H5 e k (Ck y))/\∀(t:MH),qD (gG x) t (iE x)->qM t (iE x) (k++DL (Ck y) Bc)->CT t h (λD E=>∃(I1:Nat×Nat×Nat×Nat×
 Sl×MH->Prop)(n:Nat×Nat×Nat×Nat×Sl×MH->Nat),(∃(c:Nat×Nat×Nat×Nat×Sl×MH),aA (I1 c) (jK (iE x) c.2.2.1) (aA (jK D (DM c)) (sA v) (aA (iZ v) (bV x.1 c.1) (aA (bA y.columns (wI c)) (cJ y.columns (wI c)) (bS (aZ c.2.1) E (uZ c) h h)))))/\∀(c:Nat×Nat×Nat×Nat×Sl×MH),I1 c->aW (↑c.2.1:Int) (aF (wI c)) (aJ (λz A=>aI (aK (wI c).a z A) (0<=(↑c.2.1:Int)) ((↑c.2.1:Int)<aF (wI c)) (∃(g:pB),aR (uZ c) h z (bE A c.2.1 2) (nL (wG g) (fE g.kind))/\∃(B:ByteArray),hZ (w6 (jM g.name)=w6 (jM B)) (!(oM B)) (K aX (uZ c) h) (J5 (uZ c) (DM c) (λO1=>O1 (wG g)) (λe=>e.1=wG g) (JT c g (λf=>tP g 3 (tP g 4
 (tP g 5 (K aX f h) I1 n c v (λd=>tS c d f h)) I1 n c v (λd=>tS c d f h)) I1 n c v (λd=>tS c d f h))) (λu j=>eT (List.Mem (wG g,j) u) j (K aX (uZ c) h) (JT c g (λf=>tP g 3 (tP g 4 (tP g 5 (K aX f h) I1 n c v (λd=>tS c d f h)) I1 n c v (λd=>tS c d f h)) I1 n c v (λd=>tS c d f h)))))))) (∃(d:Nat×Nat×MH),aA (I d) (C d<C x) (aA (jK c.2.2.1 (iE d)) (sA v) (aA (iZ v) (eR (bF ((↑c.1:Int)+1))=bL d.1) (aA (uZ c=gG d) (h=h) True))))))))))) (λk g=>eT (List.Mem (Ck y,g) k) g (oN K x h) (aW y.key 1 (oN K x h) (fA y.key (AR y) (oN K x h) (LW (λu O=>aA (qM (gG x) (iE x) u) (DO 9 O) (aA (O (Ck y))
 (∀(e:Value×Value),List.Mem e u->O e.1) ((∀(e:Value×Value),H5 e u (Ck y))/\∀(t:MH),qD (gG x) t (iE x)->qM t (iE x) (u++DL (Ck y) Bc)->CT t h (λD E=>∃(I1:Nat×Nat×Nat×Nat×Sl×MH->Prop)(n:Nat×Nat×Nat×Nat×Sl×MH->Nat),(∃(c:Nat×Nat×Nat×Nat×Sl×MH),aA (I1 c) (jK (iE x) c.2.2.1) (aA (jK D (DM c)) (sA v) (aA (iZ v) (bV x.1 c.1) (aA (bA y.columns (wI c)) (cJ y.columns (wI c)) (bS (aZ c.2.1) E (uZ c) h h)))))/\∀(c:Nat×Nat×Nat×Nat×Sl×MH),I1 c->aW (↑c.2.1:Int) (aF (wI c)) (aJ (λz A=>aI (aK (wI c).a z A) (0<=(↑c.2.1:Int)) ((↑c.2.1:Int)<aF (wI c)) (∃(j:pB),aR (uZ c) h z (bE A c.2.1 2) (nL (wG j) (fE
 j.kind))/\∃(B:ByteArray),hZ (w6 (jM j.name)=w6 (jM B)) (!(oM B)) (K aX (uZ c) h) (J5 (uZ c) (DM c) (λO1=>O1 (wG j)) (λe=>e.1=wG j) (JT c j (λf=>tP j 3 (tP j 4 (tP j 5 (K aX f h) I1 n c v (λd=>tS c d f h)) I1 n c v (λd=>tS c d f h)) I1 n c v (λd=>tS c d f h))) (λJ F=>eT (List.Mem (wG j,F) J) F (K aX (uZ c) h) (JT c j (λf=>tP j 3 (tP j 4 (tP j 5 (K aX f h) I1 n c v (λd=>tS c d f h)) I1 n c v (λd=>tS c d f h)) I1 n c v (λd=>tS c d f h)))))))) (∃(d:Nat×Nat×MH),aA (I d) (C d<C x) (aA (jK c.2.2.1 (iE d)) (sA v) (aA (iZ v) (eR (bF ((↑c.1:Int)+1))=bL d.1) (aA (uZ c=
 gG d) (h=h) True)))))))))))))) (K dR (gG x) h)))
abbrev N2(a:(Nat×cR->Prop)->(Nat×cR)->Prop)(b:(Nat×cR->Prop)->(Nat×cR->Nat)->(Nat×cR)->Prop):Prop:=∃(x:Nat×cR->Prop)(d:Nat×cR->Nat),(∃(c:Nat×cR),a x c)/\∀(c:Nat×cR),b x d c
noncomputable abbrev JR(a:bX):At:=fL a.version
noncomputable abbrev JQ(a:bX):At:=jR a.tables
abbrev bP(a:bX):Prop:=eQ (oQ 43 (iU (JR a) (JQ a)))
noncomputable abbrev kM(a:At):dz:=[a]
noncomputable abbrev gJ(a:cR):dz:=cH (UZ a.name) (jR a.columns) (cH (fL a.key) (jR a.references) (kM (jR a.checks)))
abbrev ER(a:cR)(b:Nat×cR):Prop:=oQ 87 (gJ a)=oQ 87 (gJ b.2)
abbrev Oo(a:Option Addr)(b:Int)(c:Nat)(d:Sl)(e:Nat->Nat->ByteArray->Prop):Prop:=aJ (λx f=>aI (aK a x f) (b<=(↑c:Int)) ((↑c:Int)<aF d) (∃(g:ByteArray),e x f g))
noncomputable abbrev AQ(a:ByteArray):dj:=kH (Value.string a)
noncomputable abbrev sL(a:Nat×Nat×cR):Nat:=a.2.1
noncomputable abbrev lX(a:Nat×Nat×cR):cR:=a.2.2
attribute [push_cast] N2 JR JQ bP kM gJ ER Oo AQ sL lX
def To(v:bX)(i:Nat)(m:MH)(h:PH)(K:dk):Prop:=
  aJ (λb o=>aI (aK (lW v) b o) (0<=(↑i:Int)) ((↑i:Int)<aF v.tables) (∃(y:cR),aR m h b (bE o i 5) (AF y)/\∃(s:ByteArray),w6 (jM y.name)=w6 (jM s)/\cO (!(oM s)) (K aX m h) (AR y==0) (K aX m h) (aW y.key 1 (K aX m h) (fA y.key (AR y) (K aX m h) (N2 (λI x=>aA (I x) (eQ (bL i)) (aA cW dM (aA (aZ x.1) (bP v) (aA (ER y x) (m=m) (bR h h))))) (λI n x=>I x->aW (↑x.1:Int) (↑i:Int) (Oo (lW v) 0 x.1 v.tables (λg j f=>aR m h g (bE j x.1 5+0) (AQ f)/\branch (f.toList==x.2.name.toList) (K aX m h) (∃(c:Nat×cR),aA (I c) (n c<n x) (aA (eQ (bL i)) cW (aA dM (eR (bF ((↑x.1:Int)+1))=bL c.1) (aA (bP v) (ER x.2 c) (bG m m h h))))))) (N2 (λI1 c
 =>aA (I1 c) dM (aA (cJ x.2.columns c.2.columns) (aZ c.1) (bS (ER x.2 c) m m h h))) (λI1 t c=>I1 c->aW (↑c.1:Int) (aF c.2.columns) (aJ (λg j=>aI (aK c.2.columns.a g j) (0<=(↑c.1:Int)) ((↑c.1:Int)<aF c.2.columns) (∃(f:ByteArray),aR m h g (bE j c.1 2+0) (AQ f)/\∃(u:ByteArray),hZ (w6 (jM f)=w6 (jM u)) (!(oM u)) (K aX m h) (aJ (λz A=>aI (aK c.2.columns.a z A) (0<=(↑c.1:Int)) ((↑c.1:Int)<aF c.2.columns) (∃(B:Int),aR m h z (bE A c.1 2+1) (bQ B)/\∃(k:Int),hZ (w6 (fN B)=w6 (fN k)) (!(eH k)) (K aX m h) (∃(I2:Nat×Nat×cR->Prop)(C:Nat×Nat×cR->Nat),(∃(d:Nat×Nat×cR),aA (I2 d) dM (aA (bV c.1 d.1) (aZ (sL d)) (aA (cJ
 c.2.columns (lX d).columns) (bV c.1 d.1) (aA (oQ 87 (gJ c.2)=oQ 87 (gJ (lX d))) (m=m) (bR h h)))))/\∀(d:Nat×Nat×cR),I2 d->aW (↑(sL d):Int) (↑d.1:Int) (Oo (lX d).columns.a 0 (sL d) (lX d).columns (λF G D=>aR m h F (bE G (sL d) 2+0) (AQ D)/\Oo (lX d).columns.a 0 d.1 (lX d).columns (λH J E=>aR m h H (bE J d.1 2+0) (AQ E)/\branch (D.toList==E.toList) (K aX m h) (∃(e:Nat×Nat×cR),aA (I2 e) (C e<C d) (aA dM (bV d.1 e.1) (aA (eR (bF ((↑(sL d):Int)+1))=bL (sL e)) (cJ (lX d).columns (lX e).columns) (aA (bV d.1 e.1) (oQ 87 (gJ (lX d))=oQ 87 (gJ (lX e))) (bG m m h h)))))))) (∃(e:Nat×cR),aA (I1 e) (t e<t c) (aA
 dM (cJ (lX d).columns e.2.columns) (aA (eR (bF ((↑d.1:Int)+1))=bL e.1) (ER (lX d) e) (aA (m=m) (h=h) True))))))))))) (K dR m h)))))))))
theorem MO.snoc{c:eu}{n:ByteArray}(h:qM m b ((c.map λn=>(Value.string n,Value.bool true))++[(.string n,.bool true)])):MO m b (c++[n]):=by
 unfold MO;grind
theorem MO.look{c:eu}(h:MO m b c):qM m b (List.map (λp:Value×Bool=>(p.fst,Value.bool p.snd)) (c.map λn=>(Value.string n,true))):=by
 rw[map_map];exact h
theorem JP{β:Type}{c:eu}{x:β}:∀e:Value×β,e∈(c.map λn=>(Value.string n,x))->∃s,e.fst= .string s:=λe d=>by
 grind
theorem V4{β:Type}{c:eu}{x:β}{n:ByteArray}(h:n∉c):∀e:Value×β,e∈(c.map λn=>(Value.string n,x))->e.fst= .string n->False:=λe d h'=>by
 grind
theorem Hf{β:Type}{c:eu}{x:β}{n:ByteArray}(h:∀e:Value×β,e∈(c.map λn=>(Value.string n,x))->e.fst= .string n->False):n∉c:=λd=>h (.string n,x) (mem_map.2 ⟨n,d,rfl⟩) rfl
theorem V5{β:Type}{c:eu}{x y:β}{n:ByteArray}(h:(Value.string n,y)∈(c.map λn=>(Value.string n,x))):n∈c/\y=x:=by
 grind
theorem ZS:di 154 bLX:=by
 refine DS func154 ?_;rintro a9 m h K ⟨v,s,rfl,hs,hK⟩;refine⟨bvQ v h,rfl,aE Zf aG,Mo v m h (jF h K),bu,?_⟩;show Mo v m h (jF h K);dsimp only[Mo,push_cast];have hl:=hs.tables.slen;have a7:=hs.tables.len;have hf:¬Good D7 s.tables->K (cB false) m h:=λh=>hK false ⟨λe=>(by cases e),λe=>(h e).elim⟩;intro b m1 hb R;refine⟨λ⟨i,B,mx⟩=>i<=s.tables.length/\Sub m mx/\m B=none/\MO mx B ((s.tables.take i).map A8.name)/\fC D7 s.tables i,λ⟨i,_,_⟩=>s.tables.length-i,⟨(0,b,m1),⟨aC,(Sub.refl m).upd hb.m_ R.other,hb.m_,⟨_,_,R.at_,rfl⟩,.zero⟩,MT⟩,?_⟩;rintro⟨i,B,mx⟩ ⟨hi,n,S,D,u⟩;dsimp only;refine aD (λT=>?_) (λb'=>.sub n (hK true ⟨λ_=>u.all aC,λ_=>rfl⟩));obtain⟨t,U⟩:=dO hl T;obtain⟨bb,o,w,ea,hr,f⟩:=hs.tables.at U;have a2:=bI.slen f.columns;have b0:=bI.len f.columns;have V:=f.name;have b3:=f.key;have bad:¬D7 (s.tables.take i) t->jF h K (.val (.bool false)) mx h:=λhn=>.sub n (hf (Good.not U hn));have W:t.name∉(s.tables.take i).map A8.name->oM w.name=true->1<=w.key->w.key<=w.columns.len->Good XY t.columns->D7 (s.tables.take i) t:=λh1 h2 h3 h4 h5=>⟨cg,aC,aC,h1,h5⟩
 refine⟨bb,o,ea,aC,T,w,.imm hr,w.name,rfl,aB (λh1=>bad λg=>?_) (λh1=>⟨_,_,D.look,Ee,⟨_,rfl⟩,JP,λX=>aD (λh2=>bad λg=>?_) (λh2=>aD (λh3=>bad λg=>?_) (λh3=>⟨_,_,D,Ee,⟨_,rfl⟩,JP,V4 (Hf X),λm2 a3 x Q m3 I J=>?_⟩)),λy hy=>?_⟩)⟩
 .have:=g.1;grind
 .have:=g.2.1;omega
 .have:=g.2.2.1;omega
 .have x:=MO.snoc x;have j:Sub m m2:=n.upd S a3.other;have L:Sub m m3:=j.upd (j.free I.m_) J.other
  have Y:B≠Q:=λe=>by
   obtain⟨es,cl,e1,_⟩:=x.ex;rw[e,I.m_]at e1;cases e1
  have Z:t.name∉(s.tables.take i).map A8.name:=by rw[<-V];exact Hf X
  rw[V, <-iN U]at x
  refine⟨λ⟨i',k,a4,a5,sl,M⟩=>i'=i/\a4=B/\a5=Q/\sl=w.columns/\k<=t.columns.length/\Sub m M/\MO M B ((s.tables.take (i+1)).map A8.name)/\MO M Q ((t.columns.take k).map pB.name)/\fC XY t.columns k,λ⟨_,k,_,_,_,_⟩=>t.columns.length-k,
   ⟨(i,0,B,Q,w.columns,m3),⟨rfl,rfl,rfl,rfl,aC,L,x.other Y J.other,⟨_,_,J.at_,rfl⟩,.zero⟩,MT⟩,?_⟩
  rintro⟨i,k,B,Q,_,M⟩ ⟨rfl,rfl,rfl,rfl,hk,d,E,F,a'⟩;dsimp only;refine aD (λG=>?_) (λa8=>?_)
  .obtain⟨c,hc⟩:=dO a2 G;obtain⟨bc,oc,ec,rc⟩:=Gb.at f.columns hc;have z:∀mz,Sub m mz->¬XY (t.columns.take k) c->jF h K (.val (.bool false)) mz h:=λmz hz hn=>.sub hz (hf (Good.not U (λg=>Good.not hc hn g.2.2.2.2)));refine⟨bc,oc,ec,aC,G,c,.imm rc,c.name,rfl,aB (λh4=>z M d λg=>?_) (λh4=>⟨_,_,F.look,Ee,⟨_,rfl⟩,JP,λH=>⟨_,_,F,Ee,⟨_,rfl⟩,JP,V4 (Hf H),λm4 a0 C=>?_⟩,λy hy=>?_⟩)⟩
   .rw[g.1]at h4;cases h4
   .have C:=MO.snoc C;rw[<-iN hc]at C;have A:Sub m m4:=d.upd (j.free I.m_) a0.other;have O:eH c.kind=true->XY (t.columns.take k) c:=λe=>⟨cg,e,Hf H⟩
    have P:eH c.kind=false->¬XY (t.columns.take k) c:=λe g=>by rw[g.2.1]at e;cases e
    have a6:=E.other Y a0.other
    repeat' (first|(refine aB (λ_=>?_) (λ_=>?_))|(refine z m4 A (P ?_);simp_all [eH];done)|exact⟨(i,k+1,B,Q,w.columns,m4),⟨rfl,rfl,rfl,rfl,ck,A,a6,C,a'.succ hc (O (by simp_all [eH]))⟩,cj,MT⟩)
   .obtain⟨a1,rfl⟩:=V5 hy;exact aB (λ_=>z M d λg=>g.2.2 a1) (λe=>by cases e)
  .refine⟨(i+1,B,M),⟨aC,d,S,E,u.succ U (W Z cg aC aC (a'.all aC))⟩,?_,MT⟩;omega
 .obtain⟨a1,rfl⟩:=V5 hy;exact aB (λ_=>bad λg=>g.2.2.2.1 cg) (λe=>by cases e)
theorem Ph{α:Type}{f:α->ByteArray}{l:List α}{x:α}{n:ByteArray}(c:l[i]? =some x)(h:n∉(l.take i).map f)(d:f x≠n):n∉(l.take (i+1)).map f:=by
 rw[iN c,mem_append]
 grind
theorem cfX{α:Type}{f:α->ByteArray}{l:List α}{x:α}{n:ByteArray}(d:l[i]? =some x)(e:i<k)(c:f x=n):n∈(l.take k).map f:=
 mem_map.2 ⟨x,mem_of_getElem? (i:=i) cg,c⟩
theorem ZU:di 149 bGQ:=by
 refine fU func149 ?_;rintro a2 m h K ⟨v,s,t,i,rfl,F,U,V⟩;refine⟨bwQ v i m h,rfl,aE Zg (aE Qo aG),To v i m h K,bu,?_⟩;dsimp only[To,push_cast];have hl:=F.tables.slen;have W:=F.tables.len;have a3:i<s.tables.length:=(cn U);have bad:¬D7 (s.tables.take i) t->K (.val (.bool false)) m h:=λh=>V false ⟨λe=>(by cases e),λe=>(h e).elim⟩;obtain⟨bb,o,w,ea,hr,d⟩:=F.tables.at U;have G:=bI.slen d.columns;have a4:=bI.len d.columns;have D:=d.name;have a5:=d.key;refine⟨bb,o,ea,aC,aC,w,.imm hr,w.name,rfl,aB (λh1=>bad λf=>?_) (λh1=>aB (λh2=>bad λf=>?_) (λh2=>aD (λh3=>bad λf=>?_) (λh3=>aD (λh4=>bad λf=>?_) (λh4=>?_))))⟩
 .have:=f.1;grind
 .have:=f.2.1;have:=f.2.2.1;grind
 .have:=f.2.1;omega
 .have:=f.2.2.1;omega
 refine⟨λ⟨k,A⟩=>A=w/\k<=i/\t.name∉(s.tables.take k).map A8.name,λ⟨k,_⟩=>i-k,⟨(0,w),⟨rfl,aC,bx⟩,MT⟩,?_⟩;rintro⟨k,w⟩ ⟨rfl,hk,E⟩;dsimp only;refine aD (λg=>?_) (λa6=>?_)
 .obtain⟨X,B⟩:∃X,s.tables[k]? =some X:=⟨s.tables[k]'(by omega),cq _⟩
  obtain⟨b',o',A,H,I,n⟩:=F.tables.at B;refine⟨b',o',H,aC,aC,A.name,.imm (bZ.part I 0 1),aB (λe=>bad λf=>?_) (λe=>?_)⟩
  .refine f.2.2.2.1 (cfX B aC ?_);rw[<-n.name, <-D];exact nV (cm e)
  .refine⟨(k+1,w),⟨rfl,aC,Ph B E λY=>?_⟩,aC,MT⟩;rw[<-n.name, <-D]at Y
   grind
 .have J:k=i:=by omega
  subst J;refine⟨λ⟨k,A⟩=>A=w/\k<=t.columns.length/\fC XY t.columns k,λ⟨k,_⟩=>t.columns.length-k,⟨(0,w),⟨rfl,aC,.zero⟩,MT⟩,?_⟩;rintro⟨c,w⟩ ⟨rfl,hc,Z⟩;dsimp only;refine aD (λg=>?_) (λa'=>V true ⟨λ_=>⟨cg,aC,aC,E,Z.all aC⟩,λ_=>rfl⟩);obtain⟨x,C⟩:=dO G g;obtain⟨L,M,O,P⟩:=Gb.at d.columns C;have u:¬XY (t.columns.take c) x->K (.val (.bool false)) m h:=λhn=>bad λf=>Good.not C hn f.2.2.2.2;refine⟨L,M,O,aC,g,x.name,.imm (bZ.part P 0 1),x.name,rfl,aB (λQ=>u λf=>?_) (λQ=>⟨L,M,O,aC,g,x.kind,.imm (bZ.part P 1 1),x.kind,rfl,aB (λR=>u λf=>?_) (λR=>?_)⟩)⟩
  .rw[f.1]at Q;cases Q
  .rw[f.2.1]at R;cases R
  refine⟨λ⟨c',j,A⟩=>A=w/\c'=c/\j<=c/\x.name∉(t.columns.take j).map pB.name,λ⟨_,j,_⟩=>c-j,⟨(c,0,w),⟨rfl,rfl,aC,bx⟩,MT⟩,?_⟩;rintro⟨c,j,w⟩ ⟨rfl,rfl,hj,z⟩;dsimp only;refine aD (λa0=>?_) (λa1=>?_)
  .obtain⟨y,S⟩:∃y,t.columns[j]? =some y:=⟨t.columns[j]'(by omega),cq _⟩
   obtain⟨T,oy,ey,ry⟩:=Gb.at d.columns S;refine⟨T,oy,ey,aC,aC,y.name,.imm (bZ.part ry 0 1),L,M,O,aC,g,x.name,.imm (bZ.part P 0 1),aB (λe=>u λf=>?_) (λe=>?_)⟩
   .exact f.2.2 (cfX S aC (nV (cm e)))
   .refine⟨(c,j+1,w),⟨rfl,rfl,cg,Ph S z λY=>?_⟩,cg,MT⟩
    grind
  .have:j=c:=by omega
   subst this;exact⟨(j+1,w),⟨rfl,aC,Z.succ C ⟨cg,cg,z⟩⟩,aC,MT⟩
def Jr(t g:A8)(k:Nat)(c:Int):Prop:=0<=c/\c<t.columns.length/\∃x y,t.columns[c.toNat]? =some x/\g.columns[k]? =some y/\x.kind=y.kind
def bJQ(tabs:List A8)(t:A8)(_:List Ref)(r:Ref):Prop:=0<=r.table/\r.table<tabs.length/\∃g,tabs[r.table.toNat]? =some g/\(r.columns.length:Int)=g.key/\Good (λd c=>Jr t g d.length c) r.columns
def F5(tabs:List A8)(_:List A8)(t:A8):Prop:=Good (bJQ tabs t) t.refs
def bIJ:Vc.Spec:=λc m h K=>∃v s,c=[aS v]/\fR h s v/\Good D7 s.tables/\∀r:Bool,(r=true↔Good (F5 s.tables) s.tables)->K (cB r) m h
def ayZ:Vc.Spec:=λc m h K=>∃v s t,∃i:Nat,c=[aS v,cI i]/\fR h s v/\Good D7 s.tables/\s.tables[i]? =some t/\∀r:Bool,(r=true↔F5 s.tables [] t)->K (cB r) m h
noncomputable def buJ(v:bX)(m:MH)(h:PH):Ctx:=
 cT [] [(2,{A:=Nat,st:=λi=>bO 82 83 [(1,.at (.ptr 1 0)),(11,sv v.tables),(12,iv v.tables.len),(13,iv i)] [(1,.cells 43 (v.enc.map .val))] m h}),
  (5,{A:=Nat×Nat×cR,st:=λ⟨i,k,w⟩=>bO 82 83 [(1,.at (.ptr 1 0)),(4,.at (.ptr 4 0)),(11,sv v.tables),(12,iv v.tables.len),(13,iv i),(18,sv w.references),(19,iv w.references.len),(20,iv k)] [(1,.cells 43 (v.enc.map .val)),(4,.cells 87 (w.enc.map .val))] m h}),
  (13,{A:=Nat×Nat×Nat×cR×cR×Sl,st:=λ⟨i,k,j,w,g,c⟩=>bO 82 83 [(1,.at (.ptr 1 0)),(4,.at (.ptr 4 0)),(7,.at (.ptr 7 0)),(11,sv v.tables),(12,iv v.tables.len),(13,iv i),(18,sv w.references),(19,iv w.references.len),(20,iv k),(48,sv c),(49,iv c.len),(50,iv j)] [(1,.cells 43 (v.enc.map .val)),(4,.cells 87 (w.enc.map .val)),(7,.cells 87 (g.enc.map .val))] m h})] [] [] false
noncomputable def bvJ(v:bX)(m:MH)(h:PH):Ctx:=
 cT [] [(3,{A:=Nat×cR,st:=λ⟨k,w⟩=>bO 85 87 [(2,.at (.ptr 2 0)),(5,.at (.ptr 5 0)),(16,sv w.references),(17,iv w.references.len),(18,iv k)] [(2,.cells 43 (v.enc.map .val)),(5,.cells 87 (w.enc.map .val))] m h}),
  (8,{A:=Nat×Nat×cR×Ga,st:=λ⟨k,j,w,r⟩=>bO 85 87 [(2,.at (.ptr 2 0)),(5,.at (.ptr 5 0)),(7,.at (.ptr 7 0)),(16,sv w.references),(17,iv w.references.len),(18,iv k),(47,sv r.columns),(48,iv r.columns.len),(49,iv j)] [(2,.cells 43 (v.enc.map .val)),(5,.cells 87 (w.enc.map .val)),(7,.cells 146 (r.enc.map .val))] m h})] [] [] false
abbrev j6(a:(Nat->Prop)->Nat->Prop)(b:(Nat->Prop)->(Nat->Nat)->Nat->Prop):Prop:=∃(x:Nat->Prop)(d:Nat->Nat),pX (∃(c:Nat),a x c) (λc=>b x d c)
abbrev dW:Prop:=eP 1
abbrev fI:Prop:=eP 4
abbrev Eo(a b:cR):Prop:=bA a.references b.references
abbrev Ep(a b:cR):Prop:=cJ a.references b.references
abbrev gI:Prop:=eP 7
noncomputable abbrev uX(a:Nat×Nat×Nat×cR×cR×Sl):cR:=a.2.2.2.1
noncomputable abbrev Ap(a:Nat×Nat×Nat×cR×cR×Sl):Sl:=a.2.2.2.2.2
noncomputable abbrev xX(a:Nat×Nat×Nat×cR×cR×Sl):Nat:=a.2.2.1
noncomputable abbrev H7(a:Nat×Nat×Nat×cR×cR×Sl):cR:=a.2.2.2.2.1
attribute [push_cast] j6 dW fI Eo Ep gI uX Ap xX H7
def Mn(v:bX)(m:MH)(h:PH)(K:dk):Prop:=
  j6 (λI x=>aA (I x) dW (aA (sA v) (iZ v) (aA (aZ x) (bP v) (aA (m=m) (h=h) True)))) (λI n x=>Hg (I x) x v (λb o y=>aR m h b (bE o x 5) (AF y)/\∃(I1:Nat×Nat×cR->Prop)(t:Nat×Nat×cR->Nat),(∃(d:Nat×Nat×cR),aA (I1 d) dW (aA fI (sA v) (aA (iZ v) (bV x d.1) (aA (Eo y (lX d)) (Ep y (lX d)) (aA (aZ (sL d)) (bP v) (aA (oQ 87 (gJ y)=oQ 87 (gJ (lX d))) (m=m) (bR h h)))))))/\∀(d:Nat×Nat×cR),I1 d->aW (↑(sL d):Int) (aF (lX d).references) (aJ (λu z=>aI (aK (lX d).references.a u z) (0<=(↑(sL d):Int)) ((↑(sL d):Int)<aF (lX d).references) (∃(f:Ga),aR m h u (bE z (sL d) 2) (nL (iI f.columns) (fE f.table))/\
 aW f.table 0 (K aX m h) (eK f.table (gE v) (K aX m h) (aJ (λA B=>aI (aK (lW v) A B) (0<=f.table) (f.table<aF v.tables) (∃(j:cR),aR m h A (cC B f.table 5) (AF j)/\cK (aF f.columns) j.key (K aX m h) (∃(I2:Nat×Nat×Nat×cR×cR×Sl->Prop)(C:Nat×Nat×Nat×cR×cR×Sl->Nat),(∃(c:Nat×Nat×Nat×cR×cR×Sl),aA (I2 c) dW (aA fI gI (aA (sA v) (iZ v) (aA (bV d.1 c.1) (Eo (lX d) (uX c)) (aA (Ep (lX d) (uX c)) (bV (sL d) c.2.1) (aA (bA f.columns (Ap c)) (cJ f.columns (Ap c)) (aA (aZ (xX c)) (bP v) (aA (oQ 87 (gJ (lX d))=oQ 87 (gJ (uX c))) (oQ 87 (gJ j)=oQ 87 (gJ (H7 c))) (bG m m h h)))))))))/\∀(c:Nat×Nat×Nat×
 cR×cR×Sl),I2 c->aW (↑(xX c):Int) (aF (Ap c)) (aJ (λD E=>aI (aK (Ap c).a D E) (0<=(↑(xX c):Int)) ((↑(xX c):Int)<aF (Ap c)) (∃(g:Int),aR m h D (bE E (xX c) 1) (bQ g)/\aW g 0 (K aX m h) (eK g (AR (uX c)) (K aX m h) (aJ (λF G=>aI (aK (uX c).columns.a F G) (0<=g) (g<aF (uX c).columns) (∃(H:Int),aR m h F (cC G g 2+1) (bQ H)/\aJ (λJ L=>aI (aK (H7 c).columns.a J L) (0<=(↑(xX c):Int)) ((↑(xX c):Int)<aF (H7 c).columns) (∃(M:Int),aR m h J (bE L (xX c) 2+1) (bQ M)/\cK H M (K aX m h) (∃(e:Nat×Nat×Nat×cR×cR×Sl),aA (I2 e) (C e<C c) (aA dW fI (aA gI (sA v) (aA (iZ v)
 (bV c.1 e.1) (aA (Eo (uX c) (uX e)) (Ep (uX c) (uX e)) (aA (bV c.2.1 e.2.1) (bA (Ap c) (Ap e)) (aA (cJ (Ap c) (Ap e)) (eR (bF ((↑(xX c):Int)+1))=bL (xX e)) (aA (bP v) (oQ 87 (gJ (uX c))=oQ 87 (gJ (uX e))) (bS (oQ 87 (gJ (H7 c))=oQ 87 (gJ (H7 e))) m m h h)))))))))))))))))) (∃(e:Nat×Nat×cR),aA (I1 e) (t e<t d) (aA dW fI (aA (aH v.tables) (iZ v) (aA (bV c.1 e.1) (Eo (uX c) (lX e)) (aA (Ep (uX c) (lX e)) (eR (bF ((↑c.2.1:Int)+1))=bL (sL e)) (aA (bP v) (oQ 87 (gJ (uX c))=oQ 87 (gJ (lX e))) (bG m m h h))))))))))))))) (∃(c:Nat),aA (I c) (n c<n x) (aA dW (sA v) (aA (iZ v) (eR (bF ((↑d.1:
 Int)+1))=bL c) (aA (bP v) (m=m) (bR h h)))))) (K dR m h))
noncomputable abbrev uY(a:Nat×Nat×cR×Ga):cR:=a.2.2.1
noncomputable abbrev tT(a:Nat×Nat×cR×Ga):Sl:=a.2.2.2.columns
noncomputable abbrev EP(a:Nat×Nat×cR×Ga):Int:=a.2.2.2.table
attribute [push_cast] uY tT EP
def Mp(v:bX)(i:Nat)(m:MH)(h:PH)(K:dk):Prop:=
  aJ (λb o=>aI (aK (lW v) b o) (0<=(↑i:Int)) ((↑i:Int)<aF v.tables) (∃(y:cR),aR m h b (bE o i 5) (AF y)/\N2 (λI x=>aA (I x) cW (aA dM (Eo y x.2) (aA (Ep y x.2) (aZ x.1) (aA (bP v) (ER y x) (bG m m h h))))) (λI j x=>I x->aW (↑x.1:Int) (aF x.2.references) (aJ (λn t=>aI (aK x.2.references.a n t) (0<=(↑x.1:Int)) ((↑x.1:Int)<aF x.2.references) (∃(e:Ga),aR m h n (bE t x.1 2) (nL (iI e.columns) (fE e.table))/\aW e.table 0 (K aX m h) (eK e.table (gE v) (K aX m h) (aJ (λu z=>aI (aK (lW v) u z) (0<=e.table) (e.table<aF v.tables) (∃(A:Int),aR m h u (cC z e.table 5+2) (bQ A)/\cK (aF e.columns) A (K aX m h) (∃(I1:Nat×Nat×cR×Ga->Prop)(B:
 Nat×Nat×cR×Ga->Nat),(∃(c:Nat×Nat×cR×Ga),aA (I1 c) cW (aA dM gI (aA (Eo x.2 (uY c)) (Ep x.2 (uY c)) (aA (bV x.1 c.1) (bA e.columns (tT c)) (aA (cJ e.columns (tT c)) (aZ c.2.1) (aA (bP v) (oQ 87 (gJ x.2)=oQ 87 (gJ (uY c))) (bS (oQ 146 (iU (jR e.columns) (fL e.table))=oQ 146 (iU (jR (tT c)) (fL (EP c)))) m m h h)))))))/\∀(c:Nat×Nat×cR×Ga),I1 c->aW (↑c.2.1:Int) (aF (tT c)) (aJ (λC D=>aI (aK (tT c).a C D) (0<=(↑c.2.1:Int)) ((↑c.2.1:Int)<aF (tT c)) (∃(f:Int),aR m h C (bE D c.2.1 1) (bQ f)/\aW f 0 (K aX m h) (eK f (AR (uY c)) (K aX m h) (aJ (λE F=>aI (aK (uY c).columns.a E F) (0<=f) (f<aF
 (uY c).columns) (∃(G:Int),aR m h E (cC F f 2+1) (bQ G)/\aJ (λH J=>aI (aK (lW v) H J) (0<=EP c) (EP c<aF v.tables) (∃(g:Sl),aR m h H (cC J (EP c) 5+1) (aM g)/\aJ (λL M=>aI (aK g.a L M) (0<=(↑c.2.1:Int)) ((↑c.2.1:Int)<aF g) (∃(O:Int),aR m h L (bE M c.2.1 2+1) (bQ O)/\cK G O (K aX m h) (∃(d:Nat×Nat×cR×Ga),aA (I1 d) (B d<B c) (aA cW dM (aA gI (Eo (uY c) (uY d)) (aA (Ep (uY c) (uY d)) (bV c.1 d.1) (aA (bA (tT c) (tT d)) (cJ (tT c) (tT d)) (aA (eR (bF ((↑c.2.1:Int)+1))=bL d.2.1) (bP v) (aA (oQ 87 (gJ (uY c))=oQ 87 (gJ (uY d))) (oQ 146 (iU (jR (tT c)) (fL (EP c)))=oQ 146
 (iU (jR (tT d)) (fL (EP d)))) (aA (m=m) (h=h) True))))))))))))))))))) (∃(d:Nat×cR),aA (I d) (j d<j x) (aA cW dM (aA (Eo (uY c) d.2) (Ep (uY c) d.2) (aA (eR (bF ((↑c.1:Int)+1))=bL d.1) (bP v) (bS (ER (uY c) d) m m h h))))))))))))) (K dR m h))))
theorem Ints.at'{s:Sl}(r:Ints h s l){x:Int}(c:l[i]? =some x):∃b o,s.a=some ⟨b,o,none⟩/\bZ h b (o+i*1) [.int .i64 x]:=by
 obtain⟨b,o,e,k⟩:=r.at c
 grind
theorem Vv{α:Type}{l:List α}{x:α}(h:l[i]? =some x):(l.take i).length=i:=by
 grind
theorem Good.key_le{tabs:List A8}(h:Good D7 tabs){g:A8}(c:tabs[i]? =some g):g.key<=g.columns.length:=(h i g c).2.2.1
theorem b9Z{v:bX}(P:fR h s v)(C:Good D7 s.tables)(hK:∀r:Bool,(r=true↔Good (F5 s.tables) s.tables)->K (cB r) m h):Mn v m h K:=by
 dsimp only[Mn,push_cast];have hl:=P.tables.slen;have a8:=P.tables.len;have hf:¬Good (F5 s.tables) s.tables->K (.val (.bool false)) m h:=λh=>hK false ⟨λe=>(by cases e),λe=>(h e).elim⟩;refine⟨λi=>i<=s.tables.length/\fC (F5 s.tables) s.tables i,λi=>s.tables.length-i,⟨0,⟨aC,.zero⟩,MT⟩,λi⟨hi,hg⟩=>aD (λH=>?_) (λb1=>hK true ⟨λ_=>hg.all aC,λ_=>rfl⟩)⟩;obtain⟨t,R⟩:=dO hl H;obtain⟨b,o,w,ea,hr,f⟩:=P.tables.at R;have b7:=bI.slen f.columns;have S:=bI.slen f.refs;have b8:=bI.len f.refs;refine⟨b,o,ea,aC,H,w,.imm hr,λ⟨T,k,U⟩=>T=i/\U=w/\k<=t.refs.length/\fC (bJQ s.tables t) t.refs k,λ⟨_,k,_⟩=>t.refs.length-k,⟨(i,0,w),⟨rfl,rfl,aC,.zero⟩,MT⟩,?_⟩;rintro⟨i,k,w⟩ ⟨rfl,rfl,hk,I⟩;dsimp only;refine aD (λA=>?_) (λa9=>⟨i+1,⟨aC,hg.succ R (I.all aC)⟩,aC,MT⟩);obtain⟨r,D⟩:=dO S A;obtain⟨b2,o2,F,V,W,d⟩:=f.refs.at D;have X:=d.columns.slen;have b9:=d.columns.len;have rt:=d.table;have bad:¬bJQ s.tables t (t.refs.take k) r->K (.val (.bool false)) m h:=λhn=>hf (Good.not R (Good.not D hn));refine⟨b2,o2,V,aC,A,F,.imm W,aD (λh1=>bad λu=>?_) (λh1=>aD (λh2=>bad λu=>?_) (λh2=>?_))⟩
 .have:=u.1;omega
 .have:=u.2.1;omega
 obtain⟨g,b3,o3,G,J,Y,Z,n⟩:=P.table (t:=F.table) aC aC;have c':=bI.slen n.columns;have b':=C.key_le J;have gk:=n.key;refine⟨b3,o3,Y,aC,aC,G,.imm Z,aB (λh3=>bad λu=>?_) (λh3=>?_)⟩
 .obtain⟨_,_,g',E,c0,_⟩:=u
  grind
 have h3:(F.columns.len:Int)=G.key:=cg
 refine⟨λ⟨T,k',j,U,g',sl⟩=>T=i/\k'=k/\U=w/\g'=G/\sl=F.columns/\j<=r.columns.length/\fC (λa' c=>Jr t g a'.length c) r.columns j,λ⟨_,_,j,_,_,_⟩=>r.columns.length-j,⟨(i,k,0,w,G,F.columns),⟨rfl,rfl,rfl,rfl,rfl,aC,.zero⟩,MT⟩,?_⟩;rintro⟨i,k,j,w,G,_⟩ ⟨rfl,rfl,rfl,rfl,rfl,hj,L⟩;dsimp only;refine aD (λB=>?_) (λb0=>⟨(i,k+1,w),⟨rfl,rfl,cg,I.succ D ⟨aC,aC,g,cg,aC,L.all aC⟩⟩,cg,MT⟩);obtain⟨c,Q⟩:=dO X B;obtain⟨b4,o4,a0,a1⟩:=d.columns.at' Q;have a2:=Vv Q
 have z:¬Jr t g j c->K (.val (.bool false)) m h:=λhn=>bad λu=>by
  obtain⟨_,_,g',E,_,a3⟩:=u;rw[<-rt,J]at E;cases E;have:=a3 j c Q
  grind
 refine⟨b4,o4,a0,aC,B,c,.imm a1,aD (λh5=>z λu=>?_) (λh5=>aD (λh6=>z λu=>?_) (λh6=>?_))⟩
 .have:=u.1;omega
 .have:=u.2.1;omega
 obtain⟨x,M⟩:∃x,t.columns[c.toNat]? =some x:=⟨t.columns[c.toNat]'(by omega),cq _⟩
 obtain⟨y,O⟩:∃y,g.columns[j]? =some y:=⟨g.columns[j]'(by omega),cq _⟩
 obtain⟨b5,o5,a4,a5⟩:=Gb.at f.columns M;obtain⟨b6,o6,a6,a7⟩:=Gb.at n.columns O;refine⟨b5,o5,a4,aC,aC,x.kind,.imm (bZ.part a5 1 1),b6,o6,a6,aC,aC,y.kind,.imm (bZ.part a7 1 1),aB (λh7=>z λu=>?_) (λh7=>?_)⟩
 .obtain⟨_,_,x',y',e1,e2,e3⟩:=u
  grind
 .exact⟨(i,k,j+1,w,G,F.columns),⟨rfl,rfl,rfl,rfl,rfl,cg,L.succ Q (by show Jr t g (List.take j r.columns).length c;rw[a2];exact⟨aC,aC,x,y,M,O,cg⟩)⟩,cg,MT⟩
theorem ZR:di 155 bIJ:=by
 refine fU func155 ?_;rintro c m h K ⟨v,s,rfl,d,e,f⟩;refine⟨buJ v m h,rfl,aG,Mn v m h K,bu,?_⟩;exact b9Z d e f
theorem b9J{v:bX}{t:A8}(P:fR h s v)(C:Good D7 s.tables)(hx:s.tables[i]? =some t)(hK:∀r:Bool,(r=true↔F5 s.tables [] t)->K (cB r) m h):Mp v i m h K:=by
 dsimp only[Mp,push_cast];have hl:=P.tables.slen;have a5:=P.tables.len;have a9:i<s.tables.length:=(cn hx);have hf:¬F5 s.tables [] t->K (.val (.bool false)) m h:=λh=>hK false ⟨λe=>(by cases e),λe=>(h e).elim⟩;obtain⟨b,o,w,ea,hr,f⟩:=P.tables.at hx;have b':=bI.slen f.columns;have R:=bI.slen f.refs;have b0:=bI.len f.refs;refine⟨b,o,ea,aC,aC,w,.imm hr,λ⟨k,S⟩=>S=w/\k<=t.refs.length/\fC (bJQ s.tables t) t.refs k,λ⟨k,_⟩=>t.refs.length-k,⟨(0,w),⟨rfl,aC,.zero⟩,MT⟩,?_⟩;rintro⟨k,w⟩ ⟨rfl,hk,G⟩;dsimp only;refine aD (λA=>?_) (λa6=>hK true ⟨λ_=>G.all aC,λ_=>rfl⟩);obtain⟨r,D⟩:=dO R A;obtain⟨b2,o2,E,T,U,d⟩:=f.refs.at D;have V:=d.columns.slen;have b1:=d.columns.len;have rt:=d.table;have bad:¬bJQ s.tables t (t.refs.take k) r->K (.val (.bool false)) m h:=λhn=>hf (Good.not D hn);refine⟨b2,o2,T,aC,A,E,.imm U,aD (λh1=>bad λu=>?_) (λh1=>aD (λh2=>bad λu=>?_) (λh2=>?_))⟩
 .have:=u.1;omega
 .have:=u.2.1;omega
 obtain⟨g,b3,o3,W,H,I,J,n⟩:=P.table (t:=E.table) aC aC;have b7:=bI.slen n.columns;have a7:=C.key_le H;have gk:=n.key;refine⟨b3,o3,I,aC,aC,W.key,.imm (bZ.part J 2 1),aB (λh3=>bad λu=>?_) (λh3=>?_)⟩
 .obtain⟨_,_,g',F,b8,_⟩:=u
  grind
 have h3:(E.columns.len:Int)=W.key:=cg
 refine⟨λ⟨k',j,S,r'⟩=>k'=k/\S=w/\r'=E/\j<=r.columns.length/\fC (λX c=>Jr t g X.length c) r.columns j,λ⟨_,j,_,_⟩=>r.columns.length-j,⟨(k,0,w,E),⟨rfl,rfl,rfl,aC,.zero⟩,MT⟩,?_⟩;rintro⟨k,j,w,E⟩ ⟨rfl,rfl,rfl,hj,L⟩;dsimp only;refine aD (λB=>?_) (λa8=>⟨(k+1,w),⟨rfl,aC,G.succ D ⟨aC,aC,g,cg,aC,L.all aC⟩⟩,aC,MT⟩);obtain⟨c,Q⟩:=dO V B;obtain⟨b4,o4,Y,Z⟩:=d.columns.at' Q;have a':=Vv Q
 have z:¬Jr t g j c->K (.val (.bool false)) m h:=λhn=>bad λu=>by
  obtain⟨_,_,g',F,_,a0⟩:=u;rw[<-rt,H]at F;cases F;have:=a0 j c Q
  grind
 refine⟨b4,o4,Y,aC,B,c,.imm Z,aD (λh5=>z λu=>?_) (λh5=>aD (λh6=>z λu=>?_) (λh6=>?_))⟩
 .have:=u.1;omega
 .have:=u.2.1;omega
 obtain⟨x,M⟩:∃x,t.columns[c.toNat]? =some x:=⟨t.columns[c.toNat]'(by omega),cq _⟩
 obtain⟨y,O⟩:∃y,g.columns[j]? =some y:=⟨g.columns[j]'(by omega),cq _⟩
 obtain⟨b5,o5,a1,a2⟩:=Gb.at f.columns M;obtain⟨b6,o6,a3,a4⟩:=Gb.at n.columns O;refine⟨b5,o5,a1,aC,aC,x.kind,.imm (bZ.part a2 1 1),b3,o3,I,aC,aC,W.columns,.imm (bZ.part J 1 1),b6,o6,a3,aC,aC,y.kind,.imm (bZ.part a4 1 1),aB (λh7=>z λu=>?_) (λh7=>?_)⟩
 .obtain⟨_,_,x',y',e1,e2,e3⟩:=u
  grind
 .exact⟨(k,j+1,w,E),⟨rfl,rfl,rfl,cg,L.succ Q (by show Jr t g (List.take j r.columns).length c;rw[a'];exact⟨aC,aC,x,y,M,O,cg⟩)⟩,cg,MT⟩
theorem ZT:di 150 ayZ:=by
 refine fU func150 ?_;rintro c m h K ⟨v,s,t,i,rfl,d,e,f,g⟩;refine⟨bvJ v m h,rfl,aG,Mp v i m h K,bu,?_⟩;exact b9J d e f g
def QQ(t:A8):Prop:=t.columns.length<=8/\t.refs.length<=4/\t.checks.length<=4
def CD(s:lL):Prop:=s.tables.length<=8/\Good (λ_ t=>QQ t) s.tables
def Ny(s:lL):Prop:=0<=s.version/\s.version<=1000/\Good D7 s.tables/\Good (F5 s.tables) s.tables
def kB:dl->Int
 |[]=>0
 |e::r=>if e=0 then kB r else e
def xB(s:lL)(i:Nat):dl:=match s.tables[i]? with|some t=>t.checks.map (fH (kA s i) [])|none=>[]
theorem Bi(a b:dl)(h:∀e∈a,e=0):kB (a++b)=kB b:=by
 induction a with
 |nil=>rfl
 |cons x a c=>
  simp only[cons_append,kB];rw[if_pos (h x bx),c λe d=>h e (by simp[d])]
theorem vJ(a:dl)(h:∀e∈a,e=0):kB a=0:=by
 have:=Bi a [] h;simpa[kB]using this
theorem Np{n:Nat}{f:Nat->dl}{e:Int}(o:i<n)(t:∀j<i,∀x∈f j,x=0)(c:∀x∈(f i).take k,x=0)(d:(f i)[k]? =some e)(g:e≠0):kB ((List.range n).flatMap f)=e:=by
 obtain⟨r,rfl⟩:∃r,n=i+(1+r):=⟨n-i-1,aC⟩
 rw[range_add,flatMap_append,Bi]
 .rw[show(List.range (1+r)).map (i+ ·)=i::(range' (i+1) r)from ?_,flatMap_cons, <-take_append_drop k (f i),append_assoc,Bi _ _ c,drop_cons d]
  .simp[kB,g]
  .rw[Nat.add_comm 1 r,range_succ_eq_map];simp[range'_eq_map_range,Nat.add_assoc,Nat.add_comm 1]
 grind
open Classical in
noncomputable def cQ(s:lL):Int:=if CD s then(if Ny s then kB ((List.range s.tables.length).flatMap (xB s))else 70)else 2
def uP:Vc.Spec:=λc m h K=>∃v s,c=[aS v]/\fR h s v/\K (cI (cQ s)) m h
noncomputable def bXX(v:bX)(m:MH)(h:PH):Ctx:=
 cT [(154,bLX),(155,bIJ),(139,y8),(156,tH)] [(4,{A:=Nat,st:=λi=>bO 83 84 [(1,.at (.ptr 1 0)),(16,sv v.tables),(17,iv v.tables.len),(18,iv i)] [(1,.cells 43 (v.enc.map .val))] m h}),
  (12,{A:=Nat×PH,st:=λ⟨i,c⟩=>bO 83 84 [(1,.at (.ptr 1 0)),(58,sv v.tables),(59,iv v.tables.len),(60,iv i)] [(1,.cells 43 (v.enc.map .val))] m c}),
  (16,{A:=Nat×Nat×Sl×Sl×PH,st:=λ⟨i,k,ks,d,c⟩=>bO 83 84 [(1,.at (.ptr 1 0)),(7,sv ks),(58,sv v.tables),(59,iv v.tables.len),(60,iv i),(69,sv d),(70,iv d.len),(71,iv k)] [(1,.cells 43 (v.enc.map .val))] m c})] [] [] false
noncomputable def bYQ(v:bX)(m:MH)(h:PH):Ctx:=
 cT [(149,bGQ),(150,ayZ),(46,y8),(94,tH)] [(4,{A:=Nat,st:=λi=>bO 96 97 [(1,.at (.ptr 1 0)),(16,sv v.tables),(17,iv v.tables.len),(18,iv i)] [(1,.cells 43 (v.enc.map .val))] m h}),
  (12,{A:=Nat,st:=λi=>bO 96 97 [(1,.at (.ptr 1 0)),(49,iv v.tables.len),(50,iv i)] [(1,.cells 43 (v.enc.map .val))] m h}),
  (18,{A:=Nat,st:=λi=>bO 96 97 [(1,.at (.ptr 1 0)),(60,iv v.tables.len),(61,iv i)] [(1,.cells 43 (v.enc.map .val))] m h}),
  (24,{A:=Nat×PH,st:=λ⟨i,c⟩=>bO 96 97 [(1,.at (.ptr 1 0)),(71,iv v.tables.len),(72,iv i)] [(1,.cells 43 (v.enc.map .val))] m c}),
  (27,{A:=Nat×Nat×Sl×PH,st:=λ⟨i,k,d,c⟩=>bO 96 97 [(1,.at (.ptr 1 0)),(7,iv i),(71,iv v.tables.len),(72,iv i),(80,sv d),(81,iv d.len),(82,iv k)] [(1,.cells 43 (v.enc.map .val))] m c})] [] [] false
abbrev sX(a b:dj)(c d:Prop):Prop:=aA (gK a=gK b) c d
abbrev HR(a:(Nat×PH->Prop)->(Nat×PH)->Prop)(b:(Nat×PH->Prop)->(Nat×PH->Nat)->(Nat×PH)->Prop):Prop:=∃(x:Nat×PH->Prop)(d:Nat×PH->Nat),(∃(c:Nat×PH),a x c)/\∀(c:Nat×PH),b x d c
abbrev C1(a:eb)(b:Nat->Nat->Option Value)(c:Sl->PH->Prop):Prop:=qS (λx d=>∃(f:Int),aI (a=bD (gV (cD x)) f) (fR b d x) (nM d) (fT (λg e=>dN b e (Ints e g (kA d f)) (c g e))))
noncomputable abbrev Aq(a:Nat×Nat×Sl×Sl×PH):Sl:=a.2.2.2.1
noncomputable abbrev Ds(a:Nat×Nat×Sl×Sl×PH):Nat->Nat->Option Value:=a.2.2.2.2
abbrev EH(a:eb)(b:PH)(c:dl->dl->Pred->Prop):Prop:=gQ (λx d=>∃(e:PV),mV (λf g=>∃(j:Pred),aA (a=cA x (fP d (pZ e))) (Ints b x f) (aA (Ints b d g) (dX b j e) (c f g j))))
attribute [push_cast] sX HR C1 Aq Ds EH
def PU(v:bX)(m:MH)(h:PH)(K:dk):Prop:=
  fA (gE v) 8 (K (fN 2) m h) (j6 (λI x=>aA (I x) dW (aA (sA v) (iZ v) (aA (aZ x) (bP v) (aA (m=m) (h=h) True)))) (λI j x=>Hg (I x) x v (λb o y=>aR m h b (bE o x 5) (AF y)/\mY (decide (AR y>8)) (K (fN 2) m h) (aF y.references) 4 (K (fN 2) m h) (fA (aF y.checks) 4 (K (fN 2) m h) (∃(e:Nat),aA (I e) (j e<j x) (aA dW (sA v) (aA (iZ v) (eR (bF ((↑x:Int)+1))=bL e) (aA (bP v) (m=m) (bR h h))))))) (aW v.version 0 (K (fN 70) m h) (fA v.version 1000 (K (fN 70) m h) (qS (λn s=>sX (cD v) (cD n) (fR h s n) (∀(r:Bool),eT (eZ r↔Good D7 s.tables) (!r) (K (fN 70) m h) (qS (λt g=>aI (gK (cD v)=gK (cD t)) (fR h g t) (Good D7 g.tables) (∀(u:Bool),eT (eZ u↔
 Good (F5 g.tables) g.tables) (!u) (K (fN 70) m h) (HR (λI1 e=>aA (I1 e) dW (aA (sA v) (iZ v) (aA (aZ e.1) (bP v) (aA (m=m) (h=e.2) True)))) (λI1 z e=>Hg (I1 e) e.1 v (λb o y=>aR m e.2 b (bE o e.1 5) (AF y)/\C1 (bD (gV (cD v)) (↑e.1:Int)) e.2 (λF G=>∃(I2:Nat×Nat×Sl×Sl×PH->Prop)(A:Nat×Nat×Sl×Sl×PH->Nat),(∃(d:Nat×Nat×Sl×Sl×PH),aA (I2 d) dW (aA (bA F d.2.2.1) (sA v) (aA (iZ v) (bV e.1 d.1) (aA (bA y.checks (Aq d)) (cJ y.checks (Aq d)) (aA (aZ d.2.1) (bP v) (aA (m=m) (G=Ds d) True))))))/\∀(d:Nat×Nat×Sl×Sl×PH),I2 d->aW (↑d.2.1:Int) (aF (Aq d)) (aJ (λB C=>aI (aK (Aq d).a B C) (0<=(↑d.2.1:Int)) ((↑d.2.1:Int)<
 aF (Aq d)) (∃(D:PV),aR m (Ds d) B (bE C d.2.1 13) D.enc/\EH (cA d.2.2.1 (nO iO (pZ D))) (Ds d) (λc p E=>cK (fH c p E) 0 (K (fN (fH c p E)) m (Ds d)) (∃(f:Nat×Nat×Sl×Sl×PH),aA (I2 f) (A f<A d) (aA dW (bA d.2.2.1 f.2.2.1) (aA (aH v.tables) (iZ v) (aA (bV d.1 f.1) (bA (Aq d) (Aq f)) (aA (cJ (Aq d) (Aq f)) (eR (bF ((↑d.2.1:Int)+1))=bL f.2.1) (aA (bP v) (m=m) (bR (Ds d) (Ds f)))))))))))) (∃(f:Nat×PH),aA (I1 f) (z f<z e) (aA dW (sA v) (aA (iZ v) (eR (bF ((↑d.1:Int)+1))=bL f.1) (aA (bP v) (m=m) (bR (Ds d) f.2))))))) (K (fN 0) m e.2)))))))))))))
abbrev Oj(a:lL)(b:Nat)(c:A8):Prop:=a.tables[b]? =Option.some c
noncomputable abbrev Ar(a:Nat×Nat×Sl×PH):Sl:=a.2.2.1
attribute [push_cast] Oj Ar
def PX(v:bX)(m:MH)(h:PH)(K:dk):Prop:=
  fA (gE v) 8 (K (fN 2) m h) (j6 (λI x=>aA (I x) dW (aA (sA v) (iZ v) (aA (aZ x) (bP v) (aA (m=m) (h=h) True)))) (λI z x=>Hg (I x) x v (λb o y=>aR m h b (bE o x 5) (AF y)/\mY (decide (AR y>8)) (K (fN 2) m h) (aF y.references) 4 (K (fN 2) m h) (fA (aF y.checks) 4 (K (fN 2) m h) (∃(g:Nat),aA (I g) (z g<z x) (aA dW (sA v) (aA (iZ v) (eR (bF ((↑x:Int)+1))=bL g) (aA (bP v) (m=m) (bR h h))))))) (aW v.version 0 (K (fN 70) m h) (fA v.version 1000 (K (fN 70) m h) (j6 (λI1 g=>aA (I1 g) dW (aA (iZ v) (aZ g) (bS (bP v) m m h h))) (λI1 A g=>I1 g->aW (↑g:Int) (aF v.tables) (qS (λn s=>∃(t:A8)(i:Nat),aI (bD (gV (cD v)) (↑g:Int)=bD (gV (cD n)) (↑i:
 Int)) (fR h s n) (Oj s i t) (∀(r:Bool),eT (eZ r↔D7 (List.take i s.tables) t) (!r) (K (fN 70) m h) (∃(j:Nat),aA (I1 j) (A j<A g) (aA dW (iZ v) (aA (eR (bF ((↑g:Int)+1))=bL j) (bP v) (aA (m=m) (h=h) True))))))) (j6 (λI2 j=>aA (I2 j) dW (aA (iZ v) (aZ j) (bS (bP v) m m h h))) (λI2 B j=>I2 j->aW (↑j:Int) (aF v.tables) (qS (λn s=>∃(t:A8)(i:Nat),aA (bD (gV (cD v)) (↑j:Int)=bD (gV (cD n)) (↑i:Int)) (fR h s n) (aA (Good D7 s.tables) (Oj s i t) (∀(r:Bool),eT (eZ r↔F5 s.tables [] t) (!r) (K (fN 70) m h) (∃(e:Nat),aA (I2 e) (B e<B j) (aA dW (iZ v) (aA (eR (bF ((↑j:Int)+1))=bL e) (bP v) (aA (m=m) (h=h) True)))))))) (HR (λI3 e=>aA (I3 e)
 dW (aA (iZ v) (aZ e.1) (bS (bP v) m m h e.2))) (λI3 C e=>I3 e->aW (↑e.1:Int) (aF v.tables) (aJ (λb o=>aI (aK (lW v) b o) (0<=(↑e.1:Int)) ((↑e.1:Int)<aF v.tables) (∃(y:Sl),aR m e.2 b (bE o e.1 5+4) (aM y)/\∃(I4:Nat×Nat×Sl×PH->Prop)(D:Nat×Nat×Sl×PH->Nat),(∃(d:Nat×Nat×Sl×PH),aA (I4 d) dW (aA (bV e.1 d.1) (iZ v) (aA (bV e.1 d.1) (bA y (Ar d)) (aA (cJ y (Ar d)) (aZ d.2.1) (bS (bP v) m m e.2 d.2.2.2)))))/\∀(d:Nat×Nat×Sl×PH),I4 d->aW (↑d.2.1:Int) (aF (Ar d)) (aJ (λE F=>aI (aK (Ar d).a E F) (0<=(↑d.2.1:Int)) ((↑d.2.1:Int)<aF (Ar d)) (∃(G:PV),aR m d.2.2.2 E (bE F d.2.1 13) G.enc/\C1 (bD (gV (cD v)) (↑d.1:
 Int)) d.2.2.2 (λs u=>EH (cA s (nO iO (pZ G))) u (λc p H=>cK (fH c p H) 0 (K (fN (fH c p H)) m u) (∃(f:Nat×Nat×Sl×PH),aA (I4 f) (D f<D d) (aA dW (bV d.1 f.1) (aA (iZ v) (bV d.1 f.1) (aA (bA (Ar d) (Ar f)) (cJ (Ar d) (Ar f)) (rZ (eR (bF ((↑d.2.1:Int)+1))=bL f.2.1) (bP v) m m u f.2.2.2)))))))))) (∃(f:Nat×PH),aA (I3 f) (C f<C e) (aA dW (iZ v) (aA (eR (bF ((↑d.1:Int)+1))=bL f.1) (bP v) (aA (m=m) (d.2.2.2=f.2) True))))))) (K (fN 0) m e.2)))))))))))
theorem jF.out{d:PH}{r:CV}(e:Sub m m')(c:PH.le h d)(f:K r m h):jF h K r m' d:=⟨m,h,e,.refl _,c,f⟩
theorem sS(h:¬CD s):cQ s=2:=by unfold cQ;rw[if_neg h]
theorem OW(h:CD s)(h':¬Ny s):cQ s=70:=by unfold cQ;grind
theorem LC(h:CD s)(h':Ny s):cQ s=kB ((List.range s.tables.length).flatMap (xB s)):=by unfold cQ;grind
theorem Ec{t:A8}(c:s.tables[i]? =some t)(d:t.checks[k]? =some p):(xB s i)[k]? =some (fH (kA s i) [] p):=by
 unfold xB;grind
theorem M0{t:A8}(c:s.tables[i]? =some t):(xB s i).length=t.checks.length:=by
 unfold xB;rw[c];simp
theorem Rs{e:Int}(c:l[k]? =some e)(h:∀x∈l.take k,x=0)(f:e=0):∀x∈l.take (k+1),x=0:=by
 intro x d;rw[db,c,mem_append]at d
 grind
theorem Vk{f:Nat->dl}(h:∀j<i,∀x∈f j,x=0)(d:(f i).length<=k)(c:∀x∈(f i).take k,x=0):∀j<i+1,∀x∈f j,x=0:=by
 intro j n x g;by_cases e:j=i
 .subst e;rw[cu d]at c;exact c x g
 grind
theorem Ih:di 90 uP:=by
 refine DS func90 ?_;rintro a0 m h K ⟨v,s,rfl,y,hK⟩;refine⟨bXX v m h,rfl,aE ZS (aE ZR (aE Jf (aE Je aG))),PU v m h (jF h K),bu,?_⟩;show PU v m h (jF h K);dsimp only[PU,push_cast];have W:=y.tables.slen;have X:=y.tables.len;have Y:=y.version;have out:∀(f:PH)(x:Int),PH.le h f->cQ s=x->jF h K (.val (.int .i64 x)) m f:=λf x g e=>.out (Sub.refl m) g (by rw[<-e];exact hK);refine aD (λh1=>out h _ (.refl _) (sS λe=>by have:=e.1;omega)) (λh1=>?_);refine⟨λi=>i<=s.tables.length/\fC (λ_ t=>QQ t) s.tables i,λi=>s.tables.length-i,⟨0,⟨aC,.zero⟩,MT⟩,λi⟨hi,Z⟩=>aD (λn=>?_) (λO=>?_)⟩
 .obtain⟨t,f⟩:=dO W n;obtain⟨b,o,w,P,B,c⟩:=y.tables.at f;have e1:=bI.slen c.columns;have e2:=bI.slen c.refs;have e3:=bI.slen c.checks;have bad:¬QQ t->jF h K (.val (.int .i64 2)) m h:=λQ=>out h _ (.refl _) (sS λe=>Good.not f Q e.2);refine⟨b,o,P,aC,n,w,.imm B,aD (λR=>bad λe=>?_) (λR=>aD (λS=>bad λe=>?_) (λS=>aD (λI=>bad λe=>?_) (λI=>⟨i+1,⟨aC,Z.succ f ⟨aC,aC,aC⟩⟩,cg,MT⟩)))⟩
  .have:=e.1;omega
  .have:=e.2.1;omega
  .have:=e.2.2;omega
 have C:CD s:=⟨aC,Z.all aC⟩
 have h8:nM s:=λt H=>by
  obtain⟨j,hj⟩:=mem_iff_getElem?.1 H;exact(C.2 j t hj).1
 have bad:¬Ny s->jF h K (.val (.int .i64 70)) m h:=λQ=>out h _ (.refl _) (OW C Q);refine aD (λR=>bad λe=>?_) (λR=>aD (λS=>bad λe=>?_) (λS=>⟨v,s,rfl,y,λr B=>aB (λI=>bad λe=>?_) (λI=>⟨v,s,rfl,y,B.1 cg,λr2 J=>aB (λT=>bad λe=>?_) (λT=>?_)⟩)⟩))
 .have:=e.1;omega
 .have:=e.2.1;omega
 .rw[B.2 e.2.2.1]at I;cases I
 .rw[J.2 e.2.2.2]at T;cases T
 have ok:Ny s:=⟨aC,aC,B.1 cg,J.1 cg⟩
 rw[LC C ok]at out;refine⟨λ⟨i,f⟩=>i<=s.tables.length/\PH.le h f/\∀j<i,∀x∈xB s j,x=0,λ⟨i,_⟩=>s.tables.length-i,⟨(0,h),⟨aC,.refl _,λj hj=>by omega⟩,MT⟩,?_⟩;rintro⟨i,f⟩ ⟨hi,g,hz⟩;dsimp only;refine aD (λn=>?_) (λO=>out f _ g (vJ _ λe he=>?_))
 .obtain⟨t,H⟩:=dO W n;obtain⟨b,o,w,P,B,c⟩:=(y.mono g).tables.at H;have cl:=bI.slen c.checks;have cb:=bI.len c.checks;refine⟨b,o,P,aC,n,w,.imm B,v,s,i,rfl,y.mono g,h8,λsl h' z D=>?_⟩;refine⟨λ⟨i',k,ks,cs,E⟩=>i'=i/\cs=w.checks/\k<=t.checks.length/\PH.le h' E/\Ints E ks (kA s i)/\∀x∈(xB s i).take k,x=0,λ⟨_,k,_,_,_⟩=>t.checks.length-k,⟨(i,0,sl,w.checks,h'),⟨rfl,rfl,aC,.refl _,D,λx f=>by simp at f⟩,MT⟩,?_⟩;rintro⟨i,k,ks,_,E⟩ ⟨rfl,rfl,hk,u,d,F⟩;dsimp only;have L:PH.le h E:=(g.trans z).trans u;refine aD (λA=>?_) (λa'=>⟨(i+1,E),⟨aC,L,Vk hz (k:=k) (by rw[M0 H];omega) F⟩,aC,MT⟩);obtain⟨p,U⟩:=dO cl A;obtain⟨b2,o2,pv,V,M,G⟩:=((c.checks.mono z).mono u).at U;refine⟨b2,o2,V,aC,A,pv,.imm M,ks,⟨none,0,0⟩,pv,kA s i,[],p,rfl,d,⟨.nil _ _,bx⟩,G,aB (λh6=>?_) (λh6=>?_)⟩
  .exact out E _ L (Np aC hz F (Ec H U) cg)
  .exact⟨(i,k+1,ks,w.checks,E),⟨rfl,rfl,cg,u,d,Rs (Ec H U) F cg⟩,cg,MT⟩
 .grind
theorem L5:di 86 uP:=by
 refine DS func86 ?_;rintro a0 m h K ⟨v,s,rfl,C,hK⟩;refine⟨bYQ v m h,rfl,aE ZU (aE ZT (aE Ii (aE L4 aG))),PX v m h (jF h K),bu,?_⟩;show PX v m h (jF h K);dsimp only[PX,push_cast];have Q:=C.tables.slen;have Y:=C.tables.len;have Z:=C.version;have out:∀(c:PH)(x:Int),PH.le h c->cQ s=x->jF h K (.val (.int .i64 x)) m c:=λc x n e=>.out (Sub.refl m) n (by rw[<-e];exact hK);refine aD (λh1=>out h _ (.refl _) (sS λe=>by have:=e.1;omega)) (λh1=>?_);refine⟨λi=>i<=s.tables.length/\fC (λ_ t=>QQ t) s.tables i,λi=>s.tables.length-i,⟨0,⟨aC,.zero⟩,MT⟩,λi⟨M,u⟩=>aD (λf=>?_) (λg=>?_)⟩
 .obtain⟨t,c⟩:=dO Q f;obtain⟨b,o,w,S,A,d⟩:=C.tables.at c;have e1:=bI.slen d.columns;have e2:=bI.slen d.refs;have e3:=bI.slen d.checks;have bad:¬QQ t->jF h K (.val (.int .i64 2)) m h:=λT=>out h _ (.refl _) (sS λe=>Good.not c T e.2);refine⟨b,o,S,aC,f,w,.imm A,aD (λU=>bad λe=>?_) (λU=>aD (λV=>bad λe=>?_) (λV=>aD (λB=>bad λe=>?_) (λB=>⟨i+1,⟨aC,u.succ c ⟨aC,aC,aC⟩⟩,cg,MT⟩)))⟩
  .have:=e.1;omega
  .have:=e.2.1;omega
  .have:=e.2.2;omega
 have F:CD s:=⟨aC,u.all aC⟩
 have h8:nM s:=λt O=>by
  obtain⟨j,hj⟩:=mem_iff_getElem?.1 O;exact(F.2 j t hj).1
 have bad:¬Ny s->jF h K (.val (.int .i64 70)) m h:=λT=>out h _ (.refl _) (OW F T);refine aD (λU=>bad λe=>?_) (λU=>aD (λV=>bad λe=>?_) (λV=>?_))
 .have:=e.1;omega
 .have:=e.2.1;omega
 clear M u g;refine⟨λi=>i<=s.tables.length/\fC D7 s.tables i,λi=>s.tables.length-i,⟨0,⟨aC,.zero⟩,MT⟩,λi⟨M,u⟩=>aD (λf=>?_) (λg=>?_)⟩
 .obtain⟨t,c⟩:=dO Q f;refine⟨v,s,t,i,rfl,C,c,λr A=>aB (λB=>bad λe=>?_) (λB=>⟨i+1,⟨aC,u.succ c (A.1 cg)⟩,cg,MT⟩)⟩;rw[A.2 (e.2.2.1 i t c)]at B;cases B
 have D:=u.all aC;clear M u g;refine⟨λi=>i<=s.tables.length/\fC (F5 s.tables) s.tables i,λi=>s.tables.length-i,⟨0,⟨aC,.zero⟩,MT⟩,λi⟨M,u⟩=>aD (λf=>?_) (λg=>?_)⟩
 .obtain⟨t,c⟩:=dO Q f;refine⟨v,s,t,i,rfl,C,D,c,λr A=>aB (λB=>bad λe=>?_) (λB=>⟨i+1,⟨aC,u.succ c (A.1 cg)⟩,cg,MT⟩)⟩;rw[A.2 (e.2.2.2 i t c)]at B;cases B
 have G:=u.all aC;clear M u g;have ok:Ny s:=⟨aC,aC,D,G⟩
 rw[LC F ok]at out;refine⟨λ⟨i,c⟩=>i<=s.tables.length/\PH.le h c/\∀j<i,∀x∈xB s j,x=0,λ⟨i,_⟩=>s.tables.length-i,⟨(0,h),⟨aC,.refl _,λj hj=>by omega⟩,MT⟩,?_⟩;rintro⟨i,c⟩ ⟨M,n,hz⟩;dsimp only;refine aD (λf=>?_) (λg=>out c _ n (vJ _ λe he=>?_))
 .obtain⟨t,O⟩:=dO Q f;obtain⟨b,o,w,S,A,d⟩:=(C.mono n).tables.at O;have cl:=bI.slen d.checks;have cb:=bI.len d.checks;refine⟨b,o,S,aC,f,w.checks,.imm (bZ.part A 4 1),?_⟩;refine⟨λ⟨i',k,cs,R⟩=>i'=i/\cs=w.checks/\k<=t.checks.length/\PH.le c R/\∀x∈(xB s i).take k,x=0,λ⟨_,k,_,_⟩=>t.checks.length-k,⟨(i,0,w.checks,c),⟨rfl,rfl,aC,.refl _,λx c=>by simp at c⟩,MT⟩,?_⟩;rintro⟨i,k,_,R⟩ ⟨rfl,rfl,hk,y,H⟩;dsimp only;have I:PH.le h R:=n.trans y;refine aD (λE=>?_) (λa'=>⟨(i+1,R),⟨aC,I,Vk hz (k:=k) (by rw[M0 O];omega) H⟩,aC,MT⟩);obtain⟨p,W⟩:=dO cl E;obtain⟨b2,o2,pv,X,P,J⟩:=(d.checks.mono y).at W;refine⟨b2,o2,X,aC,E,pv,.imm P,v,s,i,rfl,C.mono I,h8,λsl h' z L=>⟨sl,⟨none,0,0⟩,pv,kA s i,[],p,rfl,L,⟨.nil _ _,bx⟩,J.mono z,aB (λh6=>?_) (λh6=>?_)⟩⟩
  .exact out h' _ (I.trans z) (Np aC hz H (Ec O W) cg)
  .exact⟨(i,k+1,w.checks,h'),⟨rfl,rfl,cg,y.trans z,Rs (Ec O W) H cg⟩,cg,MT⟩
 .grind
mutual
def wD:Query->Int->Int
 |.mk _ _ _ _ _ _ _ _ args,n=>pD args (n+1)
def pD:ds->Int->Int
 |[],n=>n
 |p::ps,n=>if n<=24 then pD ps (wD p n)else n
end
mutual
def oJ:Query->Nat->Bool
 |.mk _ _ _ _ _ _ _ _ _,0=>true
 |.mk _ _ _ _ _ _ _ _ args,n+1=>tC args n
def tC:ds->Nat->Bool
 |[],_=>false
 |p::ps,n=>oJ p n||tC ps n
end
mutual
theorem El:∀(p:Query)(n:Int),n<=24->n<wD p n/\wD p n<=25
 |.mk _ _ _ _ _ _ _ _ args,n,h=>by
  have:=ID args (n+1) aC;simp only[wD];omega
theorem ID:∀(ps:ds)(n:Int),n<=25->n<=pD ps n/\pD ps n<=25
 |[],n,h=>by simp only[pD];omega
 |p::ps,n,h=>by
  simp only[pD];split
  .rename_i c;have d:=El p n c;have e:=ID ps (wD p n) d.2;omega
  .omega
end
theorem Un(ps:ds){n:Int}(h:¬n<=24):pD ps n=n:=by
 cases ps
 .simp[pD]
 .simp only[pD,if_neg h]
theorem Lc(n:Nat):∀ps:ds,tC ps n=ps.any (oJ · n)
 |[]=>by simp[tC]
 |p::ps=>by simp[tC,Lc n ps]
theorem dZ.args{p:Query}(r:dZ h p v):wV h v.args p.args:=by
 cases p;exact r.parts.args_
def uT(q:Query):Bool:=decide (wD q 0<=24)&& !oJ q 8
def arity(op:Int):Int:=
 if op==1 then 0 else if op==2||op==3||op==9 then 1 else if op==4||op==5||op==6||op==7||op==8||op==10 then 2 else-1
def U7(N:Nat):Vc.Spec:=λc m h K=>∃v p k,c=[aQ v,cI k,cI 24]/\dZ h p v/\SizeOf.sizeOf p<N/\0<=k/\k<=24/\K (cI (wD p k)) m h
def Q6(N:Nat):Vc.Spec:=λc m h K=>∃v p,∃k:Nat,c=[aQ v,cI k]/\dZ h p v/\SizeOf.sizeOf p<N/\k<=100/\K (cB (oJ p k)) m h
def axZ:Vc.Spec:=λc m h K=>∃v p,c=[aQ v]/\dZ h p v/\K (cB (uT p)) m h
def MP:Vc.Spec:=λc m h K=>∃op,c=[cI op]/\K (cI (arity op)) m h
def F0(l:dl)(n:Int):Bool:=decide (0<=n)&&decide (n<l.length)
def InS:Vc.Spec:=λc m h K=>∃s l n,c=[cS s,cI n]/\Ints h s l/\K (cB (F0 l n)) m h
noncomputable def bvZ(N:Nat)(v:QV)(m:MH)(h:PH):Ctx:=
 cT [(152,U7 N)] [(3,{A:=Nat×Int,st:=λx=>bO 31 34 [(1,iv x.2),(2,iv 24),(3,.at (.ptr 3 0)),(7,iv x.1)] [(3,.cells 38 (v.enc.map .val))] m h})] [] [] false
noncomputable def bvX(N:Nat)(v:QV)(k:Nat)(m:MH)(h:PH):Ctx:=
 cT [(153,Q6 N)] [(4,{A:=Nat,st:=λi=>bO 23 25 [(1,iv k),(2,.at (.ptr 2 0)),(10,iv v.args.len),(11,iv i)] [(2,.cells 38 (v.enc.map .val))] m h})] [] [] false
abbrev dJ(a:QV):Prop:=eQ (nK 38 a.enc)
attribute [push_cast] dJ
def Tm(N:Nat)(v:QV)(k:Int)(m:MH)(h:PH)(K:dk):Prop:=
  ∃(I:Nat×Int->Prop)(e:Nat×Int->Nat),(∃(x:Nat×Int),aA (I x) (dA (bF (k+1)) x.2) (aA (iF 24) bJ (aA (aZ x.1) (dJ v) (aA (m=m) (h=h) True))))/\∀(x:Nat×Int),I x->aW (↑x.1:Int) (aF v.args) (Gt x.2 24 (aJ (λb o=>aI (aK v.args.a b o) (0<=(↑x.1:Int)) ((↑x.1:Int)<aF v.args) (∃(y:QV),aR m h b (bE o x.1 21) y.enc/\qR (λf p=>∃(c:Int),aA (cV y.enc (bD (fN x.2) 24)=cV f.enc (bD (fN c) 24)) (dZ h p f) (aA (sB p N) (bY c) (c<=24/\∃(d:Nat×Int),aA (I d) (e d<e x) (aA (dA (wD p c) d.2) (iF 24) (aA bJ (eR (bF ((↑x.1:Int)+1))=bL d.1) (aA (dJ v) (m=m) (bR h h)))))))))) (K (fN x.2) m h)) (K (fN x.2) m h)
abbrev uF(a:QV):Prop:=aY a.args
noncomputable abbrev hX(a:QV):CV:=gV a.enc
attribute [push_cast] uF hX
def Tl(N:Nat)(v:QV)(k:Nat)(m:MH)(h:PH)(K:dk):Prop:=
  dD (↑k:Int) 0 (K dR m h) (j6 (λI x=>aA (I x) (eQ (bL k)) (aA cW (uF v) (aA (aZ x) (dJ v) (aA (m=m) (h=h) True)))) (λI e x=>I x->aW (↑x:Int) (aF v.args) (aJ (λb o=>aI (aK v.args.a b o) (0<=(↑x:Int)) ((↑x:Int)<aF v.args) (∃(y:QV),aR m h b (bE o x 21) y.enc/\qR (λf p=>∃(c:Nat),aA (bD (hX y) (bF ((↑k:Int)-1))=bD (hX f) (↑c:Int)) (dZ h p f) (aA (sB p N) (c<=100) (branch (oJ p c) (K dR m h) (∃(d:Nat),aA (I d) (e d<e x) (aA (eQ (bL k)) cW (aA (uF v) (eR (bF ((↑x:Int)+1))=bL d) (aA (dJ v) (m=m) (bR h h))))))))))) (K aX m h)))
def Ww(N:Nat)(v:QV)(m:MH)(h:PH)(K:dk):Prop:=
  qR (λe p=>∃(k:Int),aA (cV v.enc (bD (fN 0) 24)=cV e.enc (bD (fN k) 24)) (dZ h p e) (aA (sB p N) (bY k) (hZ (k<=24) (decide (wD p k<=24)) (qR (λf c=>∃(d:Nat),aA (bD (hX v) 8=bD (hX f) (↑d:Int)) (dZ h c f) (aA (sB c N) (d<=100) (K (CV.val (Value.bool (!(oJ c d)))) m h)))) (K aX m h))))
def Tv(op:Int)(m:MH)(h:PH)(K:dk):Prop:=
  cO (op==1) (K (fN 0) m h) (op==2) (K (fN 1) m h) (cO (op==3) (K (fN 1) m h) (op==9) (K (fN 1) m h) (cO (op==4) (K (fN 2) m h) (op==5) (K (fN 2) m h) (cO (op==6) (K (fN 2) m h) (op==7) (K (fN 2) m h) (cO (op==8) (K (fN 2) m h) (op==10) (K (fN 2) m h) (K (fN (Int.negSucc 0)) m h)))))
def SP(s:Sl)(n:Int)(m:MH)(h:PH)(K:dk):Prop:=
  eK n 0 (K (vD (decide (n<aF s))) m h) (K aX m h)
theorem Xe:∀N,di 152 (U7 N)
 |0=>by
  refine eA (fn:=Tryz.f152) (c:=cM Tryz.f152) func152 rfl bz ?_;rintro y m h K ⟨v,p,k,rfl,D,F,_⟩;omega
 |N+1=>by
  refine fU func152 ?_;rintro y m h K ⟨v,p,k,rfl,D,F,J,L,E⟩;refine⟨bvZ N v m h,rfl,aE (Xe N) aG,Tm N v k m h K,bu,?_⟩;dsimp only[Tm,push_cast];have d:=D.args;have e:=d.slen;have M:=d.len;refine⟨λx=>x.1<=p.args.length/\0<=x.2/\x.2<=25/\pD (p.args.drop x.1) x.2=wD p k,λx=>p.args.length-x.1,⟨(0,k+1),⟨bx,ce,ce,?_⟩,?_⟩,?_⟩
  .cases p;simp[wD,Query.args]
  .rw[dL aC aC];exact MT
  rintro⟨i,n⟩ ⟨G,f,z,g⟩;dsimp only at G f z g⊢
  refine aD (λj=>aD (λt=>?_) (λt=>A0 E ?_)) (λH=>A0 E ?_)
  .obtain⟨q,A⟩:=dO e j;obtain⟨b,o,u,I,B,C⟩:=d.at A;have O:=El q n t;rw[drop_cons A,pD,if_pos t]at g;refine⟨b,o,I,aC,j,u,.imm B,u,q,n,rfl,C,?_,f,t,(i+1,wD q n),⟨aC,aC,aC,g⟩,aC,MT⟩;have:=vF (cr A);omega
  .rw[<-g,Un _ t]
  .rw[<-g,drop_of_length_le aC];simp[pD]
theorem Xd:∀N,di 153 (Q6 N)
 |0=>by
  refine eA (fn:=Tryz.f153) (c:=cM Tryz.f153) func153 rfl bz ?_;rintro j m h K ⟨v,p,k,rfl,z,C,_⟩;omega
 |N+1=>by
  refine fU func153 ?_;rintro j m h K ⟨v,p,k,rfl,z,C,H,g⟩;refine⟨bvX N v k m h,rfl,aE (Xd N) aG,Tl N v k m h K,bu,?_⟩;dsimp only[Tl,push_cast];have d:=z.args;have e:=d.slen;have I:=d.len;refine aB (λA=>jB g ?_) (λA=>?_)
  .have:k=0:=cg
   subst this;cases p;simp[oJ]
  .have A:k≠0:=cg
   have n:oJ p k=p.args.any (oJ · (k-1)):=by
    obtain⟨B,rfl⟩:∃B,k=B+1:=⟨k-1,aC⟩
    cases p;simp[oJ,Lc,Query.args]
   rw[n]at g;refine⟨λi=>i<=p.args.length/\(p.args.take i).any (oJ · (k-1))=false,λi=>p.args.length-i,⟨0,⟨aC,bx⟩,MT⟩,λi D=>aD (λf=>?_) (λE=>jB g ?_)⟩
   .obtain⟨q,t⟩:=dO e f;obtain⟨b,o,u,F,x,y⟩:=d.at t;refine⟨b,o,F,aC,f,u,.imm x,u,q,k-1,?_,y,?_,aC,aB (λG=>jB g ?_) (λG=>?_)⟩
    .rw[dL aC aC,show((k-1:Nat):Int)=(k:Int)-1 by omega]
    .have:=vF (cr t);omega
    .grind
    .refine⟨i+1,⟨aC,?_⟩,cg,MT⟩;rw[db,any_append,D.2,t];grind
   grind
theorem aPZ:di 88 axZ:=by
 refine fU func88 ?_;rintro f m h K ⟨v,p,rfl,d,e⟩;refine⟨cT [(152,U7 (SizeOf.sizeOf p+1)),(153,Q6 (SizeOf.sizeOf p+1))] [] [] [] false,rfl,aE (Xe _) (aE (Xd _) aG),Ww (SizeOf.sizeOf p+1) v m h K,bu,?_⟩;dsimp only[Ww,push_cast];refine⟨v,p,0,rfl,d,aC,aC,aC,aB (λc=>⟨v,p,8,rfl,d,aC,aC,jB e ?_⟩) (λc=>jB e ?_)⟩
 .simp only[uT,c,Bool.true_and]
 .simp only[uT,c,Bool.false_and]
theorem Ji:di 128 MP:=by
 refine fU func128 ?_;rintro d m h K ⟨op,rfl,c⟩;refine⟨cT [] [] [] [] false,rfl,aG,Tv op m h K,bu,?_⟩;dsimp only[Tv,push_cast]
 repeat' (first|(refine aB (λ_=>?_) (λ_=>?_))|(refine A0 c ?_;simp only[arity];simp only[*,Bool.or_false,Bool.false_or,Bool.or_true,Bool.true_or,Bool.and_true,Bool.true_and,Bool.and_false,Bool.false_and,Bool.not_true,Bool.not_false,Bool.false_eq_true,if_true,if_false, ↓reduceIte];done)|(refine A0 c ?_;simp only[arity];grind))
theorem Jc:di 197 InS:=by
 refine fU func197 ?_;rintro e m h K ⟨s,l,n,rfl,f,d⟩;refine⟨cT [] [] [] [] false,rfl,aG,SP s n m h K,bu,?_⟩;dsimp only[SP,push_cast];have g:=f.slen;refine aD (λc=>jB d ?_) (λc=>jB d ?_)
 .have c:0<=n:=c;simp only[F0,g,decide_eq_true c,Bool.true_and]
 .have c:¬0<=n:=by omega
  simp only[F0,decide_eq_false c,Bool.false_and]
def uS(a b:dl)(c:dq)(p:Int×Int):Prop:=F0 a p.1=true/\F0 b p.2=true/\a.getD p.1.toNat 0=b.getD p.2.toNat 0/\∀q∈c,q.1≠p.1/\q.2≠p.2
def G3(a:dl)(d:dl)(c:Int):Prop:=F0 a c=true/\c∉d
def Jq(a:dl)(_:dr)(o:Int×Bool):Prop:=F0 a o.1=true
structure rF(a:dl)(group:dl)(order:dr)(limit:Int):Prop where
 group_:Good (G3 a) group
 order_:Good (Jq a) order
 len_:order.length<=12
 low:0<=limit
 high:limit<=100
def aAZ:Vc.Spec:=λc m h K=>∃s t u on a b,c=[cS s,cS t,cS u]/\jA h s on/\Ints h t a/\Ints h u b/\∀r:Bool,(r=true↔Good (uS a b) on)->K (cB r) m h
def azJ:Vc.Spec:=λc m h K=>∃v t g o a,c=[aQ v,cS t]/\Ints h v.group g/\iV h v.order o/\Ints h t a/\∀r:Bool,(r=true↔rF a g o v.limit)->K (cB r) m h
noncomputable def bqQ(s t u:Sl)(m:MH)(h:PH):Ctx:=
 cT [(197,InS)] [(2,{A:=Nat,st:=λi=>bO 66 69 [(0,sv s),(1,sv t),(2,sv u),(10,sv s),(11,iv s.len),(12,iv i)] [] m h}),
  (7,{A:=Nat×Nat×(Int×Int),st:=λ⟨i,k,p⟩=>bO 66 69 [(0,sv s),(1,sv t),(2,sv u),(7,iv i),(8,.at (.ptr 8 0)),(9,iv k),(10,sv s),(11,iv s.len),(12,iv i)] [(8,.cells 101 [.val (.int .i64 p.1),.val (.int .i64 p.2)])] m h})] [] [] false
noncomputable def bpJ(v:QV)(t:Sl)(m:MH)(h:PH):Ctx:=
 cT [(197,InS)] [(2,{A:=Nat,st:=λi=>bO 62 64 [(1,sv t),(2,.at (.ptr 2 0)),(11,sv v.group),(12,iv v.group.len),(13,iv i)] [(2,.cells 38 (v.enc.map .val))] m h}),
  (7,{A:=Nat×Nat×Int,st:=λ⟨i,k,c⟩=>bO 62 64 [(1,sv t),(2,.at (.ptr 2 0)),(5,iv i),(6,iv c),(7,iv k),(11,sv v.group),(12,iv v.group.len),(13,iv i)] [(2,.cells 38 (v.enc.map .val))] m h}),
  (13,{A:=Nat,st:=λi=>bO 62 64 [(1,sv t),(2,.at (.ptr 2 0)),(36,sv v.order),(37,iv v.order.len),(38,iv i)] [(2,.cells 38 (v.enc.map .val))] m h})] [] [] false
noncomputable abbrev fW(a:Sl)(b:Int):eb:=bD (F9 a) b
abbrev Hl(a:Sl)(b:Int)(c:Nat->Nat->Option Value)(d:dl->Int->Prop):Prop:=DP (λx e=>∃(f:Int),aA (fW a b=fW x f) (Ints c x e) (d e f))
abbrev fF:Prop:=eP 8
abbrev EV(a b:dz):Prop:=oQ 101 a=oQ 101 b
noncomputable abbrev vT(a:Int×Int):dz:=iU (fL a.1) (fL a.2)
attribute [push_cast] fW Hl fF EV vT
def SO(s t u:Sl)(m:MH)(h:PH)(K:dk):Prop:=
  j6 (λI x=>aA (I x) (aH s) (aA (aH t) (aH u) (aA (aH s) (aY s) (aA (aZ x) (m=m) (bR h h))))) (λI e x=>I x->aW (↑x:Int) (aF s) (aJ (λb o=>aI (aK s.a b o) (0<=(↑x:Int)) ((↑x:Int)<aF s) (∃(y:Int×Int),aI (aR m h b (bE o x 2) (oD y)) ((0:Int)<=0) ((0:Int)<2) (Hl t y.1 h (λl n=>mB (F0 l n) (K aX m h) (aA (bY 1) ((1:Int)<2) (Hl u y.2 h (λL M=>mB (F0 L M) (K aX m h) (aA (bY 0) ((0:Int)<2) (aJ (λf g=>aI (aK t.a f g) (0<=y.1) (y.1<aF t) (∃(j:Int),aI (aR m h f (cC g y.1 1) (bQ j)) ((0:Int)<=1) ((1:Int)<2) (aJ (λz A=>aI (aK u.a z A) (0<=y.2) (y.2<aF u) (∃(B:Int),aR m h z (cC A y.2 1) (bQ B)/\cK j B (K aX m h) (∃(I1:Nat×Nat×
 Int×Int->Prop)(C:Nat×Nat×Int×Int->Nat),(∃(c:Nat×Nat×Int×Int),aA (I1 c) (aH s) (aA (aH t) (aH u) (aA (bV x c.1) fF (aA (aZ c.2.1) (aH s) (aA (aY s) (bV x c.1) (aA (EV (vT y) (vT c.2.2)) (m=m) (bR h h)))))))/\∀(c:Nat×Nat×Int×Int),I1 c->aW (↑c.2.1:Int) (↑c.1:Int) (aJ (λD E=>aA (aK s.a D E) (bY (↑c.2.1:Int)) (aA ((↑c.2.1:Int)<aF s) (bY 0) ((0:Int)<2/\∃(F:Int),aI (aR m h D (bE E c.2.1 2+0) (bQ F)) ((0:Int)<=0) ((0:Int)<2) (dD F c.2.2.1 (K aX m h) (aJ (λG H=>aA (aK s.a G H) (bY (↑c.2.1:Int)) (aA ((↑c.2.1:Int)<aF s) (bY 1) ((1:Int)<2/\∃(J:Int),aI (aR m h G (bE H c.2.1 2+1) (bQ J)) ((0:Int)<=1) ((1:Int)<2) (dD J
 c.2.2.2 (K aX m h) (∃(d:Nat×Nat×Int×Int),aA (I1 d) (C d<C c) (aA (aH s) (aH t) (aA (aH u) (bV c.1 d.1) (aA fF (eR (bF ((↑c.2.1:Int)+1))=bL d.2.1) (aA (aH s) (aY s) (aA (bV c.1 d.1) (EV (vT c.2.2) (vT d.2.2)) (bG m m h h))))))))))))))))) (∃(d:Nat),aA (I d) (e d<e x) (aA (aH s) (aH t) (aA (aH u) (aH s) (aA (aY s) (eR (bF ((↑c.1:Int)+1))=bL d) (bG m m h h))))))))))))))))))))) (K dR m h))
def SN(v:QV)(t:Sl)(m:MH)(h:PH)(K:dk):Prop:=
  j6 (λI x=>aA (I x) (aH t) (aA cW (aH v.group) (aA (aY v.group) (aZ x) (aA (dJ v) (m=m) (bR h h))))) (λI f x=>I x->aW (↑x:Int) (aF v.group) (aJ (λb o=>aI (aK v.group.a b o) (0<=(↑x:Int)) ((↑x:Int)<aF v.group) (∃(y:Int),aR m h b (bE o x 1) (bQ y)/\Hl t y h (λl n=>mB (F0 l n) (K aX m h) (∃(I1:Nat×Nat×Int->Prop)(e:Nat×Nat×Int->Nat),(∃(c:Nat×Nat×Int),aA (I1 c) (aH t) (aA cW (bV x c.1) (aA (dA y c.2.2) (aZ c.2.1) (aA (aH v.group) (aY v.group) (aA (bV x c.1) (dJ v) (aA (m=m) (h=h) True))))))/\∀(c:Nat×Nat×Int),I1 c->aW (↑c.2.1:Int) (↑c.1:Int) (aJ (λg j=>aI (aK v.group.a g j) (0<=(↑c.2.1:Int)) ((↑c.2.1:Int)<aF v.group) (∃(u:Int),aR m h g
 (bE j c.2.1 1) (bQ u)/\dD u c.2.2 (K aX m h) (∃(d:Nat×Nat×Int),aA (I1 d) (e d<e c) (aA (aH t) cW (aA (bV c.1 d.1) (dA c.2.2 d.2.2) (aA (eR (bF ((↑c.2.1:Int)+1))=bL d.2.1) (aH v.group) (aA (aY v.group) (bV c.1 d.1) (aA (dJ v) (m=m) (bR h h)))))))))) (∃(d:Nat),aA (I d) (f d<f x) (aA (aH t) cW (aA (aH v.group) (aY v.group) (aA (eR (bF ((↑c.1:Int)+1))=bL d) (dJ v) (bG m m h h)))))))))) (j6 (λI1 c=>aA (I1 c) (aH t) (aA cW (aH v.order) (aA (aY v.order) (aZ c) (aA (dJ v) (m=m) (bR h h))))) (λI1 e c=>I1 c->aW (↑c:Int) (aF v.order) (aJ (λb o=>aI (aK v.order.a b o) (0<=(↑c:Int)) ((↑c:Int)<aF v.order) (∃(y:Int×Bool),aR m h b (bE o c 2) (qX
 y)/\Hl t y.1 h (λl n=>mB (F0 l n) (K aX m h) (∃(d:Nat),aA (I1 d) (e d<e c) (aA (aH t) cW (aA (aH v.order) (aY v.order) (aA (eR (bF ((↑c:Int)+1))=bL d) (dJ v) (bG m m h h))))))))) (Gt (aF v.order) 12 (eK v.limit 0 (K (vD (decide (v.limit<=100))) m h) (K aX m h)) (K aX m h)))))
theorem PA{α:Type}{l:List α}{x:α}(c:l[i]? =some x)(d:i<k):x∈l.take k:=mem_of_getElem? (i:=i) cg
theorem Vu{α:Type}{l:List α}{x y:α}(c:l[i]? =some x)(d:y∈l.take (i+1)):y∈l.take i\/y=x:=by
 rw[db,c,mem_append]at d
 grind
theorem eV{n:Int}:F0 l n=true↔0<=n/\n<l.length:=by simp[F0]
theorem Zr:di 198 aAZ:=by
 refine fU func198 ?_;rintro R m h K ⟨s,t,u,on,a,b,rfl,n,o,x,E⟩;refine⟨bqQ s t u m h,rfl,aE Jc aG,SO s t u m h K,bu,?_⟩;dsimp only[SO,push_cast];have S:=n.slen;have F:=n.len;have ta:=o.slen;have ub:=x.slen;refine⟨λi=>i<=on.length/\fC (uS a b) on i,λi=>on.length-i,⟨0,⟨aC,.zero⟩,MT⟩,λi⟨hi,G⟩=>aD (λf=>?_) (λT=>E true ⟨λ_=>G.all aC,λ_=>rfl⟩)⟩;obtain⟨p,y⟩:=dO S f;obtain⟨U,V,W,X⟩:=n.at y;have bad:¬uS a b (on.take i) p->K (.val (.bool false)) m h:=λY=>E false ⟨λe=>(by cases e),λe=>(Good.not y Y e).elim⟩;refine⟨U,V,W,aC,f,p,.imm X,aC,aC,t,a,p.1,rfl,o,aB (λz=>bad λc=>?_) (λz=>⟨aC,aC,u,b,p.2,rfl,x,aB (λA=>bad λc=>?_) (λA=>?_)⟩)⟩
 .rw[c.1]at z;cases z
 .rw[c.2.1]at A;cases A
 have H:F0 a p.1=true:=cg
 have I:F0 b p.2=true:=cg
 have g:=eV.1 H;have j:=eV.1 I;obtain⟨Z,o2,e2,r2⟩:=o.inb g.1 g.2;obtain⟨b3,o3,e3,r3⟩:=x.inb j.1 j.2;refine⟨aC,aC,Z,o2,e2,aC,aC,_,.imm r2,aC,aC,b3,o3,e3,aC,aC,_,.imm r3,aB (λB=>bad λc=>?_) (λB=>?_)⟩
 .rw[c.2.2.1]at B;simp at B
 refine⟨λ⟨i',k,p'⟩=>i'=i/\p'=p/\k<=i/\∀q∈on.take k,q.1≠p.1/\q.2≠p.2,λ⟨_,k,_⟩=>i-k,⟨(i,0,p),⟨rfl,rfl,aC,λq d=>by simp at d⟩,MT⟩,?_⟩;rintro⟨i,k,p⟩ ⟨rfl,rfl,hk,C⟩;dsimp only;refine aD (λJ=>?_) (λL=>?_)
 .obtain⟨q,d⟩:∃q,on[k]? =some q:=⟨on[k]'(by omega),cq _⟩
  obtain⟨M,O,P,Q⟩:=n.at d;refine⟨M,O,P,aC,aC,aC,aC,q.1,.imm (bZ.part Q 0 1),aC,aC,aB (λh4=>bad λc=>?_) (λh4=>⟨M,O,P,aC,aC,aC,aC,q.2,.imm (bZ.part Q 1 1),aC,aC,aB (λh5=>bad λc=>?_) (λh5=>?_)⟩)⟩
  .exact(c.2.2.2 q (PA d aC)).1 cg
  .exact(c.2.2.2 q (PA d aC)).2 cg
  .refine⟨(i,k+1,p),⟨rfl,rfl,cg,λq' D=>?_⟩,cg,MT⟩;rcases Vu d D with e|rfl
   .grind
   grind
 .have:k=i:=by omega
  subst this;exact⟨k+1,⟨aC,G.succ y ⟨H,I,cg,C⟩⟩,aC,MT⟩
theorem Zq:di 199 azJ:=by
 refine fU func199 ?_;rintro U m h K ⟨v,t,g,o,a,rfl,B,C,J,L⟩;refine⟨bpJ v t m h,rfl,aE Jc aG,SN v t m h K,bu,?_⟩;dsimp only[SN,push_cast];have V:=B.slen;have M:=B.len;have W:=C.slen;have O:=C.len;have bad:¬rF a g o v.limit->K (.val (.bool false)) m h:=λX=>L false ⟨λe=>(by cases e),λe=>(X e).elim⟩;refine⟨λi=>i<=g.length/\fC (G3 a) g i,λi=>g.length-i,⟨0,⟨aC,.zero⟩,MT⟩,λi⟨P,u⟩=>aD (λd=>?_) (λx=>?_)⟩
 .obtain⟨c,n⟩:=dO V d;obtain⟨D,E,F,G⟩:=B.at' n;refine⟨D,E,F,aC,d,c,.imm G,t,a,c,rfl,J,aB (λf=>bad λj=>Good.not n (λy=>?_) j.group_) (λf=>?_)⟩
  .rw[y.1]at f;cases f
  refine⟨λ⟨Y,k,Z⟩=>Y=i/\Z=c/\k<=i/\c∉g.take k,λ⟨_,k,_⟩=>i-k,⟨(i,0,c),⟨rfl,rfl,aC,bx⟩,MT⟩,?_⟩;rintro⟨i,k,c⟩ ⟨rfl,rfl,hk,z⟩;dsimp only;refine aD (λQ=>?_) (λR=>?_)
  .obtain⟨q,H⟩:∃q,g[k]? =some q:=⟨g[k]'(by omega),cq _⟩
   obtain⟨b4,o4,e4,r4⟩:=B.at' H;refine⟨b4,o4,e4,aC,aC,q,.imm r4,aB (λS=>bad λj=>Good.not n (λy=>?_) j.group_) (λS=>?_)⟩
   .refine y.2 ?_;have:q=c:=cg
    rw[<-this];exact PA H aC
   .refine⟨(i,k+1,c),⟨rfl,rfl,cg,λI=>?_⟩,cg,MT⟩;rcases Vu H I with e|rfl
    .exact z e
    .simp at S
  .have:k=i:=by omega
   subst this;exact⟨k+1,⟨aC,u.succ n ⟨cg,z⟩⟩,aC,MT⟩
 have gg:=u.all aC;clear P u x;refine⟨λi=>i<=o.length/\fC (Jq a) o i,λi=>o.length-i,⟨0,⟨aC,.zero⟩,MT⟩,λi⟨P,A⟩=>aD (λd=>?_) (λx=>?_)⟩
 .obtain⟨c,n⟩:=dO W d;obtain⟨D,E,F,G⟩:=C.at n;refine⟨D,E,F,aC,d,c,.imm G,t,a,c.1,rfl,J,aB (λf=>bad λj=>Good.not n (λy=>?_) j.order_) (λf=>⟨i+1,⟨aC,A.succ n (by simpa[Jq]using f)⟩,cg,MT⟩)⟩;rw[show F0 a c.1=true from y]at f;cases f
 have oo:=A.all aC;refine aD (λf=>aD (λT=>?_) (λT=>bad λj=>?_)) (λf=>bad λj=>?_)
 .refine L (decide (v.limit<=100)) ⟨λe=>⟨gg,oo,aC,T,cm e⟩,λe=>decide_eq_true e.high⟩
 .have:=j.low;omega
 .have:=j.len_;omega
def gM:Pred:=.mk 0 0 dG dG []
def dU:Query->Prop
 |.mk op ta w co on gr od li _=>(op=1\/ta=0)/\(op=2\/w=gM)/\(op=3\/co=[])/\(op=4\/op=5\/on=[])/\(op=9\/op=10\/(gr=[]/\od=[]/\li=0))
def nI(l:dl):dl×Int:=if l.length<=12 then(l,0)else([],2)
def eN(e:Int):dl×Int:=([],e)
open Classical in
noncomputable def eU(s:lL)(ps:dl)(q:Query)(a b:dl):dl×Int:=
 if arity (match q with|.mk op .. =>op)<0\/¬dU q then eN 100 else
 match q with
 |.mk op ta w co on gr od li _=>
  if op=1 then(if 0<=ta/\ta<s.tables.length then nI (kA s ta)else eN 100)
  else if op=2 then(if fH a ps w=0 then nI a else eN (fH a ps w))
  else if op=3 then(if co≠[]/\Good (λ_ c=>F0 a c=true) co then nI (co.map λc=>a.getD c.toNat 0)else eN 100)
  else if op=4 then(if Good (uS a b) on then nI (a++b)else eN 100)
  else if op=5 then(if Good (uS a b) on then nI a else eN 100)
  else if op=9 then(if rF a gr od li then nI a else eN 100)
  else if op=10 then(if a=b/\rF a gr od li then nI a else eN 100)
  else(if a=b then nI a else eN 100)
def awZ:Vc.Spec:=λc m h K=>∃v q,c=[aQ v]/\dZ h q v/\∀r:Bool,(r=true↔dU q)->K (cB r) m h
def KR(K:dk)(m:MH)(h:PH)(r:dl×Int):Prop:=∀c h',PH.le h h'->Ints h' c r.1->K (.tup [cS c,cI r.2]) m h'
def bKZ:Vc.Spec:=λc m h K=>∃sc p v a b s ps q d e,c=[aS sc,cS p,aQ v,cS a,cS b]/\fR h s sc/\nM s/\Ints h p ps/\dZ h q v/\Ints h a d/\Ints h b e/\d.length<=12/\e.length<=12/\KR K m h (eU s ps q d e)
noncomputable def byJ(m:MH):Ctx:=
 cT [(128,MP),(196,awZ),(46,y8),(94,tH),(197,InS),(198,aAZ),(199,azJ),(75,A9)] [(20,{A:=Nat×Sl×Sl×dl×PH,st:=λ⟨i,a,co,l,h⟩=>bO 121 126 [(3,sv a),(12,.at (.lst 94)),(78,sv co),(79,iv co.len),(80,iv i)] [(94,.lst 3 1 (l.map eI))] m h})] [] [] false
noncomputable def bqX(v:QV)(m:MH)(h:PH):Ctx:=
 cIJ [(76,bNX)] [] [(2,{A:=Bool,st:=λr=>bO 78 79 [(1,.at (.ptr 1 0)),(3,bv r)] [(1,.cells 38 (v.enc.map .val))] m h})] [(2,[(9,{A:=Bool×Bool,st:=λx=>bO 78 79 [(1,.at (.ptr 1 0)),(3,bv x.1),(20,bv x.2)] [(1,.cells 38 (v.enc.map .val))] m h}),
  (11,{A:=Bool×Bool,st:=λx=>bO 78 79 [(1,.at (.ptr 1 0)),(3,bv x.1),(31,bv x.2)] [(1,.cells 38 (v.enc.map .val))] m h}),
  (11,{A:=Bool×Bool,st:=λx=>bO 78 79 [(1,.at (.ptr 1 0)),(3,bv x.1),(42,bv x.2)] [(1,.cells 38 (v.enc.map .val))] m h}),
  (16,{A:=Bool×Bool,st:=λx=>bO 78 79 [(1,.at (.ptr 1 0)),(3,bv x.1),(58,bv x.2)] [(1,.cells 38 (v.enc.map .val))] m h})])] [] false
abbrev iL(a b:Bool):Prop:=sQb a=sQb b
abbrev xN(a:Bool):Prop:=iL true a
abbrev Ki(a:Prop)(b:(Bool×Bool->Prop)->Prop)(c:(Bool×Bool->Prop)->(Bool×Bool)->Prop):Prop:=a->∃(x:Bool×Bool->Prop),b x/\∀(d:Bool×Bool),c x d
noncomputable abbrev lV:dj:=kH sC
noncomputable abbrev Kq(a:Value):dj:=bC a cF (bC cF cF (bC cF cF (bC MX cF (bC cF cF (bC cF MX lV)))))
abbrev Hk(a:Bool×Bool->Prop)(b:Bool×Bool)(c:(Bool×Bool)->Prop)(d:QV)(e:MH)(g:PH):Prop:=∃(x:Bool×Bool),aA (a x) dW (aA (iL b.1 x.1) (c x) (bS (dJ d) e e g g))
abbrev wH(a:Bool):Prop:=iL false a
attribute [push_cast] iL xN Ki lV Kq Hk wH
def SQ(v:QV)(m:MH)(h:PH)(K:dk):Prop:=
  ∃(I:Bool->Prop),dD v.op 9 (∃(x:Bool),aA (I x) dW (aA (xN x) (dJ v) (bG m m h h))) (∃(x:Bool),aA (I x) dW (aA (iL (v.op==10) x) (dJ v) (bG m m h h)))/\∀(x:Bool),Ki (I x) (λI1=>dD v.op 1 (∃(e:Bool×Bool),aA (I1 e) dW (aA (iL x e.1) (xN e.2) (bS (dJ v) m m h h))) (∃(e:Bool×Bool),aA (I1 e) dW (aA (iL x e.1) (iL (v.table==0) e.2) (bS (dJ v) m m h h)))) (λI1 e=>Ki (I1 e) (λI2=>branch e.2 (dD v.op 2 (∃(d:Bool×Bool),aA (I2 d) dW (aA (iL e.1 d.1) (xN d.2) (bS (dJ v) m m h h))) (HF (λg w p q=>aI (fY (B3 v) (Kq cF)=fY g.enc w.enc) (dX h p g) (dX h q w) (∀(r:Bool),(eZ r↔p=q)->Hk I2 e (λd=>iL r d.2) v m h)))) (∃(d:Bool×
 Bool),aA (I2 d) dW (aA (iL e.1 d.1) (wH d.2) (bS (dJ v) m m h h)))) (λI2 d=>Ki (I2 d) (λI3=>branch d.2 (dD v.op 3 (∃(c:Bool×Bool),aA (I3 c) dW (aA (iL d.1 c.1) (xN c.2) (bS (dJ v) m m h h))) (Hk I3 d (λc=>iL (aF v.columns==0) c.2) v m h)) (∃(c:Bool×Bool),aA (I3 c) dW (aA (iL d.1 c.1) (wH c.2) (bS (dJ v) m m h h)))) (λI3 c=>Ki (I3 c) (λI4=>branch c.2 (cO (v.op==4) (Hk I4 c (λf=>xN f.2) v m h) (v.op==5) (Hk I4 c (λf=>xN f.2) v m h) (Hk I4 c (λf=>iL (aF v.on==0) f.2) v m h)) (∃(f:Bool×Bool),aA (I4 f) dW (aA (iL c.1 f.1) (wH f.2) (bS (dJ v) m m h h)))) (λI4 f=>eT (I4 f) f.2 (cO f.1 (K dR m h) (aF v.group==0)
 (dD (aF v.order) 0 (K (vD (v.limit==0)) m h) (K aX m h)) (K aX m h)) (K aX m h)))))
abbrev pL(a:Int)(b:Int->Prop):Prop:=∃(x:Int),w6 (fN a)=w6 (fN x)/\b x
noncomputable abbrev cX(a:Sl):Sl:=Sl.mk a.a a.len a.cap
abbrev Ci(a:List dj)(b:Nat):Prop:=j4 (a.length*b)
abbrev Cj(a:List dj):Prop:=j4 a.length
abbrev Ka(a:Nat)(b:PH)(c:Sl)(d:Nat)(e:(List dj)->Prop):Prop:=∃(x:List dj),aA (cZ a x) (cE b (cX c) a x) (aA (Ci x d) (Cj x) (e x))
abbrev hJ(a:dk)(b:Sl)(c:MH)(d:PH):Prop:=a (CV.tup (bD (F9 b) 0)) c d
noncomputable abbrev j7(a:List dj):Int:=(↑a.length:Int)
noncomputable abbrev As(a:Nat×Sl×Sl×dl×PH):Sl:=a.2.2.1
noncomputable abbrev Fj(a:Nat×Sl×Sl×dl×PH):dl:=a.2.2.2.1
noncomputable abbrev Au(a:Nat×Sl×Sl×dl×PH):Nat->Nat->Option Value:=a.2.2.2.2
abbrev EN(a:Sl->dq->Prop):Prop:=∃(x:Sl)(c:dq),a x c
abbrev mI(a b:List dj)(c:Nat):Prop:=j4 (nY a b.length*c)
abbrev mC(a b:List dj):Prop:=j4 (nY a b.length)
abbrev Pr(a:Sl->dl->dr->Prop):Prop:=DP (λx c=>∃(d:dr),a x c d)
noncomputable abbrev iS(a:dj)(b:Sl):eb:=nO (gV a) (F9 b)
attribute [push_cast] pL cX Ci Cj Ka hJ j7 As Fj Au EN mI mC Pr iS
def Mq(sc:bX)(p:Sl)(v:QV)(a b:Sl)(m:MH)(h:PH)(K:dk):Prop:=
  pL v.op (λo=>aW (arity o) 0 (K (CV.tup (bD iO 100)) m h) (qR (λE q=>sX v.enc E.enc (dZ h q E) (∀(r:Bool),eT (eZ r↔dU q) (!r) (K (CV.tup (bD iO 100)) m h) (Ka 1 h a 8 (λy=>cO (v.op==1) (aW v.table 0 (K (CV.tup (bD iO 100)) m h) (eK v.table (gE sc) (K (CV.tup (bD iO 100)) m h) (C1 (bD (gV (cD sc)) v.table) h (λs d=>fA (aF s) 12 (K (CV.tup (bD iO 2)) m d) (hJ K s m d))))) (v.op==2) (EH (cA a (fP p (pZ v.where_))) h (λc F G=>mY (fH c F G !=0) (K (CV.tup (bD iO (fH c F G))) m h) (j7 y) 12 (K (CV.tup (bD iO 2)) m h) (bU h 1 y (λs d=>hJ K s m d)))) (cO (v.op==3) (dD (aF v.columns) 0 (K (CV.tup (bD iO 100)) m h) (∃(I:Nat×Sl×Sl×dl×PH->Prop)(H:Nat×Sl×Sl×List
 Int×PH->Nat),(∃(x:Nat×Sl×Sl×dl×PH),aA (I x) (bA a x.2.1) (aA (eL 94) (bA v.columns (As x)) (aA (cJ v.columns (As x)) (aZ x.1) (aA (xP (Fj x)) (m=m) (bR h (Au x))))))/\∀(x:Nat×Sl×Sl×dl×PH),I x->aW (↑x.1:Int) (aF (As x)) (aJ (λz f=>aI (aK (As x).a z f) (0<=(↑x.1:Int)) ((↑x.1:Int)<aF (As x)) (∃(e:Int),aR m (Au x) z (bE f x.1 1) (bQ e)/\Hl x.2.1 e (Au x) (λl n=>mB (F0 l n) (K (CV.tup (bD iO 100)) m (Au x)) (aJ (λJ L=>aI (aK x.2.1.a J L) (0<=e) (e<aF x.2.1) (∃(M:Int),nQ (aR m (Au x) J (cC L e 1) (bQ M)) (dT (Fj x)) 8 (∃(C:Nat×Sl×Sl×dl×PH),aA (I C) (H C<H x) (aA (bA x.2.1 C.2.1) (eL 94) (aA (bA
 (As x) (As C)) (cJ (As x) (As C)) (aA (eR (bF ((↑x.1:Int)+1))=bL C.1) (gU (eG (dT (Fj x)) (bQ M)) (Fj C)) (bG m m (Au x) (Au C))))))))))))) (fA (j7 (dT (Fj x))) 12 (K (CV.tup (bD iO 2)) m (Au x)) (bU (Au x) 1 (dT (Fj x)) (λs d=>hJ K s m d))))) (v.op==4) (gQ (λs t=>EN (λu f=>mV (λA z=>aA (cA v.on (dK a b)=cA s (dK t u)) (jA h s f) (aA (Ints h t A) (Ints h u z) (∀(j:Bool),(eZ j↔Good (uS A z) f)->cO (!j) (K (CV.tup (bD iO 100)) m h) (v.op==4) (∃(e:List dj),aA (cZ 1 e) (cE h (cX b) 1 e) (aA (mI y e 8) (mC y e) (fA (j7 (y++e)) 12 (K (CV.tup (bD iO 2)) m h) (bU h 1 (y++e) (λD d=>hJ K D m d)))))
 (fA (j7 y) 12 (K (CV.tup (bD iO 2)) m h) (bU h 1 y (λD d=>hJ K D m d))))))))) (cO (v.op==5) (gQ (λs t=>EN (λu f=>mV (λA z=>aA (cA v.on (dK a b)=cA s (dK t u)) (jA h s f) (aA (Ints h t A) (Ints h u z) (∀(j:Bool),(eZ j↔Good (uS A z) f)->cO (!j) (K (CV.tup (bD iO 100)) m h) (v.op==4) (∃(e:List dj),aA (cZ 1 e) (cE h (cX b) 1 e) (aA (mI y e 8) (mC y e) (fA (j7 (y++e)) 12 (K (CV.tup (bD iO 2)) m h) (bU h 1 (y++e) (λD d=>hJ K D m d))))) (fA (j7 y) 12 (K (CV.tup (bD iO 2)) m h) (bU h 1 y (λD d=>hJ K D m d))))))))) (v.op==9) (∃(B:QV),Pr (λt g f=>∃(A:dl),aA (iS v.enc a=iS B.enc t) (Ints h B.group g) (aA (iV h B.order f) (Ints h t
 A) (∀(j:Bool),(eZ j↔rF A g f B.limit)->mY (!j) (K (CV.tup (bD iO 100)) m h) (j7 y) 12 (K (CV.tup (bD iO 2)) m h) (bU h 1 y (λs d=>hJ K s m d)))))) (vS a b h (λA z j=>(eZ j↔A=z)->cO (!j) (K (CV.tup (bD iO 100)) m h) (v.op==10) (∃(B:QV),Pr (λt g f=>∃(O:dl),aA (iS v.enc a=iS B.enc t) (Ints h B.group g) (aA (iV h B.order f) (Ints h t O) (∀(P:Bool),(eZ P↔rF O g f B.limit)->mY (!P) (K (CV.tup (bD iO 100)) m h) (j7 y) 12 (K (CV.tup (bD iO 2)) m h) (bU h 1 y (λs d=>hJ K s m d)))))) (fA (j7 y) 12 (K (CV.tup (bD iO 2)) m h) (bU h 1 y (λs d=>hJ K s m d)))))))))))))
theorem KS{α:Type}{n:Nat}{l:List α}(h:n=l.length):((n:Int)==0)=true↔l=[]:=by
 rw[beq_iff_eq,h, <-length_eq_zero_iff];omega
theorem Ef(h:PH):dX h gM ⟨0,0,dG,dG,⟨none,0,0⟩⟩:=dX.mk (v:=⟨0,0,dG,dG,⟨none,0,0⟩⟩) (.nil _ _ _ _)
theorem Zs:di 196 awZ:=by
 refine fU func196 ?_;rintro o m h K ⟨v,q,rfl,t,g⟩;refine⟨bqX v m h,rfl,aE R8 aG,SQ v m h K,bu,?_⟩;dsimp only[SQ,push_cast];obtain⟨op,ta,w,co,on,gr,od,li,args⟩:=q;have a:=t.parts;have u:=a.op_;have y:=a.table_;have z:=a.limit_;have D:=KS a.columns_.slen;have E:=KS a.on_.slen;have F:=KS a.group_.slen;have G:=KS a.order_.slen;simp only[dU]at g;subst u y z;refine⟨λr=>(r=true↔v.op=9\/v.op=10),aB (λd=>⟨true,cg,MT⟩) (λd=>⟨_,?_,MT⟩),λr j=>?_⟩
 .grind
 refine⟨λx=>x.1=r/\(x.2=true↔(v.op=1\/v.table=0)),aB (λd=>⟨(r,true),⟨rfl,cg⟩,MT⟩) (λd=>⟨(r,_),⟨rfl,?_⟩,MT⟩),?_⟩
 .grind
 rintro⟨r,c⟩ ⟨rfl,e⟩;dsimp only at e j⊢
 refine⟨λx=>x.1=r/\(x.2=true↔(v.op=1\/v.table=0)/\(v.op=2\/w=gM)),aB (λd=>aB (λf=>⟨(r,true),⟨rfl,⟨λ_=>⟨e.1 d,.inl cg⟩,λ_=>rfl⟩⟩,MT⟩) (λf=>⟨v.where_,⟨0,0,dG,dG,⟨none,0,0⟩⟩,w,gM,rfl,a.where_,Ef h,λA B=>⟨(r,A),⟨rfl,?_⟩,MT⟩⟩)) (λd=>⟨(r,false),⟨rfl,?_⟩,MT⟩),?_⟩
 .grind
 .grind
 clear e c;rintro⟨r,c⟩ ⟨rfl,e⟩;dsimp only at e j⊢
 refine⟨λx=>x.1=r/\(x.2=true↔(v.op=1\/v.table=0)/\(v.op=2\/w=gM)/\(v.op=3\/co=[])),aB (λd=>aB (λf=>⟨(r,true),⟨rfl,⟨λ_=>⟨(e.1 d).1,(e.1 d).2,.inl cg⟩,λ_=>rfl⟩⟩,MT⟩) (λf=>⟨(r,_),⟨rfl,?_⟩,MT⟩)) (λd=>⟨(r,false),⟨rfl,?_⟩,MT⟩),?_⟩
 .grind
 .grind
 clear e c;rintro⟨r,c⟩ ⟨rfl,e⟩;dsimp only at e j⊢
 refine⟨λx=>x.1=r/\(x.2=true↔(v.op=1\/v.table=0)/\(v.op=2\/w=gM)/\(v.op=3\/co=[])/\(v.op=4\/v.op=5\/on=[])),aB (λd=>aB (λf=>⟨(r,true),⟨rfl,⟨λ_=>⟨(e.1 d).1,(e.1 d).2.1,(e.1 d).2.2,.inl cg⟩,λ_=>rfl⟩⟩,MT⟩) (λf=>aB (λn=>⟨(r,true),⟨rfl,⟨λ_=>⟨(e.1 d).1,(e.1 d).2.1,(e.1 d).2.2,.inr (.inl cg)⟩,λ_=>rfl⟩⟩,MT⟩) (λn=>⟨(r,_),⟨rfl,?_⟩,MT⟩))) (λd=>⟨(r,false),⟨rfl,?_⟩,MT⟩),?_⟩
 .grind
 .grind
 clear e c;rintro⟨r,c⟩ ⟨rfl,e⟩;dsimp only at e j⊢
 refine aB (λd=>aB (λf=>g true ⟨λ_=>?_,λ_=>rfl⟩) (λf=>aB (λn=>aB (λC=>g _ ?_) (λC=>g false ?_)) (λn=>g false ?_))) (λd=>g false ?_)
 .grind
 .grind
 .grind
 .grind
 .grind
theorem qF(l:dl):cZ 1 (l.map eI):=by
 constructor
 .intro e c;obtain⟨x,_,rfl⟩:=mem_map.1 c;rfl
 .intro e c u d;obtain⟨x,_,rfl⟩:=mem_map.1 c;simp[eI]at d;subst d;rfl
theorem KR.err{r:dl×Int}{e:Int}(d:KR K m h r)(c:PH.le h h')(f:r=eN e):K (.tup [.val (.slice none 0 0),.val (.int .i64 e)]) m h':=by
 subst f;exact d ⟨none,0,0⟩ h' c ⟨.nil _ _,by simp[eN]⟩
theorem KR.big{r:dl×Int}(d:KR K m h r)(c:PH.le h h')(e:r=nI l)(f:12<l.length):K (.tup [.val (.slice none 0 0),.val (.int .i64 2)]) m h':=
 d.err c (by rw[e,nI,if_neg aC];rfl)
theorem KR.ok{r:dl×Int}{sl:Sl}(d:KR K m h r)(c:PH.le h h')(e:r=nI l)(f:l.length<=12)(g:cE h' sl 1 (l.map eI)):K (.tup [.val (.slice sl.a sl.len sl.cap),.val (.int .i64 0)]) m h':=by
 rw[e,nI,if_pos f]at d;exact d sl h' c ⟨g,cg⟩
theorem caX{p:Sl}{a b:Sl}{n C:dl}(W:fR h s sc)(h8:nM s)(hp:Ints h p ps)(X:dZ h q v)(B:Ints h a n)(L:Ints h b C)(Y:n.length<=12)(Z:C.length<=12)(d:KR K m h (eU s ps q n C)):Mq sc p v a b m h K:=by
 dsimp only[Mq,push_cast];have O:=X;obtain⟨op,ta,w,co,on,gr,od,li,args⟩:=q;have x:=X.parts;have e0:=x.op_;have e1:=x.table_;have e2:=x.limit_;have a0:=W.tables.slen;have a1:=B.slen;have H:=x.columns_.slen;have P:=x.columns_.len;subst e0 e1 e2;refine⟨v.op,rfl,aD (λQ=>d.err (.refl _) ?_) (λQ=>⟨v,_,rfl,O,λr z=>aB (λh2=>d.err (.refl _) ?_) (λh2=>?_)⟩)⟩
 .unfold eU;rw[if_pos (.inl Q)]
 .unfold eU;rw[if_pos (.inr λe=>cg)]
 have hu:dU (.mk v.op v.table w co on gr od v.limit args):=z.1 cg;unfold eU at d;rw[if_neg (λe=>e.elim Q (λe=>e hu))]at d;dsimp only at d;clear z h2;refine⟨n.map eI,qF _,B.row,ce,ce,aB (λo=>?_) (λo=>aB (λy=>?_) (λy=>aB (λA=>?_) (λA=>aB (λD=>?_) (λD=>aB (λE=>?_) (λE=>aB (λI=>?_) (λI=>?_))))))⟩
 .rw[beq_iff_eq]at o;rw[if_pos o]at d;refine aD (λu=>d.err (.refl _) (if_neg aC)) (λu=>aD (λt=>d.err (.refl _) (if_neg aC)) (λt=>⟨sc,s,v.table,rfl,W,h8,λF h' f j=>?_⟩));rw[if_pos aC]at d;have:=j.slen;exact aD (λg=>d.big f rfl aC) (λg=>d.ok f rfl aC j.row)
 .rw[beq_eq_false_iff_ne]at o;rw[beq_iff_eq]at y;rw[if_neg o,if_pos y]at d;refine⟨a,p,v.where_,n,ps,w,rfl,B,hp,x.where_,aB (λu=>d.err (.refl _) (if_neg cg)) (λu=>?_)⟩;rw[if_pos cg]at d;exact aD (λg=>d.big (.refl _) rfl cg) (λg F h' f j=>d.ok f rfl aC j)
 .rw[beq_eq_false_iff_ne]at o y;rw[beq_iff_eq]at A;rw[if_neg o,if_neg y,if_pos A]at d;refine aB (λu=>d.err (.refl _) (if_neg λe=>e.1 ((KS H).1 u))) (λu=>?_);have R:co≠[]:=λe=>cg
  refine⟨λ⟨i,a',S,l,hx⟩=>a'=a/\S=v.columns/\hx=h/\i<=co.length/\l=(co.take i).map (λc=>n.getD c.toNat 0)/\fC (λ_ c=>F0 n c=true) co i,λ⟨i,_,_,_,_⟩=>co.length-i,⟨(0,a,v.columns,[],h),⟨rfl,rfl,rfl,aC,bx,.zero⟩,MT⟩,?_⟩;rintro⟨i,a,_,l,h⟩ ⟨rfl,rfl,rfl,j,rfl,hg⟩;dsimp only;refine aD (λJ=>?_) (λa2=>?_)
  .obtain⟨c,M⟩:=dO H J;obtain⟨b1,o1,T,r1⟩:=x.columns_.at' M;refine⟨b1,o1,T,aC,J,c,.imm r1,a,n,c,rfl,B,aB (λt=>d.err (.refl _) (if_neg λe=>?_)) (λt=>?_)⟩
   .have:=e.2 i c M;grind
   have t:F0 n c=true:=cg
   have g:=eV.1 t;obtain⟨b2,o2,U,r2⟩:=B.inb g.1 g.2;refine⟨b2,o2,U,aC,aC,_,.imm r2,?_,?_,(i+1,a,v.columns,(co.take (i+1)).map (λc=>n.getD c.toNat 0),h),⟨rfl,rfl,rfl,aC,rfl,hg.succ M t⟩,aC,?_⟩
   .simp;omega
   .simp;omega
   .rw[iN M,cv];exact MT
  .rw[if_pos ⟨R,hg.all aC⟩]at d;rw[cu aC];exact aD (λg=>d.big (.refl _) rfl cg) (λg F h' f j=>d.ok f rfl cg j)
 .rw[beq_eq_false_iff_ne]at o y A;have G:=beq_iff_eq.1 D;rw[if_neg o,if_neg y,if_neg A,if_pos G]at d;refine⟨v.on,a,b,on,n,C,rfl,x.on_,B,L,λr z=>aB (λu=>d.err (.refl _) (if_neg λe=>?_)) (λu=>aB (λ_=>⟨C.map eI,qF _,L.row,ce,ce,?_⟩) (λt=>?_))⟩
  .grind
  .rw[if_pos (z.1 cg)]at d;rw[<-cv];exact aD (λg=>d.big (.refl _) rfl cg) (λg F h' f j=>d.ok f rfl cg j)
  grind
 .rw[beq_eq_false_iff_ne]at o y A;have G:=beq_eq_false_iff_ne.1 D;rw[beq_iff_eq]at E;rw[if_neg o,if_neg y,if_neg A,if_neg G,if_pos E]at d;refine⟨v.on,a,b,on,n,C,rfl,x.on_,B,L,λr z=>aB (λu=>d.err (.refl _) (if_neg λe=>?_)) (λu=>aB (λt=>?_) (λt=>?_))⟩
  .grind
  .grind
  .rw[if_pos (z.1 cg)]at d;exact aD (λg=>d.big (.refl _) rfl cg) (λg F h' f j=>d.ok f rfl aC j)
 .rw[beq_eq_false_iff_ne]at o y A D E;rw[beq_iff_eq]at I;rw[if_neg o,if_neg y,if_neg A,if_neg D,if_neg E,if_pos I]at d;refine⟨v,a,gr,od,n,rfl,x.group_,x.order_,B,λr z=>aB (λu=>d.err (.refl _) (if_neg λe=>?_)) (λu=>?_)⟩
  .grind
  rw[if_pos (z.1 cg)]at d;exact aD (λg=>d.big (.refl _) rfl cg) (λg F h' f j=>d.ok f rfl aC j)
 .rw[beq_eq_false_iff_ne]at o y A D E I;rw[if_neg o,if_neg y,if_neg A,if_neg D,if_neg E,if_neg I]at d;refine⟨a,b,n,C,rfl,B,L,λr z=>aB (λu=>d.err (.refl _) ?_) (λu=>aB (λt=>⟨v,a,gr,od,n,rfl,x.group_,x.order_,B,λr2 V=>aB (λd4=>d.err (.refl _) ?_) (λd4=>?_)⟩) (λt=>?_))⟩
  .grind
  .grind
  .rw[beq_iff_eq]at t;rw[if_pos t,if_pos ⟨z.1 cg,V.1 cg⟩]at d;exact aD (λg=>d.big (.refl _) rfl cg) (λg F h' f j=>d.ok f rfl aC j)
  .rw[beq_eq_false_iff_ne]at t;rw[if_neg t,if_pos (z.1 cg)]at d;exact aD (λg=>d.big (.refl _) rfl cg) (λg F h' f j=>d.ok f rfl aC j)
theorem Qq:di 130 bKZ:=by
 refine fU func130 ?_;rintro c m h K ⟨sc,p,v,a,b,s,ps,q,x,y,rfl,d,e,f,g,j,n,o,t,u⟩;refine⟨byJ m,rfl,aE Ji (aE Zs (aE Ii (aE L4 (aE Jc (aE Zr (aE Zq (aE R9 aG))))))),Mq sc p v a b m h K,bu,?_⟩;exact caX d e f g j n o t u
mutual
noncomputable def bM(s:lL)(ps:dl):Query->dl×Int
 |.mk op ta w co on gr od li args=>
  match eO s ps args with
  |(ks,e)=>if e=0 then(if(ks.length:Int)=arity op then eU s ps (.mk op ta w co on gr od li args) (ks.getD 0 []) (ks.getD 1 [])else eN 100)else eN e
noncomputable def eO(s:lL)(ps:dl):ds->List dl×Int
 |[]=>([],0)
 |q::qs=>
  match bM s ps q with
  |(k,e)=>if e=0 then(match eO s ps qs with|(ks,c)=>if c=0 then(k::ks,0)else([],c))else([],e)
end
theorem wK{s:lL}{ps:dl}:∀{c:ds}{ks:List dl},c.map (bM s ps)=ks.map (λk=>(k,0))->eO s ps c=(ks,0)
 |[],[],_=>by simp[eO]
 |q::c,k::ks,h=>by
  simp only[map_cons,List.cons.injEq]at h;simp only[eO,h.1,wK h.2,if_true]
 |[],_::_,h=>by simp at h
 |_::_,[],h=>by simp at h
theorem GD{s:lL}{ps:dl}{e:Int}(d:e≠0):∀{c:ds}{ks:List dl}{i:Nat}{q:Query},(c.take i).map (bM s ps)=ks.map (λk=>(k,0))->c[i]? =some q->(bM s ps q).2=e->eO s ps c=([],e)
 |[],_,_,_,_,h,_=>by simp at h
 |q::c,_,0,g,_,h,f=>by
  simp at h;subst h;simp only[eO,f,if_neg d]
 |q::c,[],i+1,_,h,_,_=>by simp at h
 |q::c,k::ks,i+1,g,h,j,f=>by
  simp only[take_succ_cons,map_cons,List.cons.injEq]at h;have:=GD d h.2 cg f;simp only[eO,h.1,this,if_true,if_neg d]
theorem bdX(l:dl):(nI l).1.length<=12:=by unfold nI;grind
theorem RU(s:lL)(ps:dl)(q:Query)(a b:dl):(eU s ps q a b).1.length<=12:=by
 obtain⟨op,ta,w,co,on,gr,od,li,args⟩:=q;unfold eU;dsimp only
 repeat' split
 all_goals first|exact bdX _|(simp[eN];done)
theorem z7(s:lL)(ps:dl)(q:Query):(bM s ps q).1.length<=12:=by
 obtain⟨op,ta,w,co,on,gr,od,li,args⟩:=q;simp only[bM]
 repeat' split
 all_goals first|exact RU .. |simp[eN]
noncomputable def eF(s:lL)(ps:dl)(q:Query):dl×Int:=
 if cQ s=0 then(if ps.all eH=true then(if uT q=true then bM s ps q else eN 2)else eN 1)else eN (cQ s)
def Slices(h:PH)(c:dn)(ks:List dl):Prop:=c.length=ks.length/\∀(j:Nat) s k,c[j]? =some s->ks[j]? =some k->Ints h s k
theorem Slices.mono{c:dn}(x:Slices h c ks)(le:PH.le h h'):Slices h' c ks:=⟨x.1,λj s k d e=>(x.2 j s k d e).mono le⟩
theorem Slices.snoc{c:dn}{s:Sl}{k:dl}(x:Slices h c ks)(o:Ints h s k):Slices h (c++[s]) (ks++[k]):=by
 refine⟨by simp[x.1],λj g n d e=>?_⟩;by_cases f:j<c.length
 .rw[getElem?_append_left f]at d;rw[getElem?_append_left (by rw[<-x.1];exact f)]at e;exact x.2 j g n d e
 .rw[getElem?_append_right aC]at d;rw[getElem?_append_right (by have:=x.1;omega), <-x.1]at e
  grind
def B8(N:Nat):Vc.Spec:=λc m h K=>∃sc p v s ps q,c=[aS sc,cS p,aQ v]/\fR h s sc/\nM s/\Ints h p ps/\dZ h q v/\SizeOf.sizeOf q<N/\KR K m h (bM s ps q)
def wW:Vc.Spec:=λc m h K=>∃sc p v s ps q,c=[aS sc,cS p,aQ v]/\fR h s sc/\Ints h p ps/\dZ h q v/\KR K m h (eF s ps q)
noncomputable def bXZ(N:Nat)(sc:bX)(p:Sl)(v:QV)(m:MH):Ctx:=
 cT [(89,B8 N),(128,MP),(130,bKZ)] [(3,{A:=Nat×dn×PH,st:=λ⟨i,c,h⟩=>bO 58 61 [(1,sv p),(3,.at (.ptr 3 0)),(5,.at (.ptr 5 0)),(8,.at (.lst 35)),(14,iv v.args.len),(15,iv i)] [(3,.cells 43 (sc.enc.map .val)),(5,.cells 38 (v.enc.map .val)),(35,.lst 33 1 (c.map eS))] m h})] [] [] false
abbrev HP(a:(Nat×dn×PH->Prop)->(Nat×dn×PH)->Prop)(b:(Nat×dn×PH->Prop)->(Nat×dn×PH->Nat)->(Nat×dn×PH)->Prop):Prop:=∃(x:Nat×dn×PH->Prop)(d:Nat×dn×PH->Nat),(∃(c:Nat×dn×PH),a x c)/\∀(c:Nat×dn×PH),b x d c
abbrev JU(a:List dj)(b:Nat×dn×PH):Prop:=bW 33 1 a=bW 33 1 (List.map eS b.2.1)
noncomputable abbrev gC(a:Nat×dn×PH):Nat->Nat->Option Value:=a.2.2
abbrev EM(a:bX->Sl->Prop):Prop:=∃(x:bX)(c:Sl),a x c
abbrev Gx(a:lL->dl->Prop):Prop:=∃(x:lL)(c:dl),a x c
abbrev JZ(a:bX)(b:Sl)(c:QV)(d:PH)(e:QV->lL->dl->Query->Prop):Prop:=EM (λx g=>∃(j:QV),Gx (λf n=>∃(o:Query),aA (cV (cD a) (fP b (hX c))=cV (cD x) (fP g (hX j))) (fR d f x) (aA (nM f) (Ints d g n) (e j f n o))))
abbrev iY(a:List dj)(b:Nat)(c:Prop):Prop:=aA (j4 (nY a 1*b)) (zY a) c
noncomputable abbrev iA(a:dn):List dj:=List.map eS a
noncomputable abbrev p8(a:Nat×dn×PH):List dj:=iA a.2.1
noncomputable abbrev Kj(a:Nat×dn×PH):List dj:=p8 a++lV::gL lV
abbrev DN(a:List dj)(b:Nat)(c:dj):Prop:=a[b]? =Option.some c
attribute [push_cast] HP JU gC EM Gx JZ iY iA p8 Kj DN
def Wv(N:Nat)(sc:bX)(p:Sl)(v:QV)(m:MH)(h:PH)(K:dk):Prop:=
  HP (λI x=>aA (I x) (aH p) (aA bJ dM (aA (eL 35) (uF v) (aA (aZ x.1) (bP sc) (aA (dJ v) (JU [] x) (aA (m=m) (h=gC x) True)))))) (λI u x=>I x->aW (↑x.1:Int) (aF v.args) (aJ (λb o=>aI (aK v.args.a b o) (0<=(↑x.1:Int)) ((↑x.1:Int)<aF v.args) (∃(y:QV),aR m (gC x) b (bE o x.1 21) y.enc/\JZ sc p y (gC x) (λj s f q=>aA (dZ (gC x) q j) (sB q N) (fT (λd c=>dN (gC x) c (Ints c d (bM s f q).1) (cK (bM s f q).2 0 (K (CV.tup (nO iO (CV.val (fE (bM s f q).2)))) m c) (iY (p8 x) 24 (∃(g:Nat×dn×PH),aA (I g) (u g<u x) (aA (aH p) bJ (aA dM (eL 35) (aA (uF v) (eR (bF ((↑x.1:Int)+1))=bL g.1) (aA (bP sc) (dJ v) (aA (JU (eG (p8 x)
 (aM d)) g) (m=m) (bR c (gC g)))))))))))))))) (pL v.op (λo=>cK (j7 (p8 x)) (arity o) (K (CV.tup (bD iO 100)) m (gC x)) (aA (j4 (nY (p8 x) 2*24)) (j4 (nY (p8 x) 2)) (aA (bY 0) (0<j7 (Kj x)) (∃(e:dj),DN (Kj x) 0 e/\∃(y:Sl),aI (List.take 1 (List.drop 0 e)=aM y) ((0:Int)<=1) (1<j7 (Kj x)) (∃(z:dj),DN (Kj x) 1 z/\∃(A:Sl),List.take 1 (List.drop 0 z)=aM A/\EM (λs f=>∃(j:QV),gQ (λa b=>Gx (λd t=>∃(q:Query),mV (λl n=>aA (cV (cD sc) (cA p (cV v.enc (dK y A)))=cV (cD s) (cA f (cV j.enc (dK a b)))) (fR (gC x) d s) (aA (nM d) (Ints (gC x) f t) (aA (dZ (gC x) q j) (Ints (gC x) a l) (aA (Ints (gC x) b n)
 (l.length<=12) (n.length<=12/\fT (λB c=>dN (gC x) c (Ints c B (eU d t q l n).1) (K (CV.tup (fP B (CV.val (fE (eU d t q l n).2)))) m c)))))))))))))))))
abbrev An(a:bX)(b:PH)(c:lL->Prop):Prop:=qS (λx d=>sX (cD a) (cD x) (fR b d x) (c d))
attribute [push_cast] An
def WM(N:Nat)(sc:bX)(p:Sl)(v:QV)(m:MH)(h:PH)(K:dk):Prop:=
  An sc h (λs=>cK (cQ s) 0 (K (CV.tup (bD iO (cQ s))) m h) (qT p h (λl=>mB (Bd l) (K (CV.tup (bD iO 1)) m h) (qR (λd e=>sX v.enc d.enc (dZ h e d) (mB (uT e) (K (CV.tup (bD iO 2)) m h) (JZ sc p v h (λn f g q=>aA (dZ h q n) (sB q N) (fT (λj c=>dN h c (Ints c j (bM f g q).1) (K (CV.tup (fP j (CV.val (fE (bM f g q).2)))) m c)))))))))))
theorem LY{c:ds}(h:c.map (bM s ps)=ks.map (λk=>(k,0)))(j:Nat):(ks.getD j []).length<=12:=by
 rw[getD_eq_getElem?_getD];cases e:ks[j]? with
 |none=>simp
 |some k=>
  have d:(c.map (bM s ps))[j]? =some (k,0):=cg
  rw[getElem?_map,Option.map_eq_some_iff]at d;obtain⟨q,_,f⟩:=d;have:=z7 s ps q
  grind
theorem Slices.pick{c:dn}(x:Slices h c ks)(j:Nat)(f:j<c.length+2):∃y:Sl,(c.map eS++[[.slice none 0 0],[.slice none 0 0]])[j]? =some [.slice y.a y.len y.cap]/\Ints h y (ks.getD j []):=by
 by_cases d:j<c.length
 .refine⟨c[j],?_,?_⟩
  .rw[getElem?_append_left cg];simp[d,eS]
  .have e:j<ks.length:=by rw[<-x.1];exact d
   rw[getD_eq_getElem?_getD,cq e];exact x.2 j _ _ (cq d) (cq e)
 .refine⟨⟨none,0,0⟩,?_,?_⟩
  .grind
  .rw[getD_eq_getElem?_getD,getElem?_eq_none (by have:=x.1;omega)];exact⟨.nil _ _,bx⟩
theorem arZ:∀N,di 89 (B8 N)
 |0=>by
  refine eA (fn:=Tryz.f89) (c:=cM Tryz.f89) func89 rfl bz ?_;rintro C m h K ⟨sc,p,v,s,ps,q,rfl,_,_,_,_,Y,_⟩;omega
 |N+1=>by
  refine fU func89 ?_;rintro C m h K ⟨sc,p,v,s,ps,q,rfl,Q,R,S,T,Y,n⟩;refine⟨bXZ N sc p v m,rfl,aE (arZ N) (aE Ji (aE Qq aG)),Wv N sc p v m h K,bu,?_⟩;dsimp only[Wv,push_cast];have D:=@vF q;have E:=T;obtain⟨op,ta,w,co,on,gr,od,li,args⟩:=q;have x:=T.parts;have e0:=x.op_;have Z:=x.args_.slen;have U:=x.args_.len;simp only[Query.args]at D;simp only[bM]at n;refine⟨λ⟨i,z,F⟩=>i<=args.length/\PH.le h F/\∃ks,Slices F z ks/\(args.take i).map (bM s ps)=ks.map (λk=>(k,0)),λ⟨i,_,_⟩=>args.length-i,⟨(0,[],h),⟨aC,.refl _,[],⟨rfl,λj s k y=>by simp at y⟩,bx⟩,MT⟩,?_⟩;rintro⟨i,z,F⟩ ⟨V,d,ks,A,g⟩;have G:ks.length=i:=by have:=congrArg List.length g;grind
  have a':z.length=i:=by rw[A.1,G]
  dsimp only;refine aD (λo=>?_) (λa0=>?_)
  .obtain⟨B,t⟩:=dO Z o;obtain⟨b1,o1,u,H,r1,I⟩:=(x.args_.mono d).at t;refine⟨b1,o1,H,aC,o,u,.imm r1,sc,p,u,s,ps,B,rfl,Q.mono d,R,S.mono d,I,?_,λJ h' f L=>aB (λy=>?_) (λy=>?_)⟩
   .grind
   .have M:(bM s ps B).2≠0:=cg
    rw[GD M g t rfl]at n;exact n.err (d.trans f) (if_neg M)
   .have M:(bM s ps B).2=0:=cg
    refine⟨ce,ce,(i+1,z++[J],h'),⟨aC,d.trans f,ks++[(bM s ps B).1],(A.mono f).snoc L,?_⟩,aC,?_⟩
    .rw[iN t,g,cv]
     grind
    .rw[cv];exact MT
  .rw[cu aC]at g;rw[wK g]at n;simp only[if_true]at n;refine⟨v.op,rfl,aB (λy=>n.err d (if_neg λe=>?_)) (λy=>?_)⟩
   .grind
   have y:(z.length:Int)=arity op:=cg
   rw[if_pos aC]at n;obtain⟨W,O,i0⟩:=A.pick 0 aC;obtain⟨X,P,i1⟩:=A.pick 1 aC;exact⟨ce,ce,aC,ce,_,O,W,rfl,aC,ce,_,P,X,rfl,sc,p,v,W,X,s,ps,_,_,_,rfl,Q.mono d,R,S.mono d,E.mono d,i0,i1,LY g 0,LY g 1,λJ h' f V=>n J h' (d.trans f) V⟩
theorem RE(h:cQ s=0):nM s:=by
 have c:CD s:=Classical.byContradiction λd=>by rw[sS d]at h;cases h
 intro t e;obtain⟨j,f⟩:=mem_iff_getElem?.1 e;exact(c.2 j t f).1
theorem L8:di 37 wW:=by
 refine fU func37 ?_;rintro n m h K ⟨sc,p,v,s,ps,q,rfl,f,g,j,c⟩;refine⟨cT [(86,uP),(87,QZ),(88,axZ),(89,B8 (SizeOf.sizeOf q+1))] [] [] [] false,rfl,aE L5 (aE R6 (aE aPZ (aE (arZ _) aG))),WM (SizeOf.sizeOf q+1) sc p v m h K,bu,?_⟩;dsimp only[WM,push_cast];unfold eF at c;refine⟨sc,s,rfl,f,aB (λd=>c.err (.refl _) (if_neg cg)) (λd=>?_)⟩;have d:cQ s=0:=cg
 rw[if_pos d]at c;refine⟨p,ps,rfl,g,aB (λo=>c.err (.refl _) (if_neg λe=>cg)) (λo=>?_)⟩;rw[if_pos cg]at c;refine⟨v,q,rfl,j,aB (λt=>c.err (.refl _) (if_neg λe=>cg)) (λt=>?_)⟩;rw[if_pos cg]at c;exact⟨sc,p,v,s,ps,q,rfl,f,RE d,g,j,aC,c⟩
def aN(n:NV):CV:=.val (.agg ⟨n.enc⟩)
structure Bl(h:PH)(s:lL)(ps:dl)(q:Query)(ks:List dl)(n:NV):Prop where
 s_:fR h s n.s
 ps_:Ints h n.params ps
 q_:dZ h q n.q
 ks_:bI h 1 eS (λk sl=>Ints h sl k) n.args ks
 len:∀k∈ks,k.length<=12
def Query.withOf(u q:Query):Query:=match u,q with|.mk _ ta w co on gr od li _,.mk op _ _ _ _ _ _ _ args=>.mk op ta w co on gr od li args
def DE:Vc.Spec:=λc m h K=>∃n k u s ps q ks d,c=[aN n,cI k,aQ u]/\Bl h s ps q ks n/\dZ h d u/\∀r:Bool,(r=true↔(ks.length:Int)=k/\q=d.withOf q)->K (cB r) m h
def QS:Vc.Spec:=λc m h K=>∃n s ps q ks,c=[aN n]/\Bl h s ps q ks n/\K (aQ ⟨0,0,⟨0,0,dG,dG,⟨none,0,0⟩⟩,⟨none,0,0⟩,⟨none,0,0⟩,n.q.group,n.q.order,n.q.limit,⟨none,0,0⟩⟩) m h
def QT:Vc.Spec:=λc m h K=>∃n s ps q ks a,c=[aN n]/\Bl h s ps q ks n/\ks[0]? =some a/\∀r:Bool,(r=true↔∃op ta w co on gr od li args,q= .mk op ta w co on gr od li args/\rF a gr od li)->K (cB r) m h
def NX(ks:List dl):Query->Prop
 |.mk op ta w co on gr od li _=>ks.length=2/\ta=0/\w=gM/\co=[]/\gr=[]/\od=[]/\li=0/\Good (uS (ks.getD 0 []) (ks.getD 1 [])) on
def QX:Vc.Spec:=λc m h K=>∃n s ps q ks,c=[aN n]/\Bl h s ps q ks n/\∀r:Bool,(r=true↔NX ks q)->K (cB r) m h
noncomputable def bkQ(n:NV)(h:PH):Ctx:=
 rI [] [(4,{A:=Nat×Nat×Nat×MH,st:=λ⟨i,c,b,d⟩=>bO 72 73 [(1,.at (.ptr 1 0)),(3,iv c),(4,vv (.pointer (some ⟨b,0,none⟩))),(16,sv n.q.group),(17,iv n.q.group.len),(18,iv i)] [(1,.cells 218 (n.enc.map .val))] d h}),
  (11,{A:=Nat×Nat×MH,st:=λ⟨i,c,d⟩=>bO 72 73 [(1,.at (.ptr 1 0)),(3,iv c),(39,sv n.q.order),(40,iv n.q.order.len),(41,iv i)] [(1,.cells 218 (n.enc.map .val))] d h})] [] [] [302] [] false
noncomputable def bkX(n:NV)(h:PH):Ctx:=
 rI [(265,DE)] [(6,{A:=Nat×Sl×Sl×Nat×Nat×MH,st:=λ⟨i,s,t,b,c,d⟩=>bO 80 81 [(3,sv s),(4,sv t),(5,vv (.pointer (some ⟨b,0,none⟩))),(6,vv (.pointer (some ⟨c,0,none⟩))),(28,sv n.q.on),(29,iv n.q.on.len),(30,iv i)] [] d h})] [] [] [302] [] false
noncomputable abbrev qI(a:OV):Value:=fE a.kind
noncomputable abbrev nJ(a:QV):OV:=a.where_.left
noncomputable abbrev qJ(a:OV):Value:=fE a.index
noncomputable abbrev p7(a:OV):Int:=a.value.int
noncomputable abbrev lY(a:OV):Value:=fE (p7 a)
noncomputable abbrev Hu(a b c:QV)(d:dj):dj:=bC (fE a.op) (fE b.table) (bC (fE c.where_.op) (fE c.where_.cmp) (bC (qI (nJ c)) (qJ (nJ c)) (bC (fE (kU (nJ c))) (lY (nJ c)) d)))
noncomputable abbrev kJ(a:OV):Value:=Value.string a.value.text
noncomputable abbrev fX(a:QV):OV:=a.where_.right
noncomputable abbrev j8(a:OV):Value:=fE (kU a)
noncomputable abbrev Ex(a:QV):Value:=iI a.where_.args
noncomputable abbrev Fo(a:QV):Value:=iI a.columns
attribute [push_cast] qI nJ qJ p7 lY Hu kJ fX j8 Ex Fo
def Sm(n:NV)(k:Int)(u:QV)(m:MH)(h:PH)(K:dk):Prop:=
  dD (aF n.args) k (Ko (λv w p q=>aI (fY n.q.enc (Hu n.q u u (bC (kJ (nJ u)) (qI (fX u)) (bC (qJ (fX u)) (j8 (fX u)) (bC (lY (fX u)) (kJ (fX u)) (bC (Ex u) (Fo u) (bC (iI u.on) (iI u.group) (bC (iI u.order) (fE u.limit) (aM n.q.args))))))))=fY v.enc w.enc) (dZ h p v) (dZ h q w) (∀(r:Bool),(eZ r↔p=q)->K (vD r) m h))) (K aX m h)
noncomputable abbrev ES(a:Value)(b:dj):dj:=bC cF a (bC cF cF (bC cF cF (bC cF cF b)))
noncomputable abbrev Fu(a b c d e:Value):dj:=bC MX cF (bC cF cF (bC cF MX (bC sC a (bC b c (bC d e lV)))))
attribute [push_cast] ES Fu
def Sk(n:NV)(m:MH)(h:PH)(K:dk):Prop:=
  K (gV (ES cF (Fu sC sC (iI n.q.group) (iI n.q.order) (fE n.q.limit)))) m h
noncomputable abbrev vB:Value:=Value.bool false
abbrev N3(a:MH)(b:PH)(c:Nat->MH->Prop):Prop:=mE a b (λx d=>gP a d x (bC vB vB (bC vB vB (bC vB vB (bC vB vB (bC vB vB (bC vB vB [])))))) 302) (λx d=>c x d)
noncomputable abbrev zX(a:QV):At:=fL a.table
abbrev Et(a:NV):Prop:=eQ (oQ 218 (cH (JR a.s) (JQ a.s) (cH (jR a.params) (fL a.q.op) (zX a.q::pQ a.q.where_ (cH (jR a.q.columns) (jR a.q.on) (cH (jR a.q.group) (jR a.q.order) (cH (fL a.q.limit) (jR a.q.args) (kM (jR a.args)))))))))
noncomputable abbrev uG(a:Bool):dj:=kH (Value.bool a)
abbrev oX(a b:MH)(c:Nat)(d:Array Value)(e:Nat)(g:dj)(i:TypeId):Prop:=gP a b c (splice d.toList e g) i
attribute [push_cast] vB N3 zX Et uG oX
def Ik(n:NV)(m:MH)(h:PH)(K:dk):Prop:=
  aJ (λb o=>aI (aK n.args.a b o) ((0:Int)<=0) (0<aF n.args) (∃(y:Sl),aR m h b (o+0) (aM y)/\N3 m h (λA B=>∃(I:Nat×Nat×Nat×MH->Prop)(u:Nat×Nat×Nat×MH->Nat),(∃(x:Nat×Nat×Nat×MH),aA (I x) dW (aA (bL y.len=bL x.2.1) (dP A (iE x.2)) (aA (aH n.q.group) (aY n.q.group) (aA (aZ x.1) (Et n) (bG B (gG x.2) h h)))))/\∀(x:Nat×Nat×Nat×MH),I x->aW (↑x.1:Int) (aF n.q.group) (aJ (λf g=>aI (aK n.q.group.a f g) (0<=(↑x.1:Int)) ((↑x.1:Int)<aF n.q.group) (∃(e:Int),aR (gG x.2) h f (bE g x.1 1) (bQ e)/\aW e 0 (oN K x.2 h) (eK e (↑x.2.1:Int) (oN K x.2 h) (aA (bY e) (e<12) (∃(z:Bool),aR (gG x.2) h (iE x.2) (cC 0 e 1) (uG z)/\branch z (oN K x.2 h) (aA
 (bY e) (e<12) (kS (λc E=>aA (Gc (gG x.2) (iE x.2) (lF c E 0)) (nR (cC 0 e 1) c) (∀(j:MH),oX (gG x.2) j (iE x.2) c (cC 0 e 1) (kH Bc) E->∃(d:Nat×Nat×Nat×MH),aA (I d) (u d<u x) (aA dW (bV x.2.1 d.2.1) (aA (dP (iE x.2) (iE d.2)) (aH n.q.group) (aA (aY n.q.group) (eR (bF ((↑x.1:Int)+1))=bL d.1) (bS (Et n) j (gG d.2) h h)))))))))))))) (∃(I1:Nat×Nat×MH->Prop)(j:Nat×Nat×MH->Nat),Oq (λd=>aA (I1 d) dW (aA (bV x.2.1 (iE d)) (aH n.q.order) (aA (aY n.q.order) (aZ d.1) (aA (Et n) (gG x.2=gG d) (bR h h))))) (λd=>I1 d->aW (↑d.1:Int) (aF n.q.order) (aJ (λf g=>aI (aK n.q.order.a f g) (0<=(↑d.1:Int)) ((↑d.1:Int)<aF n.q.order) (∃
 (e:Int×Bool),aR (gG d) h f (bE g d.1 2) (qX e)/\aW e.1 0 (oN K d h) (eK e.1 (↑(iE d):Int) (oN K d h) (∃(t:Nat×Nat×MH),aA (I1 t) (j t<j d) (aA dW (bV (iE d) (iE t)) (aA (aH n.q.order) (aY n.q.order) (aA (eR (bF ((↑d.1:Int)+1))=bL t.1) (Et n) (bG (gG d) (gG t) h h))))))))) (Gt (aF n.q.order) 12 (eK n.q.limit 0 (K (vD (decide (n.q.limit<=100))) (gG d) h) (oN K d h)) (oN K d h)))))))
abbrev Er(a:lL->dl->Query->(List dl)->Prop):Prop:=Gx (λx c=>∃(d:Query)(e:List dl),a x c d e)
abbrev CU(a:eb)(b:NV->Int->QV->eb)(c:PH)(d:Int->Query->(List dl)->Query->Bool->Prop):Prop:=∃(x:NV)(e:Int)(f:QV),Er (λo t g j=>∃(n:Query),aI (a=b x e f) (Bl c o t g j x) (dZ c n f) (∀(u:Bool),d e g j n u))
noncomputable abbrev gZ(a:NV)(b:dj):dj:=bC (fE a.s.version) (iI a.s.tables) (bC (iI a.params) (fE a.q.op) (bC (fE a.q.table) (fE a.q.where_.op) (bC (fE a.q.where_.cmp) (qI (nJ a.q)) b)))
noncomputable abbrev hP(a:NV)(b:dj):dj:=bC (qJ (nJ a.q)) (j8 (nJ a.q)) (bC (lY (nJ a.q)) (kJ (nJ a.q)) (bC (qI (fX a.q)) (qJ (fX a.q)) (bC (fE (kU (fX a.q))) (lY (fX a.q)) b)))
noncomputable abbrev Be(a:OV)(b:QV)(c d:Sl):dj:=bC (kJ a) (Ex b) (bC (Fo b) (iI c) (bC (iI b.group) (iI b.order) (bC (fE b.limit) (iI b.args) (aM d))))
noncomputable abbrev gY(a:NV):dj:=Be (fX a.q) a.q a.q.on a.args
noncomputable abbrev Gu(a:List dl):Int:=(↑a.length:Int)
abbrev C3(a:List dl)(b:Int)(c d:Query):Prop:=Gu a=b/\c=Query.withOf d c
noncomputable abbrev jX(a:Nat×Sl×Sl×Nat×Nat×MH):Nat×Nat×MH:=a.2.2.2
attribute [push_cast] Er CU gZ hP Be gY Gu C3 jX
def Il(n:NV)(m:MH)(h:PH)(K:dk):Prop:=
  CU (cV (gZ n (hP n (gY n))) (fO 2 (gV (ES cF (Fu sC (iI n.q.on) sC sC cF))))) (λf k u=>cV (gZ f (hP f (gY f))) (fO k (hX u))) h (λk q R u r=>eT (eZ r↔C3 R k q u) (!r) (K aX m h) (aJ (λb o=>aI (aK n.args.a b o) ((0:Int)<=0) (0<aF n.args) (∃(y:Sl),aR m h b (o+0) (aM y)/\aJ (λt z=>aI (aK n.args.a t z) ((0:Int)<=1) (1<aF n.args) (∃(A:Sl),aR m h t (z+1) (aM A)/\N3 m h (λS T=>N3 T h (λU V=>∃(I:Nat×Sl×Sl×Nat×Nat×MH->Prop)(B:Nat×Sl×Sl×Nat×Nat×MH->Nat),(∃(x:Nat×Sl×Sl×Nat×Nat×MH),aA (I x) (bA y x.2.1) (aA (bA A x.2.2.1) (dP S (jX x).1) (aA (dP U (iE (jX x))) (aH n.q.on) (aA (aY n.q.on) (aZ x.1) (bG V
 (gG (jX x)) h h)))))/\∀(x:Nat×Sl×Sl×Nat×Nat×MH),I x->aW (↑x.1:Int) (aF n.q.on) (aJ (λC D=>aI (aK n.q.on.a C D) (0<=(↑x.1:Int)) ((↑x.1:Int)<aF n.q.on) (∃(d:Int×Int),aA (aR (gG (jX x)) h C (bE D x.1 2) (oD d)) (bY 0) (aA ((0:Int)<2) (bY 1) ((1:Int)<2/\aW d.1 0 (oN K (jX x) h) (eK d.1 (aF x.2.1) (oN K (jX x) h) (aW d.2 0 (oN K (jX x) h) (eK d.2 (aF x.2.2.1) (oN K (jX x) h) (aJ (λF G=>aI (aK x.2.1.a F G) (0<=d.1) (d.1<aF x.2.1) (∃(H:Int),aR (gG (jX x)) h F (cC G d.1 1) (bQ H)/\aJ (λJ L=>aI (aK x.2.2.1.a J L) (0<=d.2) (d.2<aF x.2.2.1) (∃(M:Int),aR (gG (jX x)) h J (cC L d.2 1) (bQ M)/\cK H M (oN K (jX x)
 h) (aA (bY d.1) (d.1<12) (∃(O:Bool),aR (gG (jX x)) h (jX x).1 (cC 0 d.1 1) (uG O)/\branch O (oN K (jX x) h) (aA (bY d.2) (d.2<12) (∃(P:Bool),aR (gG (jX x)) h (iE (jX x)) (cC 0 d.2 1) (uG P)/\branch P (oN K (jX x) h) (aA (bY d.1) (d.1<12) (kS (λc E=>aA (Gc (gG (jX x)) (jX x).1 (lF c E 0)) (nR (cC 0 d.1 1) c) (∀(g:MH),oX (gG (jX x)) g (jX x).1 c (cC 0 d.1 1) (kH Bc) E->aA (bY d.2) (d.2<12) (kS (λj E1=>aA (Gc g (iE (jX x)) (lF j E1 0)) (nR (cC 0 d.2 1) j) (∀(Q:MH),oX g Q (iE (jX x)) j (cC 0 d.2 1) (kH Bc) E1->∃(e:Nat×Sl×Sl×Nat×Nat×MH),aA (I e) (B e<B x) (aA (bA x.2.1 e.2.1) (bA x.2.2.1 e.2.2.1) (aA
 (dP (jX x).1 (jX e).1) (dP (iE (jX x)) (iE (jX e))) (aA (aH n.q.on) (aY n.q.on) (bS (eR (bF ((↑x.1:Int)+1))=bL e.1) Q (gG (jX e)) h h)))))))))))))))))))))))))))) (K dR (gG (jX x)) h)))))))))
structure Arr(m:MH)(b:Nat)(seen:dl):Prop where
 ex:∃bs:ei,m b=some (.cells ⟨bs.map Value.bool⟩ 302 (0,0))/\bs.length=12/\∀k:Nat,k<12->(bs[k]? =some true↔(k:Int)∈seen)
theorem Arr.zero(h:m b=some (.cells ⟨[.bool false,.bool false,.bool false,.bool false,.bool false,.bool false,.bool false,.bool false,.bool false,.bool false,.bool false,.bool false]⟩ 302 (0,0))):Arr m b []:=
 ⟨⟨replicate 12 false,h,rfl,λk c=>cg⟩⟩
theorem Arr.look{c:dl}(x:Arr m b c){n:Int}(f:0<=n)(g:n<12):∃y:Bool,aR m h b (0+n.toNat*1) [.bool y]/\(y=true↔n∈c):=by
 obtain⟨d,e,j,o⟩:=x.ex;have t:n.toNat<d.length:=by omega
 refine⟨d[n.toNat],.lent _ _ _ e ?_,?_⟩
 .simp only[Nat.zero_add,Nat.mul_one,de,length_nil];rw[drop_eq_getElem_cons cg];simp
 grind
theorem Arr.store{c:dl}(x:Arr m b c){n:Int}(o:0<=n)(t:n<12):∃(cs:Array Value)(E:TypeId),Gc m b (.cells cs E (0,0))/\0+n.toNat*1<cs.size/\∀m',iD m m' b (.cells ⟨splice cs.toList (0+n.toNat*1) [.bool true]⟩ E (0,0))->Arr m' b (c++[n]):=by
 obtain⟨d,e,u,y⟩:=x.ex;have f:n.toNat<d.length:=by omega
 refine⟨_,_,⟨e⟩,cg,λm' g=>⟨d.set n.toNat true,?_,cg,λk j=>?_⟩⟩
 .rw[g.at_];congr 3;simp only[splice,Nat.zero_add,Nat.mul_one,de,length_nil];rw[set_eq_take_append_cons_drop,if_pos f];simp[map_take,map_drop]
 grind
theorem Arr.other{f:Nat}{d:dl}(x:Arr m b d)(g:b≠f)(t:∀c,c≠f->m' c=m c):Arr m' b d:=by
 obtain⟨j,e,n,o⟩:=x.ex;exact⟨j,cg,n,o⟩
theorem Bl.arg{n:NV}(x:Bl h s ps q ks n){j:Nat}{k:dl}(c:ks[j]? =some k):∃b o sl,n.args.a=some ⟨b,o,none⟩/\bZ h b (o+j*1) [.slice sl.a sl.len sl.cap]/\Ints h sl k/\k.length<=12/\j<n.args.len:=by
 obtain⟨b,o,sl,e,r,d⟩:=x.ks_.at c;have:=(cn c);exact⟨b,o,sl,e,r,d,x.len k (cr c),by rw[x.ks_.slen];exact this⟩
theorem b5Q{n:NV}(c:K (aQ ⟨0,0,⟨0,0,dG,dG,⟨none,0,0⟩⟩,⟨none,0,0⟩,⟨none,0,0⟩,n.q.group,n.q.order,n.q.limit,⟨none,0,0⟩⟩) m h):Sk n m h K:=c
theorem wL:di 265 DE:=by
 refine fU func265 ?_;rintro C m h K ⟨n,k,u,s,ps,q,ks,D,rfl,c,E,B⟩;refine⟨cT [(290,ceQ)] [] [] [] false,rfl,aE YI aG,Sm n k u m h K,bu,?_⟩;dsimp only[Sm,push_cast];have L:=c.ks_.slen;have F:=c.q_;have d:=c.q_;obtain⟨op,ta,w,co,on,gr,od,li,args⟩:=q;obtain⟨G,f,H,g,j,o,t,z,A⟩:=D;have x:=E.parts;have y:=F.parts;refine aB (λI=>⟨n.q,⟨n.q.op,u.table,u.where_,u.columns,u.on,u.group,u.order,u.limit,n.q.args⟩,_,.mk op f H g j o t z args,rfl,d,nS.rep ⟨y.op_,x.table_,x.where_,x.columns_,x.on_,x.group_,x.order_,x.limit_,y.args_⟩,λr J=>B r (J.trans ⟨λe=>⟨?_,e⟩,λe=>e.2⟩)⟩) (λI=>B false ⟨λe=>(by cases e),λe=>?_⟩)
 .grind
 grind
theorem Qc:di 267 QS:=by
 refine fU func267 ?_;rintro c m h K ⟨n,s,ps,q,ks,rfl,e,d⟩;refine⟨cT [] [] [] [] false,rfl,aG,Sk n m h K,bu,?_⟩;exact b5Q d
theorem b4J{n:NV}{op:Int}{on:dq}{args:ds}(u:Bl h s ps (.mk op ta w co on gr od li args) ks n)(ha:ks[0]? =some a)(W:∀r:Bool,(r=true↔rF a gr od li)->K (cB r) m h):Ik n m h (jF h K):=by
 dsimp only[Ik,push_cast];have x:=u.q_.parts;have gl:=x.group_.slen;have X:=x.group_.len;have ol:=x.order_.slen;have Y:=x.order_.len;have el:=x.limit_;obtain⟨b0,o0,Z,e0,r0,J,a',a0⟩:=u.arg ha;have L:=J.slen;have bad:∀f,Sub m f->¬rF a gr od li->jF h K (.val (.bool false)) f h:=λf hm u=>.sub hm (W false ⟨λe=>(by cases e),λe=>(u e).elim⟩);refine⟨b0,o0,e0,aC,aC,Z,.imm aC,λb m1 hb C=>?_⟩;refine⟨λ⟨i,D,b',f⟩=>D=a.length/\b'=b/\i<=gr.length/\Sub m f/\Arr f b (gr.take i)/\fC (G3 a) gr i,λ⟨i,_,_,_⟩=>gr.length-i,⟨(0,Z.len,b,m1),⟨L,rfl,aC,(Sub.refl m).upd hb.m_ C.other,.zero C.at_,.zero⟩,MT⟩,?_⟩;rintro⟨i,D,b,f⟩ ⟨rfl,rfl,hi,d,j,M⟩;dsimp only;refine aD (λo=>?_) (λF=>?_)
 .obtain⟨c,z⟩:=dO gl o;obtain⟨O,P,Q,R⟩:=x.group_.at' z;have t:¬G3 a (gr.take i) c->jF h K (.val (.bool false)) f h:=λu=>bad f d λg=>Good.not z u g.group_;refine⟨O,P,Q,aC,o,c,.imm R,aD (λG=>t λg=>?_) (λG=>aD (λB=>t λg=>?_) (λB=>?_))⟩
  .have:=eV.1 g.1;omega
  .have:=eV.1 g.1;omega
  obtain⟨y,hy,S⟩:=j.look (h:=h) (n:=c) aC aC;refine⟨aC,aC,y,hy,aB (λh3=>t λg=>g.2 (S.1 h3)) (λh3=>?_)⟩;obtain⟨cs,E,T,U,V⟩:=j.store (n:=c) aC aC;refine⟨aC,aC,cs,E,T,U,λm2 H=>⟨(i+1,a.length,b,m2),⟨rfl,rfl,aC,d.upd hb.m_ H.other,?_,M.succ z ⟨eV.2 ⟨aC,aC⟩,λe=>?_⟩⟩,aC,MT⟩⟩
  .have:=V m2 H
   rwa [db,z]
  grind
 have gg:=M.all aC;refine⟨λ⟨i,D,f⟩=>D=a.length/\i<=od.length/\Sub m f/\fC (Jq a) od i,λ⟨i,_,_⟩=>od.length-i,⟨(0,a.length,f),⟨rfl,aC,d,.zero⟩,MT⟩,?_⟩;clear hi M F d j f;rintro⟨i,D,f⟩ ⟨rfl,hi,d,I⟩;dsimp only;refine aD (λo=>?_) (λF=>?_)
 .obtain⟨c,z⟩:=dO ol o;obtain⟨O,P,Q,R⟩:=x.order_.at z;have A:¬Jq a (od.take i) c->jF h K (.val (.bool false)) f h:=λu=>bad f d λg=>Good.not z u g.order_;refine⟨O,P,Q,aC,o,c,.imm R,aD (λG=>A λg=>?_) (λG=>aD (λB=>A λg=>?_) (λB=>⟨(i+1,a.length,f),⟨rfl,aC,d,I.succ z (eV.2 ⟨aC,aC⟩)⟩,aC,MT⟩))⟩
  .have:=eV.1 (show F0 a c.1=true from g);omega
  .have:=eV.1 (show F0 a c.1=true from g);omega
 have oo:=I.all aC;rw[el];refine aD (λG=>aD (λB=>?_) (λB=>bad f d λg=>?_)) (λG=>bad f d λg=>?_)
 .exact .sub d (W (decide (li<=100)) ⟨λe=>⟨gg,oo,aC,B,cm e⟩,λe=>decide_eq_true e.high⟩)
 .have:=g.low;omega
 .have:=g.len_;omega
theorem Qb:di 268 QT:=by
 refine DS func268 ?_;rintro c m h K ⟨n,s,ps,q,ks,a,rfl,d,f,g⟩;refine⟨bkQ n h,rfl,aG,Ik n m h (jF h K),bu,?_⟩;dsimp only[Ik,push_cast];obtain⟨op,ta,w,co,on,gr,od,li,args⟩:=q;refine b4J d f (λr j=>g r (j.trans ⟨λe=>⟨_,_,_,_,_,_,_,_,_,rfl,e⟩,?_⟩))
 grind
theorem X4{on:dq}{sl:Sl}(c:jA h sl on):dZ h (.mk 0 0 gM [] on [] [] 0 []) ⟨0,0,⟨0,0,dG,dG,⟨none,0,0⟩⟩,⟨none,0,0⟩,sl,⟨none,0,0⟩,⟨none,0,0⟩,0,⟨none,0,0⟩⟩:=
 nS.rep ⟨rfl,rfl,Ef h,⟨.nil _ _,bx⟩,c,⟨.nil _ _,bx⟩,⟨.nil _ _,bx⟩,rfl,.nil _ _ _ _⟩
theorem Qd:di 266 QX:=by
 refine DS func266 ?_;rintro a7 m h K ⟨n,s,ps,q,ks,rfl,t,hK⟩;refine⟨bkX n h,rfl,aE wL aG,Il n m h (jF h K),bu,?_⟩;dsimp only[Il,push_cast];obtain⟨op,ta,w,co,on,gr,od,li,args⟩:=q;show Il n m h (jF h K);dsimp only[Il,push_cast];have x:=t.q_.parts;have ol:=x.on_.slen;have a5:=x.on_.len;have bad:∀g,Sub m g->¬NX ks (.mk op ta w co on gr od li args)->jF h K (.val (.bool false)) g h:=λg T t=>.sub T (hK false ⟨λe=>(by cases e),λe=>(t e).elim⟩);refine⟨n,2,⟨0,0,⟨0,0,dG,dG,⟨none,0,0⟩⟩,⟨none,0,0⟩,n.q.on,⟨none,0,0⟩,⟨none,0,0⟩,0,⟨none,0,0⟩⟩,s,ps,_,ks,.mk 0 0 gM [] on [] [] 0 [],rfl,t,X4 x.on_,λr hr=>aB (λh1=>bad m (Sub.refl m) λf=>?_) (λh1=>?_)⟩
 .have:r=true:=hr.2 ⟨by have:=f.1;omega,by obtain⟨_,rfl,rfl,rfl,rfl,rfl,rfl,_⟩:=f;rfl⟩
  grind
 obtain⟨U,G⟩:=hr.1 cg;simp only[Query.withOf,Query.mk.injEq]at G;obtain⟨_,rfl,rfl,rfl,_,rfl,rfl,rfl,_⟩:=G
 obtain⟨D,F,rfl⟩:∃D F,ks=[D,F]:=by
  match ks,U with
  |[D,F],_=>grind
  |[],h=>simp at h
  |[_],h=>simp at h
  |_::_::_::_,h=>grind
 obtain⟨b0,o0,H,e0,r0,i0,l0,j0⟩:=t.arg (j:=0) rfl;obtain⟨b1,o1,I,e1,r1,i1,l1,j1⟩:=t.arg (j:=1) rfl;have a8:=i0.slen;have a9:=i1.slen;have bad:∀g,Sub m g->¬Good (uS D F) on->jF h K (.val (.bool false)) g h:=λg T t=>bad g T λf=>t f.2.2.2.2.2.2.2;refine⟨b0,o0,e0,aC,aC,H,.imm aC,b1,o1,e1,aC,aC,I,.imm aC,λb m1 hb u c m2 hc A=>?_⟩;have B:b≠c:=λe=>by have:=hc.m_;rw[<-e,u.at_]at this;cases this
 have J:Sub m m1:=(Sub.refl m).upd hb.m_ u.other;have L:m c=none:=J.free hc.m_
 refine⟨λ⟨i,s',t',b',c',g⟩=>s'=H/\t'=I/\b'=b/\c'=c/\i<=on.length/\Sub m g/\Arr g b ((on.take i).map Prod.fst)/\Arr g c ((on.take i).map Prod.snd)/\fC (uS D F) on i,λ⟨i,_,_,_,_,_⟩=>on.length-i,
  ⟨(0,H,I,b,c,m2),⟨rfl,rfl,rfl,rfl,aC,J.upd L A.other,(Arr.zero u.at_).other B A.other,.zero A.at_,.zero⟩,MT⟩,?_⟩
 rintro⟨i,H,I,b,c,g⟩ ⟨rfl,rfl,rfl,rfl,hi,o,hA,hB,hg⟩;dsimp only;refine aD (λM=>?_) (λb4=>.sub o (hK true ⟨λ_=>⟨rfl,rfl,rfl,rfl,rfl,rfl,rfl,hg.all aC⟩,λ_=>rfl⟩));obtain⟨p,O⟩:=dO ol M;obtain⟨bp,V,ep,rp⟩:=x.on_.at O;have d:¬uS D F (on.take i) p->jF h K (.val (.bool false)) g h:=λt=>bad g o (Good.not O t);refine⟨bp,V,ep,aC,M,p,.imm rp,aC,aC,aC,aC,aD (λd1=>d λf=>?_) (λd1=>aD (λd2=>d λf=>?_) (λd2=>aD (λd3=>d λf=>?_) (λd3=>aD (λd4=>d λf=>?_) (λd4=>?_))))⟩
 .have:=eV.1 f.1;omega
 .have:=eV.1 f.1;omega
 .have:=eV.1 f.2.1;omega
 .have:=eV.1 f.2.1;omega
 obtain⟨b2,o2,e2,r2⟩:=i0.inb (n:=p.1) aC aC;obtain⟨b3,o3,e3,r3⟩:=i1.inb (n:=p.2) aC aC;obtain⟨y,hy,W⟩:=hA.look (h:=h) (n:=p.1) aC aC;obtain⟨z,hz,X⟩:=hB.look (h:=h) (n:=p.2) aC aC;obtain⟨cs,E,Y,Z,a'⟩:=hA.store (n:=p.1) aC aC;refine⟨b2,o2,e2,aC,aC,_,.imm r2,b3,o3,e3,aC,aC,_,.imm r3,aB (λd5=>d λf=>?_) (λd5=>⟨aC,aC,y,hy,aB (λd6=>d λf=>?_) (λd6=>⟨aC,aC,z,hz,aB (λd7=>d λf=>?_) (λd7=>⟨aC,aC,cs,E,Y,Z,λm3 C=>?_⟩)⟩)⟩)⟩
 .rw[f.2.2.1]at d5;simp at d5
 .obtain⟨q,S,e⟩:=mem_map.1 (W.1 d6);exact(f.2.2.2 q S).1 e
 .obtain⟨q,S,e⟩:=mem_map.1 (X.1 d7);exact(f.2.2.2 q S).2 e
 have a2:=a' m3 C;have a3:=hB.other B.symm C.other;obtain⟨a4,E2,P,Q,a6⟩:=a3.store (n:=p.2) aC aC;refine⟨aC,aC,a4,E2,P,Q,λm4 R=>⟨(i+1,H,I,b,c,m4),⟨rfl,rfl,rfl,rfl,aC,(o.upd hb.m_ C.other).upd L R.other,?_,?_,hg.succ O ⟨eV.2 ⟨aC,aC⟩,eV.2 ⟨aC,aC⟩,cg,λq S=>⟨λe=>?_,λe=>?_⟩⟩⟩,aC,MT⟩⟩
 .rw[iN O];exact a2.other B R.other
 .rw[iN O];grind
 .grind
 .grind
def fin(r:dl×Int):dl×Int:=if r.2=0 then nI r.1 else eN r.2
def Query.op:Query->Int
 |.mk op .. =>op
noncomputable def Bt(s:lL)(ps:dl)(q:Query)(ks:List dl):dl×Int:=if(ks.length:Int)=arity q.op then eU s ps q (ks.getD 0 []) (ks.getD 1 [])else eN 100
def Bu(P:Int->Prop):Vc.Spec:=λc m h K=>∃n s ps q ks,c=[aN n]/\Bl h s ps q ks n/\nM s/\P q.op/\∀r,fin r=Bt s ps q ks->KR K m h r
def cxQ(h:PH)(c:Sl)(ks:List dl):Prop:=bI h 1 eS (λk d=>Ints h d k) c ks
def Lt:Vc.Spec:=λc m h K=>∃d ks,c=[cS d]/\cxQ h d ks/\ks.length<=10/\(∀k∈ks,k.length<=12)/\∀e h',PH.le h h'->Ints h' e ks.flatten->K (cS e) m h'
noncomputable def blZ(n:NV)(m:MH)(h:PH):Ctx:=
 cT [(265,DE)] [(5,{A:=Nat×dl,st:=λ⟨i,l⟩=>bO 57 58 [(1,.at (.ptr 1 0)),(4,.at (.lst 25)),(28,sv n.q.columns),(29,iv n.q.columns.len),(30,iv i)] [(1,.cells 218 (n.enc.map .val)),(25,.lst 3 1 (l.map eI))] m h})] [] [] false
noncomputable abbrev On:dj:=Fu sC sC sC sC cF
attribute [push_cast] On
def It(n:NV)(m:MH)(h:PH)(K:dk):Prop:=
  CU (cV (gZ n (hP n (gY n))) (fO 0 (gV (ES (fE n.q.table) On)))) (λc k u=>cV (gZ c (hP c (gY c))) (fO k (hX u))) h (λk q d u r=>eT (eZ r↔C3 d k q u) (!r) (K (CV.tup (bD iO 100)) m h) (aW n.q.table 0 (K (CV.tup (bD iO 100)) m h) (eK n.q.table (gE n.s) (K (CV.tup (bD iO 100)) m h) (C1 (bD (gV (cD n.s)) n.q.table) h (λs e=>hJ K s m e)))))
def Is(n:NV)(m:MH)(h:PH)(K:dk):Prop:=
  CU (cV (gZ n (hP n (gY n))) (fO 1 (gV (bC cF cF (bC (fE n.q.where_.op) (fE n.q.where_.cmp) (bC (qI (nJ n.q)) (qJ (nJ n.q)) (bC (fE (kU (nJ n.q))) (lY (nJ n.q)) (bC (kJ (nJ n.q)) (qI (fX n.q)) (bC (qJ (fX n.q)) (j8 (fX n.q)) (bC (lY (fX n.q)) (kJ (fX n.q)) (bC (Ex n.q) sC (bC sC sC (bC sC cF lV))))))))))))) (λd k u=>cV (gZ d (hP d (gY d))) (fO k (hX u))) h (λk q t u r=>eT (eZ r↔C3 t k q u) (!r) (K (CV.tup (bD iO 100)) m h) (aJ (λb o=>aI (aK n.args.a b o) ((0:Int)<=0) (0<aF n.args) (∃(y:Sl),aR m h b (o+0) (aM y)/\EH (cA y (fP n.params (pZ n.q.where_))) h (λc p e=>cK (fH c p e) 0 (K (CV.tup (bD iO (fH c p e))) m h) (aJ
 (λf g=>aI (aK n.args.a f g) ((0:Int)<=0) (0<aF n.args) (∃(j:Sl),aR m h f (g+0) (aM j)/\hJ K j m h))))))))
noncomputable abbrev Ak(a:NV):Sl:=a.q.columns
abbrev Oc(a:(Nat×dl->Prop)->(Nat×dl)->Prop)(b:(Nat×dl->Prop)->(Nat×dl->Nat)->(Nat×dl)->Prop):Prop:=∃(x:Nat×dl->Prop)(d:Nat×dl->Nat),(∃(c:Nat×dl),a x c)/\∀(c:Nat×dl),b x d c
attribute [push_cast] Ak Oc
def Ir(n:NV)(m:MH)(h:PH)(K:dk):Prop:=
  CU (cV (gZ n (hP n (gY n))) (fO 1 (gV (ES cF (Fu (Fo n.q) sC sC sC cF))))) (λd k u=>cV (gZ d (hP d (gY d))) (fO k (hX u))) h (λk q E u r=>(eZ r↔C3 E k q u)->cO (!r) (K (CV.tup (bD iO 100)) m h) (aF n.q.columns==0) (K (CV.tup (bD iO 100)) m h) (aA (bY 0) (bY (aF n.q.columns)) (aA (sK (Ak n) 8) (qU (aF (Ak n))) (Oc (λI x=>aA (I x) dW (aA (eL 25) (aH (Ak n)) (aA (aY (Ak n)) (aZ x.1) (aA (Et n) (xP x.2) (bG m m h h))))) (λI f x=>I x->aW (↑x.1:Int) (aF (Ak n)) (aJ (λb o=>aI (aK (Ak n).a b o) (0<=(↑x.1:Int)) ((↑x.1:Int)<aF (Ak n)) (∃(y:Int),aR m h b (bE o x.1 1) (bQ y)/\aW y 0 (K (CV.tup (bD iO 100)) m h) (aJ
 (λg j=>aI (aK n.args.a g j) ((0:Int)<=0) (0<aF n.args) (∃(t:Sl),aR m h g (j+0) (aM t)/\eK y (aF t) (K (CV.tup (bD iO 100)) m h) (aJ (λz A=>aI (aK n.args.a z A) ((0:Int)<=0) (0<aF n.args) (∃(e:Sl),aR m h z (A+0) (aM e)/\aJ (λB C=>aI (aK e.a B C) (0<=y) (y<aF e) (∃(D:Int),nQ (aR m h B (cC C y 1) (bQ D)) (dT x.2) 8 (∃(c:Nat×dl),aA (I c) (f c<f x) (aA dW (eL 25) (aA (aH (Ak n)) (aY (Ak n)) (aA (eR (bF ((↑x.1:Int)+1))=bL c.1) (Et n) (bS (gU (eG (dT x.2) (bQ D)) c.2) m m h h)))))))))))))))) (bU h 1 (dT x.2) (λs F=>hJ K s m F)))))))
def Iq(n:NV)(m:MH)(h:PH)(K:dk):Prop:=
  ∃(c:NV),Er (λs p q k=>sX (gZ n (hP n (gY n))) (gZ c (hP c (gY c))) (Bl h s p q k c) (∀(r:Bool),eT (eZ r↔NX k q) (!r) (K (CV.tup (bD iO 100)) m h) (aJ (λb o=>aI (aK n.args.a b o) ((0:Int)<=0) (0<aF n.args) (∃(y:Sl),aR m h b (o+0) (aM y)/\aJ (λe f=>aI (aK n.args.a e f) ((0:Int)<=1) (1<aF n.args) (∃(g:Sl),aI (aR m h e (f+1) (aM g)) (bZ h b (o+0) (aM y)) (bZ h e (f+1) (aM g)) (bU h 1 (aM y::gL (aM g)) (λA t=>∃(u:Sl)(d:List dl),aA (eY A=eY u) (cxQ t u d) (aA (d.length<=10) (∀(x:dl),List.Mem x d->x.length<=12) (fT (λz j=>dN t j (Ints j z d.flatten) (hJ K z m j)))))))))))))
def Ip(n:NV)(m:MH)(h:PH)(K:dk):Prop:=
  ∃(c:NV),Er (λs p q k=>sX (gZ n (hP n (gY n))) (gZ c (hP c (gY c))) (Bl h s p q k c) (∀(r:Bool),eT (eZ r↔NX k q) (!r) (K (CV.tup (bD iO 100)) m h) (aJ (λb o=>aI (aK n.args.a b o) ((0:Int)<=0) (0<aF n.args) (∃(y:Sl),aR m h b (o+0) (aM y)/\hJ K y m h)))))
def Mg(n:NV)(m:MH)(h:PH)(K:dk):Prop:=
  CU (cV (gZ n (hP n (gY n))) (fO 2 (gV zV))) (λc k u=>cV (gZ c (hP c (gY c))) (fO k (hX u))) h (λk q z u r=>eT (eZ r↔C3 z k q u) (!r) (K (CV.tup (bD iO 100)) m h) (aJ (λb o=>aI (aK n.args.a b o) ((0:Int)<=0) (0<aF n.args) (∃(y:Sl),aR m h b (o+0) (aM y)/\aJ (λd e=>aI (aK n.args.a d e) ((0:Int)<=1) (1<aF n.args) (∃(f:Sl),aR m h d (e+1) (aM f)/\vS y f h (λa A g=>eT (eZ g↔a=A) (!g) (K (CV.tup (bD iO 100)) m h) (aJ (λj t=>aI (aK n.args.a j t) ((0:Int)<=0) (0<aF n.args) (∃(x:Sl),aR m h j (t+0) (aM x)/\hJ K x m h))))))))))
abbrev Pt(a:dl->dr->Prop):Prop:=∃(x:dl)(c:dr),a x c
attribute [push_cast] Pt
def Io(n:NV)(m:MH)(h:PH)(K:dk):Prop:=
  ∃(e:NV),Er (λs p q k=>sX (gZ n (hP n (gY n))) (gZ e (hP e (gY e))) (Bl h s p q k e) (CU (cV (gZ n (hP n (gY n))) (fO 1 (gV (ES cF (Fu sC sC (iI e.q.group) (iI e.q.order) (fE e.q.limit)))))) (λd f u=>cV (gZ d (hP d (gY d))) (fO f (hX u))) h (λf B C u r=>eT (eZ r↔C3 C f B u) (!r) (K (CV.tup (bD iO 100)) m h) (∃(d:NV),Er (λD E j x=>∃(a:dl),aI (gK (gZ n (hP n (gY n)))=gK (gZ d (hP d (gY d)))) (Bl h D E j x d) (x[0]? =Option.some a) (∀(z:Bool),eT (eZ z↔(∃(o t:Int)(w:Pred)(c:dl)(F:dq),Pt (λg A=>∃(l:Int)(G:ds),j=Query.mk o t w c F g A l G/\rF a g A l))) (!z) (K (CV.tup (bD
 iO 100)) m h) (aJ (λb o=>aI (aK n.args.a b o) ((0:Int)<=0) (0<aF n.args) (∃(y:Sl),aR m h b (o+0) (aM y)/\hJ K y m h)))))))))
def Im(n:NV)(m:MH)(h:PH)(K:dk):Prop:=
  ∃(e:NV),Er (λs p q k=>sX (gZ n (hP n (gY n))) (gZ e (hP e (gY e))) (Bl h s p q k e) (CU (cV (gZ n (hP n (gY n))) (fO 2 (gV (ES cF (Fu sC sC (iI e.q.group) (iI e.q.order) (fE e.q.limit)))))) (λd A u=>cV (gZ d (hP d (gY d))) (fO A (hX u))) h (λA J L u r=>eT (eZ r↔C3 L A J u) (!r) (K (CV.tup (bD iO 100)) m h) (aJ (λb o=>aI (aK n.args.a b o) ((0:Int)<=0) (0<aF n.args) (∃(y:Sl),aR m h b (o+0) (aM y)/\aJ (λf j=>aI (aK n.args.a f j) ((0:Int)<=1) (1<aF n.args) (∃(x:Sl),aR m h f (j+1) (aM x)/\vS y x h (λa M B=>eT (eZ B↔a=M) (!B) (aA (bZ h b (o+0) (aM y)) (bZ h f (j+1) (aM x)) (K (CV.tup (bD iO 100)) m h))
 (aA (bZ h b (o+0) (aM y)) (bZ h f (j+1) (aM x)) (∃(d:NV),Er (λO P C D=>∃(E:dl),aI (gK (gZ n (hP n (gY n)))=gK (gZ d (hP d (gY d)))) (Bl h O P C D d) (D[0]? =Option.some E) (∀(F:Bool),eT (eZ F↔(∃(z t:Int)(w:Pred)(c:dl)(Q:dq),Pt (λg G=>∃(l:Int)(R:ds),C=Query.mk z t w c Q g G l R/\rF E g G l))) (!F) (K (CV.tup (bD iO 100)) m h) (aJ (λH z=>aI (aK n.args.a H z) ((0:Int)<=0) (0<aF n.args) (∃(I:Sl),aR m h H (z+0) (aM I)/\hJ K I m h))))))))))))))))
theorem UH{e:Int}(h:e≠0):fin (eN e)=eN e:=by unfold fin;rw[if_neg (by simpa[eN]using h)];rfl
theorem aqX(l:dl):fin (l,0)=nI l:=by unfold fin;grind
structure Tst(K:dk)(m:MH)(h:PH)(full:dl×Int):Prop where
 all:∀r,fin r=full->KR K m h r
theorem Tst.err{f:dl×Int}{e:Int}(x:Tst K m h f)(d:f=eN e)(g:e≠0)(c:PH.le h h'):K (.tup [.val (.slice none 0 0),.val (.int .i64 e)]) m h':=
 (x.all (eN e) (by rw[d,UH g])).err c rfl
theorem Tst.ok{f:dl×Int}{sl:Sl}(x:Tst K m h f)(d:f=nI l)(c:PH.le h h')(e:Ints h' sl l):K (.tup [.val (.slice sl.a sl.len sl.cap),.val (.int .i64 0)]) m h':=
 x.all (l,0) (by rw[d,aqX]) sl h' c e
theorem yT(h:¬((ks.length:Int)=arity q.op/\dU q)):Bt s ps q ks=eN 100:=by
 unfold Bt;by_cases c:(ks.length:Int)=arity q.op
 .rw[if_pos c];unfold eU
  grind
 grind
theorem rO{s:lL}{ps:dl}{op ta:Int}{w:Pred}{co:dl}{on:dq}{gr:dl}{od:dr}{li:Int}{args:ds}{ks:List dl}(c:(ks.length:Int)=arity op)(d:dU (.mk op ta w co on gr od li args))(e:0<=arity op):
 Bt s ps (.mk op ta w co on gr od li args) ks=eU s ps (.mk op ta w co on gr od li args) (ks.getD 0 []) (ks.getD 1 [])/\¬(arity op<0\/¬dU (.mk op ta w co on gr od li args)):=by
 unfold Bt;rw[if_pos (show(ks.length:Int)=arity (Query.op (.mk op ta w co on gr od li args))from c)]
 grind
section
variable{n:NV}{s:lL}{ps:dl}{ta:Int}{w:Pred}{co:dl}{on:dq}{gr:dl}{od:dr}{li:Int}{args:ds}{ks:List dl}{m:MH}{h:PH}{K:dk}
theorem Yk(c:(ks.length:Int)=1):∃a,ks=[a]:=by
 match ks,c with
 |[a],_=>grind
 |[],h=>simp at h
 |_::_::_,h=>grind
theorem Ua(c:(ks.length:Int)=2):∃a b,ks=[a,b]:=by
 match ks,c with
 |[a,b],_=>grind
 |[],h=>simp at h
 |[_],h=>simp at h
 |_::_::_::_,h=>grind
theorem b8Q(f:Bl h s ps (.mk 1 ta w co on gr od li args) ks n)(u:nM s)(c:Tst K m h (Bt s ps (.mk 1 ta w co on gr od li args) ks)):It n m h K:=by
 dsimp only[It,push_cast];have x:=f.q_.parts;have j:=x.table_;have y:=f.s_.tables.slen;refine⟨n,0,⟨0,n.q.table,⟨0,0,dG,dG,⟨none,0,0⟩⟩,⟨none,0,0⟩,⟨none,0,0⟩,⟨none,0,0⟩,⟨none,0,0⟩,0,⟨none,0,0⟩⟩,s,ps,_,ks,.mk 0 ta gM [] [] [] [] 0 [],rfl,f,nS.rep ⟨rfl,j,Ef h,⟨.nil _ _,bx⟩,⟨.nil _ _,bx⟩,⟨.nil _ _,bx⟩,⟨.nil _ _,bx⟩,rfl,.nil _ _ _ _⟩,λr o=>aB (λz=>c.err (yT λe=>?_) aC (.refl _)) (λz=>?_)⟩
 .have:r=true:=o.2 ⟨e.1,by have:=e.2;simp[dU]at this;obtain⟨rfl,rfl,rfl,rfl,rfl,rfl⟩:=this;rfl⟩
  grind
 obtain⟨A,d⟩:=o.1 cg;simp only[Query.withOf,Query.mk.injEq]at d;obtain⟨_,_,rfl,rfl,rfl,rfl,rfl,rfl,_⟩:=d;obtain⟨B,C⟩:=rO (s:=s) (ps:=ps) (op:=1) (ta:=ta) (w:=gM) (co:=[]) (on:=[]) (gr:=[]) (od:=[]) (li:=0) (args:=args) (ks:=ks) A (by simp[dU]) bz;rw[B]at c;unfold eU at c;rw[if_neg C]at c;dsimp only at c;rw[if_pos rfl]at c;refine aD (λD=>c.err (if_neg aC) aC (.refl _)) (λD=>aD (λE=>c.err (if_neg aC) aC (.refl _)) (λE=>⟨n.s,s,n.q.table,rfl,f.s_,u,λy h' g t=>?_⟩));rw[j]at t;exact c.ok (if_pos aC) g t
theorem b7J(f:Bl h s ps (.mk 2 ta w co on gr od li args) ks n)(c:Tst K m h (Bt s ps (.mk 2 ta w co on gr od li args) ks)):Is n m h K:=by
 dsimp only[Is,push_cast];have x:=f.q_.parts;refine⟨n,1,⟨0,0,n.q.where_,⟨none,0,0⟩,⟨none,0,0⟩,⟨none,0,0⟩,⟨none,0,0⟩,0,⟨none,0,0⟩⟩,s,ps,_,ks,.mk 0 0 w [] [] [] [] 0 [],rfl,f,nS.rep ⟨rfl,rfl,x.where_,⟨.nil _ _,bx⟩,⟨.nil _ _,bx⟩,⟨.nil _ _,bx⟩,⟨.nil _ _,bx⟩,rfl,.nil _ _ _ _⟩,λr o=>aB (λB=>c.err (yT λe=>?_) aC (.refl _)) (λB=>?_)⟩
 .have:r=true:=o.2 ⟨e.1,by have:=e.2;simp[dU]at this;obtain⟨rfl,rfl,rfl,rfl,rfl,rfl⟩:=this;rfl⟩
  grind
 obtain⟨t,d⟩:=o.1 cg;simp only[Query.withOf,Query.mk.injEq]at d;obtain⟨_,rfl,_,rfl,rfl,rfl,rfl,rfl,_⟩:=d;obtain⟨C,D⟩:=rO (s:=s) (ps:=ps) (op:=2) (ta:=0) (w:=w) (co:=[]) (on:=[]) (gr:=[]) (od:=[]) (li:=0) (args:=args) (ks:=ks) t (by simp[dU]) bz;rw[C]at c;unfold eU at c;rw[if_neg D]at c;dsimp only at c;rw[if_neg bz,if_pos rfl]at c;obtain⟨a,rfl⟩:=Yk t;obtain⟨u,y,g,z,F,A,G,H⟩:=f.arg (j:=0) rfl;simp only[getD_cons_zero]at c;refine⟨u,y,z,aC,aC,g,.imm aC,g,n.params,n.q.where_,a,ps,w,rfl,A,f.ps_,x.where_,aB (λE=>c.err (if_neg cg) cg (.refl _)) (λE=>⟨u,y,z,aC,aC,g,.imm aC,c.ok (if_pos cg) (.refl _) A⟩)⟩
theorem b7Q(t:Bl h s ps (.mk 5 ta w co on gr od li args) ks n)(d:Tst K m h (Bt s ps (.mk 5 ta w co on gr od li args) ks)):Ip n m h K:=by
 dsimp only[Ip,push_cast];refine⟨n,s,ps,_,ks,rfl,t,λr u=>aB (λx=>d.err ?_ aC (.refl _)) (λx=>?_)⟩
 .by_cases f:((ks.length:Int)=arity 5/\dU (.mk 5 ta w co on gr od li args))
  .obtain⟨g,o⟩:=rO (s:=s) (ps:=ps) f.1 f.2 bz;rw[g];unfold eU;rw[if_neg o];dsimp only;rw[if_neg bz,if_neg bz,if_neg bz,if_neg bz,if_pos rfl,if_neg];intro c;have e:=f.2;simp[dU]at e;have:r=true:=u.2 ⟨by have:=f.1;simp[arity]at this;omega,e.1,e.2.1,e.2.2.1,e.2.2.2.1,e.2.2.2.2.1,e.2.2.2.2.2,c⟩
   grind
  .exact yT f
 obtain⟨y,rfl,rfl,rfl,rfl,rfl,rfl,c⟩:=u.1 cg;obtain⟨g,o⟩:=rO (s:=s) (ps:=ps) (op:=5) (ta:=0) (w:=gM) (co:=[]) (on:=on) (gr:=[]) (od:=[]) (li:=0) (args:=args) (ks:=ks) (by rw[y];rfl) (by simp[dU]) bz;rw[g]at d;unfold eU at d;rw[if_neg o]at d;dsimp only at d;rw[if_neg bz,if_neg bz,if_neg bz,if_neg bz,if_pos rfl,if_pos c]at d;obtain⟨a,b,rfl⟩:=Ua (ks:=ks) aC;obtain⟨z,A,B,C,E,D,F,G⟩:=t.arg (j:=0) rfl;exact⟨z,A,C,aC,aC,B,.imm aC,d.ok rfl (.refl _) D⟩
theorem b7X(x:Bl h s ps (.mk 4 ta w co on gr od li args) ks n)(f:Tst K m h (Bt s ps (.mk 4 ta w co on gr od li args) ks)):Iq n m h K:=by
 dsimp only[Iq,push_cast];refine⟨n,s,ps,_,ks,rfl,x,λr C=>aB (λD=>f.err ?_ aC (.refl _)) (λD=>?_)⟩
 .by_cases o:((ks.length:Int)=arity 4/\dU (.mk 4 ta w co on gr od li args))
  .obtain⟨y,z⟩:=rO (s:=s) (ps:=ps) o.1 o.2 bz;rw[y];unfold eU;rw[if_neg z];dsimp only;rw[if_neg bz,if_neg bz,if_neg bz,if_pos rfl,if_neg];intro c;have e:=o.2;simp[dU]at e;have:r=true:=C.2 ⟨by have:=o.1;simp[arity]at this;omega,e.1,e.2.1,e.2.2.1,e.2.2.2.1,e.2.2.2.2.1,e.2.2.2.2.2,c⟩
   grind
  .exact yT o
 obtain⟨d,rfl,rfl,rfl,rfl,rfl,rfl,c⟩:=C.1 cg;obtain⟨y,z⟩:=rO (s:=s) (ps:=ps) (op:=4) (ta:=0) (w:=gM) (co:=[]) (on:=on) (gr:=[]) (od:=[]) (li:=0) (args:=args) (ks:=ks) (by rw[d];rfl) (by simp[dU]) bz;rw[y]at f;unfold eU at f;rw[if_neg z]at f;dsimp only at f;rw[if_neg bz,if_neg bz,if_neg bz,if_pos rfl,if_pos c]at f;obtain⟨a,b,rfl⟩:=Ua (ks:=ks) aC;obtain⟨E,F,A,G,R,H,S,T⟩:=x.arg (j:=0) rfl;obtain⟨I,J,B,L,U,M,V,W⟩:=x.arg (j:=1) rfl;refine⟨E,F,G,aC,aC,A,.imm aC,I,J,L,aC,aC,B,.imm aC,aC,aC,λO h' g t=>⟨O,[a,b],rfl,⟨⟨[A,B],t,rfl,λj k d=>?_⟩,bx⟩,bx,λk d=>x.len k d,λP e u Q=>f.ok (l:=a++b) bx (g.trans u) cg⟩⟩
 match j,d with
 |0,d=>simp at d;subst d;exact⟨A,rfl,H.mono g⟩
 |1,d=>simp at d;subst d;exact⟨B,rfl,M.mono g⟩
 |_+2,d=>simp at d
theorem b6Z{op:Int}(t:op=6\/op=7\/op=8)(o:Bl h s ps (.mk op ta w co on gr od li args) ks n)(d:Tst K m h (Bt s ps (.mk op ta w co on gr od li args) ks)):Mg n m h K:=by
 dsimp only[Mg,push_cast];have x:=o.q_.parts;have P:arity op=2:=by rcases t with rfl|rfl|rfl<;>rfl
 have c:op≠1/\op≠2/\op≠3/\op≠4/\op≠5/\op≠9/\op≠10:=by omega
 refine⟨n,2,⟨0,0,⟨0,0,dG,dG,⟨none,0,0⟩⟩,⟨none,0,0⟩,⟨none,0,0⟩,⟨none,0,0⟩,⟨none,0,0⟩,0,⟨none,0,0⟩⟩,s,ps,_,ks,.mk 0 0 gM [] [] [] [] 0 [],rfl,o,nS.rep ⟨rfl,rfl,Ef h,⟨.nil _ _,bx⟩,⟨.nil _ _,bx⟩,⟨.nil _ _,bx⟩,⟨.nil _ _,bx⟩,rfl,.nil _ _ _ _⟩,λr z=>aB (λG=>d.err (yT λe=>?_) aC (.refl _)) (λG=>?_)⟩
 .have A:(ks.length:Int)=arity op:=e.1;have:r=true:=z.2 ⟨aC,by have:=e.2;simp[dU,c]at this;obtain⟨rfl,rfl,rfl,rfl,rfl,rfl,rfl⟩:=this;rfl⟩
  grind
 obtain⟨H,f⟩:=z.1 cg;simp only[Query.withOf,Query.mk.injEq]at f;obtain⟨_,rfl,rfl,rfl,rfl,rfl,rfl,rfl,_⟩:=f;obtain⟨I,J⟩:=rO (s:=s) (ps:=ps) (op:=op) (ta:=0) (w:=gM) (co:=[]) (on:=[]) (gr:=[]) (od:=[]) (li:=0) (args:=args) (ks:=ks) aC (by simp[dU]) aC;rw[I]at d;unfold eU at d;rw[if_neg J]at d;dsimp only at d;rw[if_neg c.1,if_neg c.2.1,if_neg c.2.2.1,if_neg c.2.2.2.1,if_neg c.2.2.2.2.1,if_neg c.2.2.2.2.2.1,if_neg c.2.2.2.2.2.2]at d;obtain⟨a,b,rfl⟩:=Ua H;obtain⟨B,C,u,D,Q,E,R,S⟩:=o.arg (j:=0) rfl;obtain⟨L,M,F,A,T,O,U,V⟩:=o.arg (j:=1) rfl;refine⟨B,C,D,aC,aC,u,.imm aC,L,M,A,aC,aC,F,.imm aC,u,F,a,b,rfl,E,O,λW g=>aB (λy=>d.err (if_neg λe=>?_) aC (.refl _)) (λy=>⟨B,C,D,aC,aC,u,.imm aC,d.ok (if_pos (g.1 cg)) (.refl _) E⟩)⟩;have e:a=b:=e;rw[g.2 e]at y;cases y
theorem b7Z(z:Bl h s ps (.mk 3 ta w co on gr od li args) ks n)(d:Tst K m h (Bt s ps (.mk 3 ta w co on gr od li args) ks)):Ir n m h K:=by
 dsimp only[Ir,push_cast];have x:=z.q_.parts;have E:=x.columns_.slen;have F:=x.columns_.len;refine⟨n,1,⟨0,0,⟨0,0,dG,dG,⟨none,0,0⟩⟩,n.q.columns,⟨none,0,0⟩,⟨none,0,0⟩,⟨none,0,0⟩,0,⟨none,0,0⟩⟩,s,ps,_,ks,.mk 0 0 gM co [] [] [] 0 [],rfl,z,nS.rep ⟨rfl,rfl,Ef h,x.columns_,⟨.nil _ _,bx⟩,⟨.nil _ _,bx⟩,⟨.nil _ _,bx⟩,rfl,.nil _ _ _ _⟩,λr G=>aB (λQ=>d.err (yT λe=>?_) aC (.refl _)) (λQ=>?_)⟩
 .have:r=true:=G.2 ⟨e.1,by have:=e.2;simp[dU]at this;obtain⟨rfl,rfl,rfl,rfl,rfl,rfl⟩:=this;rfl⟩
  grind
 obtain⟨H,o⟩:=G.1 cg;simp only[Query.withOf,Query.mk.injEq]at o;obtain⟨_,rfl,rfl,_,rfl,rfl,rfl,rfl,_⟩:=o;obtain⟨R,S⟩:=rO (s:=s) (ps:=ps) (op:=3) (ta:=0) (w:=gM) (co:=co) (on:=[]) (gr:=[]) (od:=[]) (li:=0) (args:=args) (ks:=ks) H (by simp[dU]) bz;rw[R]at d;unfold eU at d;rw[if_neg S]at d;dsimp only at d;rw[if_neg bz,if_neg bz,if_pos rfl]at d;obtain⟨a,rfl⟩:=Yk H;obtain⟨I,J,L,M,r0,O,l0,j0⟩:=z.arg (j:=0) rfl;have T:=O.slen;simp only[getD_cons_zero]at d;refine aB (λP=>d.err (if_neg λe=>e.1 ((KS E).1 P)) aC (.refl _)) (λP=>?_);have A:co≠[]:=λe=>cg
 refine⟨aC,aC,aC,aC,λ⟨i,l⟩=>i<=co.length/\l=(co.take i).map (λc=>a.getD c.toNat 0)/\fC (λ_ c=>F0 a c=true) co i,λ⟨i,_⟩=>co.length-i,⟨(0,[]),⟨aC,bx,.zero⟩,MT⟩,?_⟩;rintro⟨i,_⟩ ⟨hi,rfl,t⟩;dsimp only;refine aD (λu=>?_) (λU sl h' B f=>?_)
 .obtain⟨c,y⟩:=dO E u;obtain⟨V,W,C,X⟩:=x.columns_.at' y;have g:¬F0 a c=true->K (.tup [.val (.slice none 0 0),.val (.int .i64 100)]) m h:=λY=>d.err (if_neg λe=>Y (e.2 i c y)) aC (.refl _);refine⟨V,W,C,aC,u,c,.imm X,aD (λZ=>g λe=>?_) (λZ=>⟨I,J,M,aC,aC,L,.imm aC,aD (λd3=>g λe=>?_) (λd3=>?_)⟩)⟩
  .have:=eV.1 e;omega
  .have:=eV.1 e;omega
  obtain⟨b2,o2,D,r2⟩:=O.inb (n:=c) aC aC;refine⟨I,J,M,aC,aC,L,.imm aC,b2,o2,D,aC,aC,_,.imm r2,?_,?_,(i+1,(co.take (i+1)).map (λc=>a.getD c.toNat 0)),⟨aC,rfl,t.succ y (eV.2 ⟨aC,aC⟩)⟩,aC,?_⟩
  .simp;omega
  .simp;omega
  .rw[iN y,cv];exact MT
 .rw[cu aC]at f;exact d.ok (if_pos ⟨A,t.all aC⟩) B ⟨f,ce⟩
theorem b6X(d:Bl h s ps (.mk 9 ta w co on gr od li args) ks n)(c:Tst K m h (Bt s ps (.mk 9 ta w co on gr od li args) ks)):Io n m h K:=by
 dsimp only[Io,push_cast];have x:=d.q_.parts;refine⟨n,s,ps,_,ks,rfl,d,n,1,⟨0,0,⟨0,0,dG,dG,⟨none,0,0⟩⟩,⟨none,0,0⟩,⟨none,0,0⟩,n.q.group,n.q.order,n.q.limit,⟨none,0,0⟩⟩,s,ps,_,ks,.mk 0 0 gM [] [] gr od li [],rfl,d,nS.rep ⟨rfl,rfl,Ef h,⟨.nil _ _,bx⟩,⟨.nil _ _,bx⟩,x.group_,x.order_,x.limit_,.nil _ _ _ _⟩,λr g=>aB (λt=>c.err (yT λe=>?_) aC (.refl _)) (λt=>?_)⟩
 .have:r=true:=g.2 ⟨e.1,by have:=e.2;simp[dU]at this;obtain⟨rfl,rfl,rfl,rfl⟩:=this;rfl⟩
  grind
 obtain⟨o,f⟩:=g.1 cg;simp only[Query.withOf,Query.mk.injEq]at f;obtain⟨_,rfl,rfl,rfl,rfl,_,_,_,_⟩:=f;obtain⟨u,y⟩:=rO (s:=s) (ps:=ps) (op:=9) (ta:=0) (w:=gM) (co:=[]) (on:=[]) (gr:=gr) (od:=od) (li:=li) (args:=args) (ks:=ks) o (by simp[dU]) bz;rw[u]at c;unfold eU at c;rw[if_neg y]at c;dsimp only at c;rw[if_neg bz,if_neg bz,if_neg bz,if_neg bz,if_neg bz,if_pos rfl]at c;obtain⟨a,rfl⟩:=Yk o;obtain⟨z,A,B,C,G,D,H,I⟩:=d.arg (j:=0) rfl;refine⟨n,s,ps,_,[a],a,rfl,d,rfl,λJ E=>aB (λF=>c.err (if_neg λe=>?_) aC (.refl _)) (λF=>⟨z,A,C,aC,aC,B,.imm aC,c.ok (if_pos ?_) (.refl _) D⟩)⟩
 .grind
 grind
theorem b6Q(d:Bl h s ps (.mk 10 ta w co on gr od li args) ks n)(c:Tst K m h (Bt s ps (.mk 10 ta w co on gr od li args) ks)):Im n m h K:=by
 dsimp only[Im,push_cast];have x:=d.q_.parts;refine⟨n,s,ps,_,ks,rfl,d,n,2,⟨0,0,⟨0,0,dG,dG,⟨none,0,0⟩⟩,⟨none,0,0⟩,⟨none,0,0⟩,n.q.group,n.q.order,n.q.limit,⟨none,0,0⟩⟩,s,ps,_,ks,.mk 0 0 gM [] [] gr od li [],rfl,d,nS.rep ⟨rfl,rfl,Ef h,⟨.nil _ _,bx⟩,⟨.nil _ _,bx⟩,x.group_,x.order_,x.limit_,.nil _ _ _ _⟩,λr t=>aB (λD=>c.err (yT λe=>?_) aC (.refl _)) (λD=>?_)⟩
 .have:r=true:=t.2 ⟨e.1,by have:=e.2;simp[dU]at this;obtain⟨rfl,rfl,rfl,rfl⟩:=this;rfl⟩
  grind
 obtain⟨u,f⟩:=t.1 cg;simp only[Query.withOf,Query.mk.injEq]at f;obtain⟨_,rfl,rfl,rfl,rfl,_,_,_,_⟩:=f;obtain⟨E,F⟩:=rO (s:=s) (ps:=ps) (op:=10) (ta:=0) (w:=gM) (co:=[]) (on:=[]) (gr:=gr) (od:=od) (li:=li) (args:=args) (ks:=ks) u (by simp[dU]) bz;rw[E]at c;unfold eU at c;rw[if_neg F]at c;dsimp only at c;rw[if_neg bz,if_neg bz,if_neg bz,if_neg bz,if_neg bz,if_neg bz,if_pos rfl]at c;obtain⟨a,b,rfl⟩:=Ua u;obtain⟨y,z,g,A,P,B,Q,R⟩:=d.arg (j:=0) rfl;obtain⟨G,H,C,I,S,J,T,U⟩:=d.arg (j:=1) rfl;refine⟨y,z,A,aC,aC,g,.imm aC,G,H,I,aC,aC,C,.imm aC,g,C,a,b,rfl,B,J,λV o=>aB (λL=>⟨aC,aC,c.err (if_neg λe=>?_) aC (.refl _)⟩) (λL=>⟨aC,aC,n,s,ps,_,[a,b],a,rfl,d,rfl,λW M=>aB (λO=>c.err (if_neg λe=>?_) aC (.refl _)) (λO=>⟨y,z,A,aC,aC,g,.imm aC,c.ok (if_pos ⟨o.1 cg,?_⟩) (.refl _) B⟩)⟩)⟩
 .grind
 .grind
 .grind
end
def fv(f:Nat):CV:=.val (.func (.func f) #[] #[])
def TW:Vc.Spec:=λc m h K=>∃op,c=[cI op]/\
 branch (op==1) (K (fv 225) m h) (branch (op==2) (K (fv 226) m h) (branch (op==3) (K (fv 227) m h) (branch (op==4) (K (fv 228) m h) (branch (op==5) (K (fv 229) m h) (branch (op==6) (K (fv 230) m h) (branch (op==7) (K (fv 230) m h) (branch (op==8) (K (fv 230) m h) (branch (op==9) (K (fv 231) m h) (branch (op==10) (K (fv 232) m h) (K (.val .nilFunc) m h))))))))))
noncomputable def bWQ(N:Nat)(sc:bX)(p:Sl)(v:QV)(m:MH):Ctx:=
 cT [(98,B8 N),(174,TW),(225,Bu (· =1)),(226,Bu (· =2)),(227,Bu (· =3)),(228,Bu (· =4)),(229,Bu (· =5)),(230,Bu (λop=>op=6\/op=7\/op=8)),(231,Bu (· =9)),(232,Bu (· =10))] [(3,{A:=Nat×dn×PH,st:=λ⟨i,c,h⟩=>bO 62 65 [(1,sv p),(3,.at (.ptr 3 0)),(5,.at (.ptr 5 0)),(8,.at (.ptr 8 0)),(21,sv v.args),(22,iv v.args.len),(23,iv i)] [(3,.cells 43 (sc.enc.map .val)),(5,.cells 38 (v.enc.map .val)),(8,.cells 218 ((sc.enc++eS p++v.enc).map .val++[.lst 41])),(41,.lst 33 1 (c.map eS))] m h})] [] [] false
noncomputable abbrev oB(a:Nat):Value:=Value.func (Fn.func a) Cm Cm
attribute [push_cast] oB
def Mm(op:Int)(m:MH)(h:PH)(K:dk):Prop:=
  mE m h (λb e=>gP m e b (bC Value.nilFunc Value.nilFunc (bC Value.nilFunc Value.nilFunc (bC Value.nilFunc Value.nilFunc (bC Value.nilFunc Value.nilFunc (bC Value.nilFunc Value.nilFunc (kH Value.nilFunc)))))) 273) (λb e=>kS (λc E=>aA (Gc e b (lF c E 0)) (11<=c.size) (∀(d:MH),gP e d b (bC Value.nilFunc (oB 225) (bC (oB 226) (oB 227) (bC (oB 228) (oB 229) (bC (oB 230) (oB 230) (bC (oB 230) (oB 231) (tA (oB 232) 11 c.toList)))))) E->aW op 0 (K (CV.val Value.nilFunc) d h) (eK op 11 (K (CV.val Value.nilFunc) d h) (aA (bY op) (op<11) (∃(y:Option Nat),aR d h b (cC 0 op 1) (kH (bCZ y))/\K (CV.val (bCZ y)) d h))))))
abbrev xS(a:Nat×dn×PH)(b:bX)(c:Sl)(d:QV)(e:Sl->dj)(g:NV->eb)(i:Query->Prop)(j:(dl×Int)->Sl->PH->Prop):Prop:=bU (gC a) 1 (p8 a) (λx y=>∃(z:NV),Er (λf A o B=>aA (gK (bC (fE b.version) (iI b.tables) (bC (iI c) (fE d.op) (bC (fE d.table) (fE d.where_.op) (bC (fE d.where_.cmp) (qI (nJ d)) (e x)))))=g z) (Bl y f A o B z) (aA (nM f) (i o) (∀(t:dl×Int),fin t=Bt f A o B->fT (λC u=>dN y u (Ints u C t.1) (j t C u))))))
noncomputable abbrev xY(a:QV)(b:dj):dj:=bC (qJ (nJ a)) (j8 (nJ a)) (bC (lY (nJ a)) (kJ (nJ a)) (bC (qI (fX a)) (qJ (fX a)) (bC (fE (kU (fX a))) (lY (fX a)) b)))
attribute [push_cast] xS xY
def Wq(N:Nat)(sc:bX)(p:Sl)(v:QV)(m:MH)(h:PH)(K:dk):Prop:=
  HP (λI x=>aA (I x) (aH p) (aA bJ dM (aA fF (aH v.args) (aA (uF v) (aZ x.1) (aA (bP sc) (dJ v) (aA (eQ (oQ 218 (cH (JR sc) (JQ sc) (cH (jR p) (fL v.op) (zX v::pQ v.where_ (cH (jR v.columns) (jR v.on) (cH (jR v.group) (jR v.order) (cH (fL v.limit) (jR v.args) (kM (At.lst 41)))))))))) (JU [] x) (bG m m h (gC x)))))))) (λI f x=>I x->aW (↑x.1:Int) (aF v.args) (aJ (λb o=>aI (aK v.args.a b o) (0<=(↑x.1:Int)) ((↑x.1:Int)<aF v.args) (∃(y:QV),aR m (gC x) b (bE o x.1 21) y.enc/\JZ sc p y (gC x) (λj s e q=>aA (dZ (gC x) q j) (sB q N) (fT (λg c=>dN (gC x) c (Ints c g (bM s e q).1) (cK (bM s e q).2 0 (K (CV.tup (nO iO (CV.val (fE (bM s e q).2)))) m c) (iY (p8 x) 24
 (∃(d:Nat×dn×PH),aA (I d) (f d<f x) (aA (aH p) bJ (aA dM fF (aA (aH v.args) (uF v) (aA (eR (bF ((↑x.1:Int)+1))=bL d.1) (bP sc) (aA (dJ v) (eQ (oQ 218 (cH (JR sc) (JQ sc) (cH (jR p) (fL v.op) (zX v::pQ v.where_ (cH (jR v.columns) (jR v.on) (cH (jR v.group) (jR v.order) (cH (fL v.limit) (jR v.args) (kM (At.lst 41)))))))))) (bS (JU (eG (p8 x) (aM g)) d) m m c (gC d)))))))))))))))) (pL v.op (λo=>cO (o==1) (xS x sc p v (λs=>xY v (Be (fX v) v v.on s)) (λn=>gK (gZ n (hP n (gY n)))) (λq=>q.op=1) (λr s c=>mY (r.2 !=0) (K (CV.tup (bD iO r.2)) m c) (aF s) 12 (K (CV.tup (bD iO 2)) m c) (hJ K s m c))) (o==2) (xS x sc p v (λs=>xY v (Be (fX v) v v.on s))
 (λn=>gK (gZ n (hP n (gY n)))) (λq=>q.op=2) (λr s c=>mY (r.2 !=0) (K (CV.tup (bD iO r.2)) m c) (aF s) 12 (K (CV.tup (bD iO 2)) m c) (hJ K s m c))) (cO (o==3) (xS x sc p v (λs=>xY v (Be (fX v) v v.on s)) (λn=>gK (gZ n (hP n (gY n)))) (λq=>q.op=3) (λr s c=>mY (r.2 !=0) (K (CV.tup (bD iO r.2)) m c) (aF s) 12 (K (CV.tup (bD iO 2)) m c) (hJ K s m c))) (o==4) (xS x sc p v (λs=>xY v (Be (fX v) v v.on s)) (λn=>gK (gZ n (hP n (gY n)))) (λq=>q.op=4) (λr s c=>mY (r.2 !=0) (K (CV.tup (bD iO r.2)) m c) (aF s) 12 (K (CV.tup (bD iO 2)) m c) (hJ K s m c))) (cO (o==5) (xS x sc p v (λs=>xY v (Be (fX v) v v.on s)) (λn=>gK (gZ n (hP n (gY
 n)))) (λq=>q.op=5) (λr s c=>mY (r.2 !=0) (K (CV.tup (bD iO r.2)) m c) (aF s) 12 (K (CV.tup (bD iO 2)) m c) (hJ K s m c))) (o==6) (xS x sc p v (λs=>xY v (Be (fX v) v v.on s)) (λn=>gK (gZ n (hP n (gY n)))) (λq=>q.op=6\/q.op=7\/q.op=8) (λr s c=>mY (r.2 !=0) (K (CV.tup (bD iO r.2)) m c) (aF s) 12 (K (CV.tup (bD iO 2)) m c) (hJ K s m c))) (cO (o==7) (xS x sc p v (λs=>xY v (Be (fX v) v v.on s)) (λn=>gK (gZ n (hP n (gY n)))) (λq=>q.op=6\/q.op=7\/q.op=8) (λr s c=>mY (r.2 !=0) (K (CV.tup (bD iO r.2)) m c) (aF s) 12 (K (CV.tup (bD iO 2)) m c) (hJ K s m c))) (o==8) (xS x sc p v (λs=>xY v (Be (fX v) v v.on s)) (λn=>gK (gZ n (hP n (gY n)))) (λq
 =>q.op=6\/q.op=7\/q.op=8) (λr s c=>mY (r.2 !=0) (K (CV.tup (bD iO r.2)) m c) (aF s) 12 (K (CV.tup (bD iO 2)) m c) (hJ K s m c))) (cO (o==9) (xS x sc p v (λs=>xY v (Be (fX v) v v.on s)) (λn=>gK (gZ n (hP n (gY n)))) (λq=>q.op=9) (λr s c=>mY (r.2 !=0) (K (CV.tup (bD iO r.2)) m c) (aF s) 12 (K (CV.tup (bD iO 2)) m c) (hJ K s m c))) (o==10) (xS x sc p v (λs=>xY v (Be (fX v) v v.on s)) (λn=>gK (gZ n (hP n (gY n)))) (λq=>q.op=10) (λr s c=>mY (r.2 !=0) (K (CV.tup (bD iO r.2)) m c) (aF s) 12 (K (CV.tup (bD iO 2)) m c) (hJ K s m c))) (K (CV.tup (bD iO 100)) m (gC x)))))))))
theorem ZF:di 174 TW:=by
 refine DS func174 ?_;rintro u m h K ⟨op,rfl,f⟩;refine⟨rI [] [] [] [] [273] [] false,rfl,aG,Mm op m h (jF h K),bu,?_⟩;show Mm op m h (jF h K);dsimp only[Mm,push_cast];intro b J t g;refine⟨_,_,⟨g.at_⟩,bz,λx j=>?_⟩;have c:Sub m x:=((Sub.refl m).upd t.m_ g.other).upd t.m_ j.other;have e:=j.at_
 have d:∀k,¬(1<=op/\op<=10)->op=k->K (.val .nilFunc) m h:=λk L _=>by
  have:(op==1)=false/\(op==2)=false/\(op==3)=false/\(op==4)=false/\(op==5)=false/\(op==6)=false/\(op==7)=false/\(op==8)=false/\(op==9)=false/\(op==10)=false:=by
   grind
  obtain⟨y,z,A,B,C,D,E,F,G,o⟩:=this;rw[y,z,A,B,C,D,E,F,G,o]at f;exact f
 refine aD (λH=>.sub c (d _ aC rfl)) (λH=>aD (λI=>.sub c (d _ aC rfl)) (λI=>⟨aC,aC,?_⟩));have:op=0\/op=1\/op=2\/op=3\/op=4\/op=5\/op=6\/op=7\/op=8\/op=9\/op=10:=by omega
 rcases this with rfl|rfl|rfl|rfl|rfl|rfl|rfl|rfl|rfl|rfl|rfl
 .exact⟨none,.lent _ _ _ e rfl,.sub c (d 0 aC rfl)⟩
 .exact⟨some 225,.lent _ _ _ e rfl,.sub c f⟩
 .exact⟨some 226,.lent _ _ _ e rfl,.sub c f⟩
 .exact⟨some 227,.lent _ _ _ e rfl,.sub c f⟩
 .exact⟨some 228,.lent _ _ _ e rfl,.sub c f⟩
 .exact⟨some 229,.lent _ _ _ e rfl,.sub c f⟩
 .exact⟨some 230,.lent _ _ _ e rfl,.sub c f⟩
 .exact⟨some 230,.lent _ _ _ e rfl,.sub c f⟩
 .exact⟨some 230,.lent _ _ _ e rfl,.sub c f⟩
 .exact⟨some 231,.lent _ _ _ e rfl,.sub c f⟩
 .exact⟨some 232,.lent _ _ _ e rfl,.sub c f⟩
theorem Y9:di 225 (Bu (· =1)):=by
 refine fU func225 ?_;rintro d m h K ⟨n,s,ps,q,ks,rfl,e,f,c,g⟩;obtain⟨op,ta,w,co,on,gr,od,li,args⟩:=q;refine⟨cT [(265,DE),(139,y8)] [] [] [] false,rfl,(aE wL (aE Jf aG)),It n m h K,bu,?_⟩;dsimp only[It,push_cast];cases (show op=1 from c);exact b8Q e f ⟨g⟩
theorem Y8:di 226 (Bu (· =2)):=by
 refine fU func226 ?_;rintro d m h K ⟨n,s,ps,q,ks,rfl,e,g,c,f⟩;obtain⟨op,ta,w,co,on,gr,od,li,args⟩:=q;refine⟨cT [(265,DE),(156,tH)] [] [] [] false,rfl,(aE wL (aE Je aG)),Is n m h K,bu,?_⟩;dsimp only[Is,push_cast];cases (show op=2 from c);exact b7J e ⟨f⟩
theorem Y7:di 227 (Bu (· =3)):=by
 refine fU func227 ?_;rintro d m h K ⟨n,s,ps,q,ks,rfl,e,g,c,f⟩;obtain⟨op,ta,w,co,on,gr,od,li,args⟩:=q;refine⟨blZ n m h,rfl,(aE wL aG),Ir n m h K,bu,?_⟩;dsimp only[Ir,push_cast];cases (show op=3 from c);exact b7Z e ⟨f⟩
theorem Y6(c:di 164 Lt):di 228 (Bu (· =4)):=by
 refine fU func228 ?_;rintro e m h K ⟨n,s,ps,q,ks,rfl,f,j,d,g⟩;obtain⟨op,ta,w,co,on,gr,od,li,args⟩:=q;refine⟨cT [(266,QX),(164,Lt)] [] [] [] false,rfl,(aE Qd (aE c aG)),Iq n m h K,bu,?_⟩;dsimp only[Iq,push_cast];cases (show op=4 from d);exact b7X f ⟨g⟩
theorem Y5:di 229 (Bu (· =5)):=by
 refine fU func229 ?_;rintro d m h K ⟨n,s,ps,q,ks,rfl,e,g,c,f⟩;obtain⟨op,ta,w,co,on,gr,od,li,args⟩:=q;refine⟨cT [(266,QX)] [] [] [] false,rfl,(aE Qd aG),Ip n m h K,bu,?_⟩;dsimp only[Ip,push_cast];cases (show op=5 from c);exact b7Q e ⟨f⟩
theorem Y4:di 230 (Bu (λop=>op=6\/op=7\/op=8)):=by
 refine fU func230 ?_;rintro d m h K ⟨n,s,ps,q,ks,rfl,e,g,c,f⟩;obtain⟨op,ta,w,co,on,gr,od,li,args⟩:=q;refine⟨cT [(265,DE),(162,A9)] [] [] [] false,rfl,(aE wL (aE FM aG)),Mg n m h K,bu,?_⟩;exact b6Z c e ⟨f⟩
theorem Y3:di 231 (Bu (· =9)):=by
 refine fU func231 ?_;rintro d m h K ⟨n,s,ps,q,ks,rfl,e,g,c,f⟩;obtain⟨op,ta,w,co,on,gr,od,li,args⟩:=q;refine⟨cT [(265,DE),(267,QS),(268,QT)] [] [] [] false,rfl,(aE wL (aE Qc (aE Qb aG))),Io n m h K,bu,?_⟩;dsimp only[Io,push_cast];cases (show op=9 from c);exact b6X e ⟨f⟩
theorem Y2:di 232 (Bu (· =10)):=by
 refine fU func232 ?_;rintro d m h K ⟨n,s,ps,q,ks,rfl,e,g,c,f⟩;obtain⟨op,ta,w,co,on,gr,od,li,args⟩:=q;refine⟨cT [(265,DE),(162,A9),(267,QS),(268,QT)] [] [] [] false,rfl,(aE wL (aE FM (aE Qc (aE Qb aG)))),Im n m h K,bu,?_⟩;dsimp only[Im,push_cast];cases (show op=10 from c);exact b6Q e ⟨f⟩
theorem aqZ(F:di 164 Lt):∀N,di 98 (B8 N)
 |0=>by
  refine eA (fn:=Tryz.f98) (c:=cM Tryz.f98) func98 rfl bz ?_;rintro S m h K ⟨sc,p,v,s,ps,q,rfl,_,_,_,_,hN,_⟩;omega
 |N+1=>by
  refine fU func98 ?_;rintro S m h K ⟨sc,p,v,s,ps,q,rfl,hs,C,hp,hq,hN,B⟩;refine⟨bWQ N sc p v m,rfl,(aE (aqZ F N) (aE ZF (aE Y9 (aE Y8 (aE Y7 (aE (Y6 F) (aE Y5 (aE Y4 (aE Y3 (aE Y2 aG)))))))))),Wq N sc p v m h K,bu,?_⟩;dsimp only[Wq,push_cast];have T:=@vF q;have U:=hq;obtain⟨op,ta,w,co,on,gr,od,li,args⟩:=q;have x:=hq.parts;have D:=x.op_;have hl:=x.args_.slen;have a':=x.args_.len;simp only[Query.args]at T;simp only[bM]at B;refine⟨λ⟨i,G,L⟩=>i<=args.length/\PH.le h L/\∃ks,Slices L G ks/\(args.take i).map (bM s ps)=ks.map (λk=>(k,0)),λ⟨i,_,_⟩=>args.length-i,⟨(0,[],h),⟨aC,.refl _,[],⟨rfl,λj s k V=>by simp at V⟩,bx⟩,MT⟩,?_⟩;rintro⟨i,G,L⟩ ⟨hi,y,ks,P,A⟩;have W:ks.length=i:=by have:=congrArg List.length A;grind
  have X:G.length=i:=by rw[P.1,W]
  dsimp only;refine aD (λH=>?_) (λa0=>?_)
  .obtain⟨Q,I⟩:=dO hl H;obtain⟨b1,o1,u,Y,r1,Z⟩:=(x.args_.mono y).at I;refine⟨b1,o1,Y,aC,H,u,.imm r1,sc,p,u,s,ps,Q,rfl,hs.mono y,C,hp.mono y,Z,?_,λg h' d E=>aB (λV=>?_) (λV=>?_)⟩
   .grind
   .have he:(bM s ps Q).2≠0:=cg
    rw[GD he A I rfl]at B;exact B.err (y.trans d) (if_neg he)
   .have he:(bM s ps Q).2=0:=cg
    refine⟨ce,ce,(i+1,G++[g],h'),⟨aC,y.trans d,ks++[(bM s ps Q).1],(P.mono d).snoc E,?_⟩,aC,?_⟩
    .rw[iN I,A,cv]
     grind
    .rw[cv];exact MT
  .rw[cu aC]at A;rw[wK A]at B;simp only[if_true]at B;have B:KR K m h (Bt s ps (.mk op ta w co on gr od li args) ks):=B
   have o:∀(g:Sl)(h':PH),PH.le L h'->cE h' g 1 (G.map eS)->Bl h' s ps (.mk op ta w co on gr od li args) ks ⟨sc,p,v,g⟩:=λg h' d f=>by
    refine⟨(hs.mono y).mono d,(hp.mono y).mono d,(U.mono y).mono d,⟨⟨G,f,P.1.symm,λj k hk=>?_⟩,aC⟩,λk hk=>?_⟩
    .have hj:j<G.length:=cg
     exact⟨G[j],cq hj,(P.2 j _ _ (cq hj) hk).mono d⟩
    .obtain⟨j,hj⟩:=mem_iff_getElem?.1 hk;have:=LY A j
     grind
   have t:∀(h':PH),PH.le L h'->∀r,fin r=Bt s ps (.mk op ta w co on gr od li args) ks->∀(g:Sl)(z:PH),PH.le h' z->Ints z g r.1->
    branch (r.2 !=0) (K (.tup [.val (.slice none 0 0),.val (.int .i64 r.2)]) m z) (branch (decide ((g.len:Int)>12)) (K (.tup [.val (.slice none 0 0),.val (.int .i64 2)]) m z) (K (.tup [.val (.slice g.a g.len g.cap),.val (.int .i64 0)]) m z)):=by
    intro h' d r hr g z M E;have J:PH.le h z:=(y.trans d).trans M;rw[<-hr]at B;have X:=E.slen;refine aB (λR=>?_) (λR=>aD (λd2=>?_) (λd2=>?_))
    .have R:r.2≠0:=cg
     exact B.err J (by unfold fin;grind)
    .have R:r.2=0:=cg
     exact B.big (l:=r.1) J (by unfold fin;grind) aC
    .have R:r.2=0:=cg
     exact B.ok (l:=r.1) J (by unfold fin;grind) aC E.row
   refine⟨v.op,rfl,?_⟩;rw[D];refine aB (λc1 g h' d f=>⟨⟨sc,p,v,g⟩,s,ps,_,ks,by rw[<-D],o g h' d f,C,beq_iff_eq.1 c1,t h' d⟩) (λc1=>?_);refine aB (λc2 g h' d f=>⟨⟨sc,p,v,g⟩,s,ps,_,ks,by rw[<-D],o g h' d f,C,beq_iff_eq.1 c2,t h' d⟩) (λc2=>?_);refine aB (λc3 g h' d f=>⟨⟨sc,p,v,g⟩,s,ps,_,ks,by rw[<-D],o g h' d f,C,beq_iff_eq.1 c3,t h' d⟩) (λc3=>?_);refine aB (λc4 g h' d f=>⟨⟨sc,p,v,g⟩,s,ps,_,ks,by rw[<-D],o g h' d f,C,beq_iff_eq.1 c4,t h' d⟩) (λc4=>?_);refine aB (λc5 g h' d f=>⟨⟨sc,p,v,g⟩,s,ps,_,ks,by rw[<-D],o g h' d f,C,beq_iff_eq.1 c5,t h' d⟩) (λc5=>?_);refine aB (λc6 g h' d f=>⟨⟨sc,p,v,g⟩,s,ps,_,ks,by rw[<-D],o g h' d f,C,.inl (beq_iff_eq.1 c6),t h' d⟩) (λc6=>?_);refine aB (λc7 g h' d f=>⟨⟨sc,p,v,g⟩,s,ps,_,ks,by rw[<-D],o g h' d f,C,.inr (.inl (beq_iff_eq.1 c7)),t h' d⟩) (λc7=>?_);refine aB (λc8 g h' d f=>⟨⟨sc,p,v,g⟩,s,ps,_,ks,by rw[<-D],o g h' d f,C,.inr (.inr (beq_iff_eq.1 c8)),t h' d⟩) (λc8=>?_);refine aB (λc9 g h' d f=>⟨⟨sc,p,v,g⟩,s,ps,_,ks,by rw[<-D],o g h' d f,C,beq_iff_eq.1 c9,t h' d⟩) (λc9=>?_);refine aB (λO g h' d f=>⟨⟨sc,p,v,g⟩,s,ps,_,ks,by rw[<-D],o g h' d f,C,beq_iff_eq.1 O,t h' d⟩) (λO=>B.err y ?_);refine yT λe=>?_;have:arity op= -1:=by simp only[arity];grind
   have:=e.1;simp only[Query.op]at this;omega
def iJ:PV:=⟨0,0,dG,dG,⟨none,0,0⟩⟩
theorem JG(l:dq):cZ 2 (l.map tL):=by
 constructor
 .intro e c;obtain⟨x,_,rfl⟩:=mem_map.1 c;rfl
 .intro e c u d;obtain⟨x,_,rfl⟩:=mem_map.1 c;simp[tL]at d;rcases d with rfl|rfl<;>rfl
theorem JF(l:dr):cZ 2 (l.map Ah):=by
 constructor
 .intro e c;obtain⟨x,_,rfl⟩:=mem_map.1 c;rfl
 .intro e c u d;obtain⟨x,_,rfl⟩:=mem_map.1 c;simp[Ah]at d;rcases d with rfl|rfl<;>rfl
theorem OY{n c:Nat}{α:Type}{enc:α->dj}{l:List α}(r:cE h ⟨none,n,c⟩ sz (l.map enc)):l=[]:=by
 rcases r.row with e|⟨b,o,e,_⟩
 .simpa using e
 .cases e
end Go.Ps
