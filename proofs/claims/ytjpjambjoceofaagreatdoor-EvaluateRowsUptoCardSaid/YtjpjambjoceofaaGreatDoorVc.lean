/- Own work. -/
import Derived.Test.YtjpjambjoceofaaGreatDoorVb
set_option linter.unusedVariables false
set_option linter.unusedSimpArgs false
namespace Go.Ps
open Go Go.Vc Go.Proofs List Tryz
variable{K:dk}{m:MH}{h:PH}{s:oL}{ps:dm}{cb:Nat}{sc:bW}{v:QV}{q:Query}{p:Pred}{l:dm}{i:Nat}{N:Nat}{m':MH}{h':PH}{co:dm}{gr:dm}{od:dr}{w:Pred}{ta:Int}{li:Int}{xs:List dj}{sz:Nat}{ks:List dm}{rs:dm}{r:Sl}{a:dm}{b:Nat}
theorem R8:Tryz.prog.underlying 9=some .string:=bu
theorem C9:KeyLaw Tryz.prog 9 (λv=>∃s,v= .string s):=by
 refine⟨⟨_,R8⟩,?_,?_,?_⟩
 .rintro _ w b ⟨s,rfl⟩
  have e:∀n:Nat,(Instr.checkKey b (n+1) 9 (.string s)).run Tryz.prog w= .ok () w:=λn=>by
   unfold Instr.checkKey;simp only[Sem.run_bind,run_underlying R8,Result.andThen];simp
  exact e 9999
 .rintro _ _ w ⟨s,rfl⟩ ⟨t,rfl⟩;refine⟨_,run_equalIn_string w 9999 9 s t R8,?_⟩;rw[beq_iff_eq];exact⟨λe=>by rw[xU e],λe=>cg⟩
 .rintro d _ _ r c ⟨s,rfl⟩ ⟨t,rfl⟩ h;rw[R8]at c;cases c;simp only[Instr.sameNow,cw]at h;subst h;rw[beq_toListBytes,beq_iff_eq];exact⟨λe=>by rw[xU e],λe=>cg⟩
def gC{α:Type}(T:List α->α->Prop)(l:List α)(i:Nat):Prop:=∀j x,j<i->l[j]? =some x->T (l.take j) x
def Good{α:Type}(T:List α->α->Prop)(l:List α):Prop:=∀(j:Nat) x,l[j]? =some x->T (l.take j) x
theorem gC.zero{α:Type}{T:List α->α->Prop}{l:List α}:gC T l 0:=λ_ _ h=>by omega
theorem gC.succ{α:Type}{T:List α->α->Prop}{l:List α}{x:α}(h:gC T l i)(hx:l[i]? =some x)(t:T (l.take i) x):gC T l (i+1):=by
 intro j y d c;by_cases e:j=i
 .grind
 .exact h j y aC c
theorem gC.all{α:Type}{T:List α->α->Prop}{l:List α}(h:gC T l i)(d:l.length<=i):Good T l:=λj x c=>h j x cg c
theorem Good.not{α:Type}{T:List α->α->Prop}{l:List α}{x:α}(hx:l[i]? =some x)(t:¬T (l.take i) x):¬Good T l:=λh=>t (h i x hx)
def V5(d:List pF)(c:pF):Prop:=oS c.name=true/\eM c.kind=true/\c.name∉d.map pF.name
def CZ(c:List zN)(t:zN):Prop:=oS t.name=true/\1<=t.key/\t.key<=t.columns.length/\t.name∉c.map zN.name/\Good V5 t.columns
def jS(s:oL)(t:Int):dm:=if t<0 then[]else match s.tables[t.toNat]? with|none=>[]|some t=>t.columns.map pF.kind
def tJ(s:oL)(t:Int):Bool:=decide (0<=t)&&decide (t<s.tables.length)
def aS(v:bW):CV:=.val (.agg ⟨v.enc⟩)
def rK(s:oL):Prop:=∀t∈s.tables,t.columns.length<=8
def bSX:Vc.Spec:=λc m h K=>∃v s t,c=[aS v,cI t]/\iP h s v/\K (cB (tJ s t)) m h
def zT:Vc.Spec:=λc m h K=>∃v s t,c=[aS v,cI t]/\iP h s v/\rK s/\∀d h',PH.le h h'->Ints h' d (jS s t)->K (cS d) m h'
noncomputable def SO(m:MH)(h:PH):Ctx:=
 dG [] [(5,{A:=Nat×Sl×dm,st:=λx=>bK 35 37 [(5,.at (.lst 32)),(22,sv x.2.1),(23,iv x.2.1.len),(24,iv x.1)] [(32,.lst 3 1 (x.2.2.map eI))] m h})] [] [] false
noncomputable def aWZ(m:MH)(h:PH):Ctx:=
 dG [(175,bSX)] [(5,{A:=Nat×Sl×dm,st:=λx=>bK 38 40 [(5,.at (.lst 19)),(25,sv x.2.1),(26,iv x.2.1.len),(27,iv x.1)] [(19,.lst 3 1 (x.2.2.map eI))] m h})] [] [] false
noncomputable abbrev iV(a:bW):Int:=aH a.tables
attribute [push_cast] iV
def Rb(v:bW)(t:Int)(m:MH)(h:PH)(K:dk):Prop:=
  fY t 0 (K (zU (decide (t<iV v))) m h) (K aX m h)
abbrev cK(a:Option Addr)(b:Int)(c:Sl)(d:Nat->Nat->Sl->Prop):Prop:=bT (λx e=>aA (bX a x e) (0<=b) (b<aH c/\∃(f:Sl),d x e f))
noncomputable abbrev lN(a:bW):Option Addr:=a.tables.a
noncomputable abbrev cE(a:Nat):Nat:=a+1
noncomputable abbrev aM(a:Sl):dj:=nT (fF a)
abbrev Ms(a:bW)(b:Int)(c:MH)(d:PH)(e:Nat->Nat)(g:Sl->(Nat×Sl×dm->Prop)->(Nat×Sl×dm)->Prop)(i:(Nat×Sl×dm->Prop)->(Nat×Sl×dm->Nat)->(Nat×Sl×dm)->Prop):Prop:=cK (lN a) b a.tables (λx o j=>aK c d x (cE (cF (e o) b 5)) (aM j)/\∃(n:Nat×Sl×dm->Prop)(t:Nat×Sl×dm->Nat),(∃(f:Nat×Sl×dm),g j n f)/\∀(f:Nat×Sl×dm),i n t f)
abbrev bF(a b:Sl):Prop:=YW a=YW b
noncomputable abbrev mT(a:Nat×Sl×dm):Sl:=a.2.1
abbrev dA(a b:Sl):Prop:=vK a.len=vK b.len
noncomputable abbrev cD(a b:Nat)(c:List dj):Option Go.Vc.Own:=Option.some (Own.lst a b c)
abbrev kN(a b:Nat)(c:Option Go.Vc.Own):Prop:=cD a b []=c
noncomputable abbrev J7(a:dm):Option Go.Vc.Own:=cD 3 1 (List.map eI a)
abbrev uA(a:dm):Prop:=kN 3 1 (J7 a)
abbrev gS(a:Nat):Prop:=a<=140737488355328
noncomputable abbrev jX(a:List dj)(b:Nat):Nat:=a.length+b
abbrev yE(a:List dj):Prop:=gS (jX a 1*8)
noncomputable abbrev fH(a:dm):List dj:=List.map eI a
abbrev dH(a:List dj):Prop:=a.length<140737488355328
abbrev Mr(a:Prop)(b:Nat×Sl×dm)(c:Int)(d:Nat->Nat->pF->Prop)(e:pF->(Nat×Sl×dm)->Prop)(g:Prop):Prop:=a->aR (↑b.1:Int) (aH (mT b)) (bT (λx f=>aA (bX (mT b).a x f) (c<=(↑b.1:Int)) ((↑b.1:Int)<aH (mT b)/\∃(j:pF),aA (d x f j) (yE (fH b.2.2)) (dH (fH b.2.2)/\∃(n:Nat×Sl×dm),e j n)))) g
noncomputable abbrev Cu(a:pF):Value:=Value.string a.name
noncomputable abbrev iF(a:dj):List dj:=[a]
noncomputable abbrev dY(a:List dj)(b:dj):List dj:=a++iF b
abbrev v8(a:List dj)(b:Int)(c:dm):Prop:=cD 3 1 (dY a (cO b))=J7 c
abbrev jT(a:Sl->PH->Prop):Prop:=∀(x:Sl)(c:PH),a x c
abbrev dD(a:Nat->Nat->Option Value)(b:PH)(c d:Prop):Prop:=aT (PH.le a b) c d
abbrev bU(a:PH)(b:Nat)(c:List dj)(d:Sl->PH->Prop):Prop:=jT (λx e=>dD a e (bN e x b c) (d x e))
abbrev oB(a:Nat->Nat->Option Value)(b:List dj)(c:dk)(d:MH):Prop:=bU a 1 b (λx e=>c (fD x) d e)
attribute [push_cast] cK lN cE aM Ms bF mT dA cD kN J7 uA gS jX yE fH dH Mr Cu iF dY v8 jT dD bU oB
def UW(v:bW)(t:Int)(m:MH)(h:PH)(K:dk):Prop:=
  aR t 0 (K nK m h) (fY t (iV v) (K nK m h) (Ms v t m h (λo=>o) (λy I x=>aA (I x) (eL 32) (aA (bF y (mT x)) (dA y (mT x)) (aA (aY x.1) (uA x.2.2) (aA (m=m) (h=h) True)))) (λI d x=>Mr (I x) x 0 (λb o y=>aK m h b (bC o x.1 2) (kR (Cu y) (fB y.kind))) (λy c=>aA (I c) (d c<d x) (aA (eL 32) (bF (mT x) (mT c)) (aA (dA (mT x) (mT c)) (aU (aW x.1 1) c.1) (aA (v8 (fH x.2.2) y.kind c.2.2) (m=m) (bH h h))))) (oB h (fH x.2.2) K m))))
abbrev wG(a:bW->oL->Prop):Prop:=∃(x:bW)(c:oL),a x c
abbrev Ae(a:bW->oL->Int->Prop):Prop:=wG (λx c=>∃(d:Int),a x c d)
noncomputable abbrev cV(a:bW):CV:=pN (kR (fB a.version) (fF a.tables))
abbrev sA(a:Int):Prop:=a<=281474976710656
attribute [push_cast] wG Ae cV sA
def Rs(v:bW)(t:Int)(m:MH)(h:PH)(K:dk):Prop:=
  Ae (λf s g=>aA (bA (cV v) t=bA (cV f) g) (iP h s f) (branch (!(tJ s g)) (K nK m h) (cK (lN v) t v.tables (λb o y=>aA (aK m h b (cE (cF o t 5)) (aM y)) (cC 0) (aA (cC (aH y)) (sA (aH y*8)) (sA (aH y)/\Ms v t m h (λe=>e) (λc I x=>aA (I x) (eL 19) (aA (bF c (mT x)) (dA c (mT x)) (aA (aY x.1) (uA x.2.2) (aA (m=m) (h=h) True)))) (λI j x=>Mr (I x) x 0 (λn e c=>aK m h n (bC e x.1 2) (kR (Cu c) (fB c.kind))) (λc d=>aA (I d) (j d<j x) (aA (eL 19) (bF (mT x) (mT d)) (aA (dA (mT x) (mT d)) (aU (aW x.1 1) d.1) (aA (v8 (fH x.2.2) c.kind d.2.2) (m=m) (bH h h))))) (oB h (fH x.2.2) K m))))))))
theorem bB.part{o:Nat}{l:dj}(r:bB h b o l)(k n:Nat):bB h b (o+k) ((l.drop k).take n):=
 ⟨λi v e=>by
  have:l[k+i]? =some v:=by
   grind
  have:=r.rd (k+i) v this
  grind⟩
theorem EK.at{s:Sl}{l:List pF}(r:EK h s l){x:pF}(c:l[i]? =some x):∃b o,s.a=some ⟨b,o,none⟩/\bB h b (o+i*2) (pF.enc x):=by
 obtain⟨b,o,v,e,k,rfl⟩:=aZ.at r c
 grind
theorem Fj{t:Int}(h:¬(0<=t/\t<s.tables.length)):jS s t=[]:=by
 unfold jS
 grind
theorem LB{t:Int}{x:zN}(h:0<=t)(hx:s.tables[t.toNat]? =some x):jS s t=x.columns.map pF.kind:=by
 unfold jS
 grind
theorem iP.table{v:bW}(c:iP h s v){t:Int}(f:0<=t)(g:t<(v.tables.len:Int)):∃x b o w,s.tables[t.toNat]? =some x/\v.tables.a=some ⟨b,o,none⟩/\bB h b (o+t.toNat*5) (cR.enc w)/\Le h x w:=by
 have j:=c.tables.slen;have d:s.tables[t.toNat]? =some (s.tables[t.toNat]'(by omega)):=cq _;obtain⟨b,o,w,e,r,k⟩:=c.tables.at d
 grind
theorem iI{α β:Type}{f:α->β}{l:List α}{x:α}(hx:l[i]? =some x):(l.take (i+1)).map f=(l.take i).map f++[f x]:=by
 rw[db,hx];simp
theorem Oz:di 175 bSX:=by
 refine gO func175 ?_;rintro e m h K ⟨v,s,t,rfl,f,d⟩;refine⟨dG [] [] [] [] false,rfl,aF,Rb v t m h K,bu,?_⟩;dsimp only[Rb,push_cast];have g:=f.tables.slen;refine aE (λc=>jH d ?_) (λc=>jH d ?_)
 .have c:0<=t:=c;simp only[tJ,g,decide_eq_true c,Bool.true_and]
 .have c:¬0<=t:=by omega
  simp only[tJ,decide_eq_false c,Bool.false_and]
theorem GC:di 46 zT:=by
 refine gO func46 ?_;rintro D m h K ⟨v,s,t,rfl,A,E,n⟩;refine⟨SO m h,rfl,aF,UW v t m h K,bu,?_⟩;dsimp only[UW,push_cast];have M:=A.tables.slen;have d:jS s t=[]->K (.val (.slice none 0 0)) m h:=λe=>n ⟨none,0,0⟩ h (.refl _) (by rw[e];exact⟨.nil _ _,bx⟩);refine aE (λF=>d (Fj aC)) (λF=>aE (λG=>d (Fj aC)) (λG=>?_));obtain⟨x,b,o,w,B,H,I,f⟩:=A.table (t:=t) aC aC;have J:=E x (cr B);have u:=aZ.slen f.columns;rw[LB aC B]at n;refine⟨b,o,H,aC,aC,w.columns,.imm (bB.part I 1 1),λ⟨i,y,l⟩=>y=w.columns/\i<=x.columns.length/\l=(x.columns.take i).map pF.kind,λ⟨i,_,_⟩=>x.columns.length-i,⟨(0,w.columns,[]),⟨rfl,bx,bx⟩,MT⟩,?_⟩;rintro⟨i,_,_⟩ ⟨rfl,O,rfl⟩;dsimp only;refine aE (λj=>?_) (λL y h' z g=>?_)
 .obtain⟨c,C⟩:=eN u j;obtain⟨b,o,e,r⟩:=EK.at f.columns C;refine⟨b,o,e,aC,j,c,.imm r,?_,?_,(i+1,w.columns,(x.columns.take (i+1)).map pF.kind),⟨rfl,aC,rfl⟩,aC,?_⟩
  .simp;omega
  .simp;omega
  .rw[iI C,cv];exact MT
 .rw[cu aC]at g;exact n y h' z ⟨g,ce⟩
theorem OD:di 139 zT:=by
 refine gO func139 ?_;rintro G m h K ⟨v,s,t,rfl,n,H,u⟩;refine⟨aWZ m h,rfl,aD Oz aF,Rs v t m h K,bu,?_⟩;dsimp only[Rs,push_cast];have L:=n.tables.slen;have g:jS s t=[]->K (.val (.slice none 0 0)) m h:=λe=>u ⟨none,0,0⟩ h (.refl _) (by rw[e];exact⟨.nil _ _,bx⟩);refine⟨v,s,t,rfl,n,aB (λy=>g (Fj ?_)) (λy=>?_)⟩
 .simp only[tJ,Bool.not_eq_true',Bool.and_eq_false_iff,decide_eq_false_iff_not]at y;omega
 simp only[tJ,Bool.not_eq_false',cz,dc]at y;obtain⟨x,b,o,w,C,D,E,d⟩:=n.table (t:=t) aC aC;have I:=H x (cr C);have z:=aZ.slen d.columns;rw[LB aC C]at u;refine⟨b,o,D,aC,aC,w.columns,.imm (bB.part E 1 1),aC,aC,aC,aC,b,o,D,aC,aC,w.columns,.imm (bB.part E 1 1),λ⟨i,A,l⟩=>A=w.columns/\i<=x.columns.length/\l=(x.columns.take i).map pF.kind,λ⟨i,_,_⟩=>x.columns.length-i,⟨(0,w.columns,[]),⟨rfl,bx,bx⟩,MT⟩,?_⟩;rintro⟨i,_,_⟩ ⟨rfl,M,rfl⟩;dsimp only;refine aE (λj=>?_) (λJ A h' B f=>?_)
 .obtain⟨c,F⟩:=eN z j;obtain⟨b,o,e,r⟩:=EK.at d.columns F;refine⟨b,o,e,aC,j,c,.imm r,?_,?_,(i+1,w.columns,(x.columns.take (i+1)).map pF.kind),⟨rfl,aC,rfl⟩,aC,?_⟩
  .simp;omega
  .simp;omega
  .rw[iI F,cv];exact MT
 .rw[cu aC]at f;exact u A h' B ⟨f,ce⟩
def Sub(m m':MH):Prop:=∀b o,m b=some o->m' b=some o
theorem Sub.refl(m:MH):Sub m m:=λ_ _ e=>e
theorem Sub.free(h:Sub m m')(c:m' b=none):m b=none:=by
 cases e:m b with
 |none=>rfl
 |some o=>rw[h b o e]at c;cases c
theorem Sub.upd{f:MH}(h:Sub m f)(j:m b=none)(g:∀c,c≠b->m' c=f c):Sub m m':=λc o e=>by
 have d:c≠b:=λn=>cg
 rw[g c d,h c o e]
def Lf(m:MH)(b:Nat)(c:fb):Prop:=Cp m b (c.map λn=>(.string n,.bool true))
theorem Lf.other{d:Nat}{e:fb}(h:Lf m b e)(f:b≠d)(o:∀c,c≠d->m' c=m c):Lf m' b e:=by
 obtain⟨g,j,t,n⟩:=h.ex;exact⟨g,j,cg,n⟩
def a8J:Vc.Spec:=λc m h K=>∃v s,c=[aS v]/\iP h s v/\∀r:Bool,(r=true↔Good CZ s.tables)->K (cB r) m h
def a4Q:Vc.Spec:=λc m h K=>∃v s t,∃i:Nat,c=[aS v,cI i]/\iP h s v/\s.tables[i]? =some t/\∀r:Bool,(r=true↔CZ (s.tables.take i) t)->K (cB r) m h
noncomputable def aVX(v:bW)(h:PH):Ctx:=
 dG [(217,ZQ)] [(3,{A:=Nat×Nat×MH,st:=λ⟨i,c,d⟩=>bK 79 80 [(3,vv (.map (some c))),(11,sv v.tables),(12,iv v.tables.len),(13,iv i)] [] d h}),
  (10,{A:=Nat×Nat×Nat×Nat×Sl×MH,st:=λ⟨i,k,c,f,e,d⟩=>bK 79 80 [(3,vv (.map (some c))),(6,vv (.map (some f))),(11,sv v.tables),(12,iv v.tables.len),(13,iv i),(45,sv e),(46,iv e.len),(47,iv k)] [] d h})] [] [] false
noncomputable def aWX(v:bW)(i:Nat)(m:MH)(h:PH):Ctx:=
 dG [(216,ZQ),(151,a9Z)] [(5,{A:=Nat×cR,st:=λ⟨k,w⟩=>bK 94 96 [(1,iv i),(2,.at (.ptr 2 0)),(5,.at (.ptr 5 0)),(6,iv k)] [(2,.cells 43 (v.enc.map .val)),(5,.cells 87 (w.enc.map .val))] m h}),
  (10,{A:=Nat×cR,st:=λ⟨k,w⟩=>bK 94 96 [(5,.at (.ptr 5 0)),(53,iv w.columns.len),(54,iv k)] [(5,.cells 87 (w.enc.map .val))] m h}),
  (15,{A:=Nat×Nat×cR,st:=λ⟨k,j,w⟩=>bK 94 96 [(5,.at (.ptr 5 0)),(7,iv k),(8,iv j),(53,iv w.columns.len),(54,iv k)] [(5,.cells 87 (w.enc.map .val))] m h})] [] [] false
abbrev DF(a:MH)(b:PH)(c:Nat)(d:Nat->MH->Prop):Prop:=∀(x:Nat)(e:MH),aT (dZ a b x) (gI a e x (Obj.map (Array.mk []) c)) (d x e)
abbrev Hq(a b:Nat):Prop:=SV.at (At.val (Value.map (Option.some a)))=SV.at (At.val (Value.map (Option.some b)))
abbrev tC(a:bW):Prop:=aG a.tables
abbrev jK(a:bW):Prop:=a7 a.tables
abbrev FV(a:Prop)(b:Nat)(c:bW)(d:Nat->Nat->cR->Prop)(e:Prop):Prop:=a->aR (↑b:Int) (aH c.tables) (bT (λx f=>aA (bX (lN c) x f) (0<=(↑b:Int)) ((↑b:Int)<aH c.tables/\∃(g:cR),d x f g))) e
noncomputable abbrev yR(a:cR):dj:=a8 (Value.string a.name) (fF a.columns) (a8 (fB a.key) (fF a.references) (aM a.checks))
noncomputable abbrev qV(a:ByteArray):CV:=CV.val (Value.string a)
abbrev pT(a:dk)(b:Nat×Nat×MH)(c:PH):Prop:=a aX (iB b) c
abbrev Gw(a:Value->Prop):Prop:=KeyLaw Proofs.Tryz.prog 9 a
abbrev MF(a:MH)(b:Nat)(c:(Value->Prop)->Prop)(d:(List (Value×Bool))->(Value×Bool)->Prop)(e:Prop)(g:Value)(i:Prop):Prop:=∃(x:List (Value×Bool))(j:Value->Prop),aA (Cp a b (List.map (fun(f:Value×Bool)=>(f.1,Value.bool f.2)) x)) (Gw j) (aA (c j) (∀(f:Value×Bool),List.Mem f x->j f.1) (((∀(f:Value×Bool),d x f)->e)/\∀(f:Bool),hU (List.Mem (g,f) x) f i e))
noncomputable abbrev Gt(a:cR):Value:=Value.string a.name
abbrev rX(a b:Prop):Prop:=aT a b False
noncomputable abbrev AY(a:cR):Int:=aH a.columns
abbrev Ws(a:du->(Value->Prop)->Prop):Prop:=∃(x:du)(c:Value->Prop),a x c
noncomputable abbrev mW(a b:Value)(c:du):du:=(a,b)::c
noncomputable abbrev Ac(a b:Value):du:=mW a b []
noncomputable abbrev Cv:Value:=Value.bool true
abbrev Ss(a:Nat->Option Obj)(b:Nat)(c:(Value->Prop)->Prop)(d:Value)(e:MH->Prop):Prop:=Ws (λx g=>aA (Cp a b x) (Gw g) (aA (c g) (∀(f:Value×Value),List.Mem f x->g f.1) ((∀(f:Value×Value),rX (List.Mem f x) (f.1=d))/\∀(f:MH),aT (j8 a f b) (Cp f b (x++Ac d Cv)) (e f))))
noncomputable abbrev Ka(a:Nat×Nat×Nat×Nat×Sl×MH):Nat:=a.2.2.2.1
abbrev bO(a b:Nat):Prop:=vK a=vK b
noncomputable abbrev Cw(a:Nat×Nat×Nat×Nat×Sl×MH):Sl:=a.2.2.2.2.1
noncomputable abbrev Dr(a:Nat×Nat×Nat×Nat×Sl×MH):Nat->Option Obj:=a.2.2.2.2.2
abbrev MO(a:pF)(b:Int)(c:Prop)(d:Nat×Nat×Nat×Nat×Sl×MH->Prop)(e:Nat×Nat×Nat×Nat×Sl×MH->Nat)(g:Nat×Nat×Nat×Nat×Sl×MH)(i:bW)(j:(Nat×Nat×Nat×Nat×Sl×MH)->Prop):Prop:=branch (a.kind !=b) c (∃(x:Nat×Nat×Nat×Nat×Sl×MH),aA (d x) (e x<e g) (aA (Hq g.2.2.1 x.2.2.1) (Hq (Ka g) (Ka x)) (aA (aG i.tables) (jK i) (aA (bO g.1 x.1) (bF (Cw g) (Cw x)) (j x)))))
abbrev MR(a b:Nat×Nat×Nat×Nat×Sl×MH)(c:MH)(d:PH):Prop:=Aa (dA (Cw a) (Cw b)) (aU (aW a.2.1 1) b.2.1) (c=Dr b) d d
attribute [push_cast] DF Hq tC jK FV yR qV pT Gw MF Gt rX AY Ws mW Ac Cv Ss Ka bO Cw Dr MO MR
def KS(v:bW)(m:MH)(h:PH)(K:dk):Prop:=
  DF m h 0 (λb A=>∃(I:Nat×Nat×MH->Prop)(n:Nat×Nat×MH->Nat),MU (λx=>aA (I x) (Hq b (j4 x)) (aA (tC v) (jK v) (bG (aY x.1) (A=iB x) (h=h)))) (λx=>FV (I x) x.1 v (λB o y=>aK (iB x) h B (bC o x.1 5) (yR y)/\∃(s:ByteArray),iX (iY (qV y.name) (qV s)) (!(oS s)) (pT K x h) (MF (iB x) (j4 x) (λO=>O (Gt y)) (λk e=>rX (List.Mem e k) (e.1=Gt y)) (aR y.key 1 (pT K x h) (eR y.key (AY y) (pT K x h) (Ss (iB x) (j4 x) (λO=>O (Gt y)) (Gt y) (λC=>DF C h 0 (λD E=>∃(I1:Nat×Nat×Nat×Nat×Sl×MH->Prop)(j:Nat×Nat×Nat×Nat×Sl×MH->Nat),(∃(c:Nat×Nat×Nat×Nat×Sl×MH),aA (I1 c) (Hq (j4 x) c.2.2.1) (aA (Hq D (Ka c))
 (tC v) (aA (jK v) (bO x.1 c.1) (aA (bF y.columns (Cw c)) (dA y.columns (Cw c)) (bG (aY c.2.1) (E=Dr c) (h=h))))))/\∀(c:Nat×Nat×Nat×Nat×Sl×MH),I1 c->aR (↑c.2.1:Int) (aH (Cw c)) (bT (λt u=>aA (bX (Cw c).a t u) (0<=(↑c.2.1:Int)) ((↑c.2.1:Int)<aH (Cw c)/\∃(d:pF),aK (Dr c) h t (bC u c.2.1 2) (kR (Cu d) (fB d.kind))/\∃(z:ByteArray),iX (iY (qV d.name) (qV z)) (!(oS z)) (K aX (Dr c) h) (MF (Dr c) (Ka c) (λO=>O (Cu d)) (λk e=>rX (List.Mem e k) (e.1=Cu d)) (Ss (Dr c) (Ka c) (λO=>O (Cu d)) (Cu d) (λg=>MO d 3 (MO d 4 (MO d 5 (K aX g h) I1 j c v (λf=>MR c f g h)) I1 j c v (λf=>MR
 c f g h)) I1 j c v (λf=>MR c f g h))) (Cu d) (K aX (Dr c) h))))) (∃(f:Nat×Nat×MH),aA (I f) (n f<n x) (aA (Hq c.2.2.1 (j4 f)) (tC v) (aA (jK v) (aU (aW c.1 1) f.1) (aA (Dr c=iB f) (h=h) True))))))))) (Gt y) (pT K x h))) (K eW (iB x) h)))
abbrev Ml(a:(Nat×cR->Prop)->(Nat×cR)->Prop)(b:(Nat×cR->Prop)->(Nat×cR->Nat)->(Nat×cR)->Prop):Prop:=∃(x:Nat×cR->Prop)(d:Nat×cR->Nat),(∃(c:Nat×cR),a x c)/\∀(c:Nat×cR),b x d c
noncomputable abbrev Io(a:bW):At:=iG a.version
noncomputable abbrev Im(a:bW):At:=xG a.tables
abbrev bM(a:bW):Prop:=eQ (oQ 43 (mO (Io a) (Im a)))
noncomputable abbrev vH(a:At):dz:=[a]
noncomputable abbrev lY(a:Sl):dz:=vH (xG a)
noncomputable abbrev gL(a:cR):dz:=eO (Ta a.name) (xG a.columns) (eO (iG a.key) (xG a.references) (lY a.checks))
abbrev DH(a:cR)(b:Nat×cR):Prop:=oQ 87 (gL a)=oQ 87 (gL b.2)
abbrev MS(a:Option Addr)(b:Int)(c:Nat)(d:Sl)(e:Nat->Nat->ByteArray->Prop):Prop:=bT (λx f=>aA (bX a x f) (b<=(↑c:Int)) ((↑c:Int)<aH d/\∃(g:ByteArray),e x f g))
noncomputable abbrev cZ(a:Nat):Nat:=a+0
noncomputable abbrev yW(a:ByteArray):dj:=nT (Value.string a)
noncomputable abbrev rE(a:Nat×Nat×cR):Nat:=a.2.1
noncomputable abbrev lO(a:Nat×Nat×cR):cR:=a.2.2
attribute [push_cast] Ml Io Im bM vH lY gL DH MS cZ yW rE lO
def Rr(v:bW)(i:Nat)(m:MH)(h:PH)(K:dk):Prop:=
  bT (λb o=>aA (bX (lN v) b o) (0<=(↑i:Int)) ((↑i:Int)<aH v.tables/\∃(y:cR),aK m h b (bC o i 5) (yR y)/\∃(s:ByteArray),iY (qV y.name) (qV s)/\cH (!(oS s)) (K aX m h) (AY y==0) (K aX m h) (aR y.key 1 (K aX m h) (eR y.key (AY y) (K aX m h) (Ml (λI x=>aA (I x) (eQ (vK i)) (aA dX dC (aA (aY x.1) (bM v) (aA (DH y x) (m=m) (bH h h))))) (λI n x=>I x->aR (↑x.1:Int) (↑i:Int) (MS (lN v) 0 x.1 v.tables (λg j f=>aK m h g (cZ (bC j x.1 5)) (yW f)/\branch (f.toList==x.2.name.toList) (K aX m h) (∃(c:Nat×cR),aA (I c) (n c<n x) (aA (eQ (vK i)) dX (aA dC (aU (aW x.1 1) c.1) (aA (bM v) (DH x.2 c) (bE (m=m) h h))))))) (Ml (λI1 c=>aA (I1
 c) dC (aA (dA x.2.columns c.2.columns) (aY c.1) (bG (DH x.2 c) (m=m) (h=h)))) (λI1 t c=>I1 c->aR (↑c.1:Int) (aH c.2.columns) (bT (λg j=>aA (bX c.2.columns.a g j) (0<=(↑c.1:Int)) ((↑c.1:Int)<aH c.2.columns/\∃(f:ByteArray),aK m h g (cZ (bC j c.1 2)) (yW f)/\∃(u:ByteArray),iX (iY (qV f) (qV u)) (!(oS u)) (K aX m h) (eU c.2.columns.a 0 (↑c.1:Int) c.2.columns (λD E z=>aK m h D (cE (bC E c.1 2)) (cO z)/\∃(k:Int),iX (rQ z k) (!(eM k)) (K aX m h) (∃(I2:Nat×Nat×cR->Prop)(A:Nat×Nat×cR->Nat),(∃(d:Nat×Nat×cR),aA (I2 d) dC (aA (bO c.1 d.1) (aY (rE d)) (aA (dA c.2.columns (lO d).columns) (bO c.1 d.1) (aA (oQ 87 (gL c.2)=oQ
 87 (gL (lO d))) (m=m) (bH h h)))))/\∀(d:Nat×Nat×cR),I2 d->aR (↑(rE d):Int) (↑d.1:Int) (MS (lO d).columns.a 0 (rE d) (lO d).columns (λF G B=>aK m h F (cZ (bC G (rE d) 2)) (yW B)/\MS (lO d).columns.a 0 d.1 (lO d).columns (λH J C=>aK m h H (cZ (bC J d.1 2)) (yW C)/\branch (B.toList==C.toList) (K aX m h) (∃(e:Nat×Nat×cR),aA (I2 e) (A e<A d) (aA dC (bO d.1 e.1) (aA (aU (aW (rE d) 1) (rE e)) (dA (lO d).columns (lO e).columns) (aA (bO d.1 e.1) (oQ 87 (gL (lO d))=oQ 87 (gL (lO e))) (bE (m=m) h h)))))))) (∃(e:Nat×cR),aA (I1 e) (t e<t c) (aA dC (dA (lO d).columns e.2.columns) (aA (aU (aW d.1 1) e.1) (DH
 (lO d) e) (aA (m=m) (h=h) True)))))))))) (K eW m h)))))))))
theorem Lf.snoc{c:fb}{n:ByteArray}(h:Cp m b ((c.map λn=>(Value.string n,Value.bool true))++[(.string n,.bool true)])):Lf m b (c++[n]):=by
 unfold Lf;grind
theorem Lf.look{c:fb}(h:Lf m b c):Cp m b (List.map (λp:Value×Bool=>(p.fst,Value.bool p.snd)) (c.map λn=>(Value.string n,true))):=by
 rw[map_map];exact h
theorem Il{β:Type}{c:fb}{x:β}:∀e:Value×β,e∈(c.map λn=>(Value.string n,x))->∃s,e.fst= .string s:=λe d=>by
 grind
theorem Uj{β:Type}{c:fb}{x:β}{n:ByteArray}(h:n∉c):∀e:Value×β,e∈(c.map λn=>(Value.string n,x))->e.fst= .string n->False:=λe d h'=>by
 grind
theorem FU{β:Type}{c:fb}{x:β}{n:ByteArray}(h:∀e:Value×β,e∈(c.map λn=>(Value.string n,x))->e.fst= .string n->False):n∉c:=λd=>h (.string n,x) (mem_map.2 ⟨n,d,rfl⟩) rfl
theorem Uk{β:Type}{c:fb}{x y:β}{n:ByteArray}(h:(Value.string n,y)∈(c.map λn=>(Value.string n,x))):n∈c/\y=x:=by
 grind
theorem X7:di 154 a8J:=by
 refine Ht func154 ?_;rintro b4 m h K ⟨v,s,rfl,hs,hK⟩;refine⟨aVX v h,rfl,aD XB aF,KS v m h (lQ h K),bu,?_⟩;show KS v m h (lQ h K);dsimp only[KS,push_cast];have hl:=hs.tables.slen;have b0:=hs.tables.len;have hf:¬Good CZ s.tables->K (cB false) m h:=λh=>hK false ⟨λe=>(by cases e),λe=>(h e).elim⟩;intro b m1 hb T;refine⟨λ⟨i,C,mx⟩=>i<=s.tables.length/\Sub m mx/\m C=none/\Lf mx C ((s.tables.take i).map zN.name)/\gC CZ s.tables i,λ⟨i,_,_⟩=>s.tables.length-i,⟨(0,b,m1),⟨aC,(Sub.refl m).upd hb.m_ T.other,hb.m_,⟨_,_,T.at_,rfl⟩,.zero⟩,MT⟩,?_⟩;rintro⟨i,C,mx⟩ ⟨hi,n,U,F,u⟩;dsimp only;refine aE (λV=>?_) (λb5=>.sub n (hK true ⟨λ_=>u.all aC,λ_=>rfl⟩));obtain⟨t,W⟩:=eN hl V;obtain⟨bb,o,w,ea,hr,f⟩:=hs.tables.at W;have a4:=aZ.slen f.columns;have b6:=aZ.len f.columns;have X:=f.name;have b7:=f.key;have D:¬CZ (s.tables.take i) t->lQ h K (.val (.bool false)) mx h:=λhn=>.sub n (hf (Good.not W hn));have Y:t.name∉(s.tables.take i).map zN.name->oS w.name=true->1<=w.key->w.key<=w.columns.len->Good V5 t.columns->CZ (s.tables.take i) t:=λh1 h2 h3 h4 h5=>⟨cg,aC,aC,h1,h5⟩
 refine⟨bb,o,ea,aC,V,w,.imm hr,w.name,rfl,aB (λh1=>D λg=>?_) (λh1=>⟨_,_,F.look,C9,⟨_,rfl⟩,Il,λZ=>aE (λh2=>D λg=>?_) (λh2=>aE (λh3=>D λg=>?_) (λh3=>⟨_,_,F,C9,⟨_,rfl⟩,Il,Uj (FU Z),λm2 a5 z S m3 L M=>?_⟩)),λy hy=>?_⟩)⟩
 .have:=g.1;grind
 .have:=g.2.1;omega
 .have:=g.2.2.1;omega
 .have z:=Lf.snoc z;have j:Sub m m2:=n.upd U a5.other;have O:Sub m m3:=j.upd (j.free L.m_) M.other
  have a':C≠S:=λe=>by
   obtain⟨es,cl,e1,_⟩:=z.ex;rw[e,L.m_]at e1;cases e1
  have a0:t.name∉(s.tables.take i).map zN.name:=by rw[<-X];exact FU Z
  rw[X, <-iI W]at z
  refine⟨λ⟨i',k,a6,a9,sl,P⟩=>i'=i/\a6=C/\a9=S/\sl=w.columns/\k<=t.columns.length/\Sub m P/\Lf P C ((s.tables.take (i+1)).map zN.name)/\Lf P S ((t.columns.take k).map pF.name)/\gC V5 t.columns k,λ⟨_,k,_,_,_,_⟩=>t.columns.length-k,
   ⟨(i,0,C,S,w.columns,m3),⟨rfl,rfl,rfl,rfl,aC,O,z.other a' M.other,⟨_,_,M.at_,rfl⟩,.zero⟩,MT⟩,?_⟩
  rintro⟨i,k,C,S,_,P⟩ ⟨rfl,rfl,rfl,rfl,hk,d,G,H,a1⟩;dsimp only;refine aE (λI=>?_) (λb3=>?_)
  .obtain⟨c,hc⟩:=eN a4 I;obtain⟨bc,oc,ec,rc⟩:=EK.at f.columns hc;have A:∀mz,Sub m mz->¬V5 (t.columns.take k) c->lQ h K (.val (.bool false)) mz h:=λmz hz hn=>.sub hz (hf (Good.not W (λg=>Good.not hc hn g.2.2.2.2)));refine⟨bc,oc,ec,aC,I,c,.imm rc,c.name,rfl,aB (λh4=>A P d λg=>?_) (λh4=>⟨_,_,H.look,C9,⟨_,rfl⟩,Il,λJ=>⟨_,_,H,C9,⟨_,rfl⟩,Il,Uj (FU J),λm4 a2 E=>?_⟩,λy hy=>?_⟩)⟩
   .rw[g.1]at h4;cases h4
   .have E:=Lf.snoc E;rw[<-iI hc]at E;have B:Sub m m4:=d.upd (j.free L.m_) a2.other;have Q:eM c.kind=true->V5 (t.columns.take k) c:=λe=>⟨cg,e,FU J⟩
    have R:eM c.kind=false->¬V5 (t.columns.take k) c:=λe g=>by rw[g.2.1]at e;cases e
    have b':=G.other a' a2.other
    repeat' (first|(refine aB (λ_=>?_) (λ_=>?_))|(refine A m4 B (R ?_);simp_all [eM];done)|exact⟨(i,k+1,C,S,w.columns,m4),⟨rfl,rfl,rfl,rfl,ck,B,b',E,a1.succ hc (Q (by simp_all [eM]))⟩,cj,MT⟩)
   .obtain⟨a3,rfl⟩:=Uk hy;exact aB (λ_=>A P d λg=>g.2.2 a3) (λe=>by cases e)
  .refine⟨(i+1,C,P),⟨aC,d,U,G,u.succ W (Y a0 cg aC aC (a1.all aC))⟩,?_,MT⟩;omega
 .obtain⟨a3,rfl⟩:=Uk hy;exact aB (λ_=>D λg=>g.2.2.2.1 cg) (λe=>by cases e)
theorem NA{α:Type}{f:α->ByteArray}{l:List α}{x:α}{n:ByteArray}(hx:l[i]? =some x)(h:n∉(l.take i).map f)(c:f x≠n):n∉(l.take (i+1)).map f:=by
 rw[iI hx,mem_append]
 grind
theorem bDQ{α:Type}{f:α->ByteArray}{l:List α}{k:Nat}{x:α}{n:ByteArray}(hx:l[i]? =some x)(d:i<k)(c:f x=n):n∈(l.take k).map f:=
 mem_map.2 ⟨x,mem_of_getElem? (i:=i) cg,c⟩
theorem X9:di 149 a4Q:=by
 refine gO func149 ?_;rintro a2 m h K ⟨v,s,t,i,rfl,G,V,W⟩;refine⟨aWX v i m h,rfl,aD XC (aD OC aF),Rr v i m h K,bu,?_⟩;dsimp only[Rr,push_cast];have hl:=G.tables.slen;have X:=G.tables.len;have a3:i<s.tables.length:=(cn V);have g:¬CZ (s.tables.take i) t->K (.val (.bool false)) m h:=λh=>W false ⟨λe=>(by cases e),λe=>(h e).elim⟩;obtain⟨bb,o,w,ea,hr,d⟩:=G.tables.at V;have H:=aZ.slen d.columns;have a4:=aZ.len d.columns;have E:=d.name;have a5:=d.key;refine⟨bb,o,ea,aC,aC,w,.imm hr,w.name,rfl,aB (λh1=>g λf=>?_) (λh1=>aB (λh2=>g λf=>?_) (λh2=>aE (λh3=>g λf=>?_) (λh3=>aE (λh4=>g λf=>?_) (λh4=>?_))))⟩
 .have:=f.1;grind
 .have:=f.2.1;have:=f.2.2.1;grind
 .have:=f.2.1;omega
 .have:=f.2.2.1;omega
 refine⟨λ⟨k,B⟩=>B=w/\k<=i/\t.name∉(s.tables.take k).map zN.name,λ⟨k,_⟩=>i-k,⟨(0,w),⟨rfl,aC,bx⟩,MT⟩,?_⟩;rintro⟨k,w⟩ ⟨rfl,hk,F⟩;dsimp only;refine aE (λn=>?_) (λa6=>?_)
 .obtain⟨Y,C⟩:∃Y,s.tables[k]? =some Y:=⟨s.tables[k]'(by omega),cq _⟩
  obtain⟨b',o',B,I,J,u⟩:=G.tables.at C;refine⟨b',o',I,aC,aC,B.name,.imm (bB.part J 0 1),aB (λe=>g λf=>?_) (λe=>?_)⟩
  .refine f.2.2.2.1 (bDQ C aC ?_);rw[<-u.name, <-E];exact xU (cm e)
  .refine⟨(k+1,w),⟨rfl,aC,NA C F λZ=>?_⟩,aC,MT⟩;rw[<-u.name, <-E]at Z
   grind
 .have L:k=i:=by omega
  subst L;refine⟨λ⟨k,B⟩=>B=w/\k<=t.columns.length/\gC V5 t.columns k,λ⟨k,_⟩=>t.columns.length-k,⟨(0,w),⟨rfl,aC,.zero⟩,MT⟩,?_⟩;rintro⟨c,w⟩ ⟨rfl,hc,hg⟩;dsimp only;refine aE (λn=>?_) (λa'=>W true ⟨λ_=>⟨cg,aC,aC,F,hg.all aC⟩,λ_=>rfl⟩);obtain⟨x,D⟩:=eN H n;obtain⟨M,O,P,Q⟩:=EK.at d.columns D;have z:¬V5 (t.columns.take c) x->K (.val (.bool false)) m h:=λhn=>g λf=>Good.not D hn f.2.2.2.2;refine⟨M,O,P,aC,n,x.name,.imm (bB.part Q 0 1),x.name,rfl,aB (λR=>z λf=>?_) (λR=>⟨M,O,P,aC,n,x.kind,.imm (bB.part Q 1 1),x.kind,rfl,aB (λS=>z λf=>?_) (λS=>?_)⟩)⟩
  .rw[f.1]at R;cases R
  .rw[f.2.1]at S;cases S
  refine⟨λ⟨c',j,B⟩=>B=w/\c'=c/\j<=c/\x.name∉(t.columns.take j).map pF.name,λ⟨_,j,_⟩=>c-j,⟨(c,0,w),⟨rfl,rfl,aC,bx⟩,MT⟩,?_⟩;rintro⟨c,j,w⟩ ⟨rfl,rfl,hj,A⟩;dsimp only;refine aE (λa0=>?_) (λa1=>?_)
  .obtain⟨y,T⟩:∃y,t.columns[j]? =some y:=⟨t.columns[j]'(by omega),cq _⟩
   obtain⟨U,oy,ey,ry⟩:=EK.at d.columns T;refine⟨U,oy,ey,aC,aC,y.name,.imm (bB.part ry 0 1),M,O,P,aC,n,x.name,.imm (bB.part Q 0 1),aB (λe=>z λf=>?_) (λe=>?_)⟩
   .exact f.2.2 (bDQ T aC (xU (cm e)))
   .refine⟨(c,j+1,w),⟨rfl,rfl,cg,NA T A λZ=>?_⟩,cg,MT⟩
    grind
  .have:j=c:=by omega
   subst this;exact⟨(j+1,w),⟨rfl,aC,hg.succ D ⟨cg,cg,A⟩⟩,aC,MT⟩
def HN(t g:zN)(k:Nat)(c:Int):Prop:=0<=c/\c<t.columns.length/\∃x y,t.columns[c.toNat]? =some x/\g.columns[k]? =some y/\x.kind=y.kind
def a6J(tabs:List zN)(t:zN)(_:List Ref)(r:Ref):Prop:=0<=r.table/\r.table<tabs.length/\∃g,tabs[r.table.toNat]? =some g/\(r.columns.length:Int)=g.key/\Good (λd c=>HN t g d.length c) r.columns
def EF(tabs:List zN)(_:List zN)(t:zN):Prop:=Good (a6J tabs t) t.refs
def a6Z:Vc.Spec:=λc m h K=>∃v s,c=[aS v]/\iP h s v/\Good CZ s.tables/\∀r:Bool,(r=true↔Good (EF s.tables) s.tables)->K (cB r) m h
def ZI:Vc.Spec:=λc m h K=>∃v s t,∃i:Nat,c=[aS v,cI i]/\iP h s v/\Good CZ s.tables/\s.tables[i]? =some t/\∀r:Bool,(r=true↔EF s.tables [] t)->K (cB r) m h
noncomputable def aVQ(v:bW)(m:MH)(h:PH):Ctx:=
 dG [] [(2,{A:=Nat,st:=λi=>bK 82 83 [(1,.at (.ptr 1 0)),(11,sv v.tables),(12,iv v.tables.len),(13,iv i)] [(1,.cells 43 (v.enc.map .val))] m h}),
  (5,{A:=Nat×Nat×cR,st:=λ⟨i,k,w⟩=>bK 82 83 [(1,.at (.ptr 1 0)),(4,.at (.ptr 4 0)),(11,sv v.tables),(12,iv v.tables.len),(13,iv i),(18,sv w.references),(19,iv w.references.len),(20,iv k)] [(1,.cells 43 (v.enc.map .val)),(4,.cells 87 (w.enc.map .val))] m h}),
  (13,{A:=Nat×Nat×Nat×cR×cR×Sl,st:=λ⟨i,k,j,w,g,c⟩=>bK 82 83 [(1,.at (.ptr 1 0)),(4,.at (.ptr 4 0)),(7,.at (.ptr 7 0)),(11,sv v.tables),(12,iv v.tables.len),(13,iv i),(18,sv w.references),(19,iv w.references.len),(20,iv k),(48,sv c),(49,iv c.len),(50,iv j)] [(1,.cells 43 (v.enc.map .val)),(4,.cells 87 (w.enc.map .val)),(7,.cells 87 (g.enc.map .val))] m h})] [] [] false
noncomputable def aWQ(v:bW)(m:MH)(h:PH):Ctx:=
 dG [] [(3,{A:=Nat×cR,st:=λ⟨k,w⟩=>bK 85 87 [(2,.at (.ptr 2 0)),(5,.at (.ptr 5 0)),(16,sv w.references),(17,iv w.references.len),(18,iv k)] [(2,.cells 43 (v.enc.map .val)),(5,.cells 87 (w.enc.map .val))] m h}),
  (8,{A:=Nat×Nat×cR×EJ,st:=λ⟨k,j,w,r⟩=>bK 85 87 [(2,.at (.ptr 2 0)),(5,.at (.ptr 5 0)),(7,.at (.ptr 7 0)),(16,sv w.references),(17,iv w.references.len),(18,iv k),(47,sv r.columns),(48,iv r.columns.len),(49,iv j)] [(2,.cells 43 (v.enc.map .val)),(5,.cells 87 (w.enc.map .val)),(7,.cells 146 (r.enc.map .val))] m h})] [] [] false
abbrev kX(a:(Nat->Prop)->Nat->Prop)(b:(Nat->Prop)->(Nat->Nat)->Nat->Prop):Prop:=∃(x:Nat->Prop)(d:Nat->Nat),mD (∃(c:Nat),a x c) (λc=>b x d c)
abbrev eY:Prop:=eP 1
abbrev eV:Prop:=eP 4
abbrev Dk(a b:cR):Prop:=bF a.references b.references
abbrev Dl(a b:cR):Prop:=dA a.references b.references
noncomputable abbrev tD(a:Nat×Nat×Nat×cR×cR×Sl):cR:=a.2.2.2.1
noncomputable abbrev yI(a:Nat×Nat×Nat×cR×cR×Sl):Sl:=a.2.2.2.2.2
noncomputable abbrev AT(a:Nat×Nat×Nat×cR×cR×Sl):Nat:=a.2.2.1
noncomputable abbrev Gx(a:Nat×Nat×Nat×cR×cR×Sl):cR:=a.2.2.2.2.1
attribute [push_cast] kX eY eV Dk Dl tD yI AT Gx
def KO(v:bW)(m:MH)(h:PH)(K:dk):Prop:=
  kX (λI x=>aA (I x) eY (aA (tC v) (jK v) (aA (aY x) (bM v) (aA (m=m) (h=h) True)))) (λI n x=>FV (I x) x v (λb o y=>aK m h b (bC o x 5) (yR y)/\∃(I1:Nat×Nat×cR->Prop)(t:Nat×Nat×cR->Nat),(∃(d:Nat×Nat×cR),aA (I1 d) eY (aA eV (tC v) (aA (jK v) (bO x d.1) (aA (Dk y (lO d)) (Dl y (lO d)) (aA (aY (rE d)) (bM v) (aA (oQ 87 (gL y)=oQ 87 (gL (lO d))) (m=m) (bH h h)))))))/\∀(d:Nat×Nat×cR),I1 d->aR (↑(rE d):Int) (aH (lO d).references) (bT (λu z=>aA (bX (lO d).references.a u z) (0<=(↑(rE d):Int)) ((↑(rE d):Int)<aH (lO d).references/\∃(f:EJ),aK m h u (bC z (rE d) 2) (kR (fF f.columns) (fB f.table))/\
 aR f.table 0 (K aX m h) (fY f.table (iV v) (K aX m h) (bT (λA B=>aA (bX (lN v) A B) (0<=f.table) (f.table<aH v.tables/\∃(j:cR),aK m h A (cF B f.table 5) (yR j)/\fW (aH f.columns) j.key (K aX m h) (∃(I2:Nat×Nat×Nat×cR×cR×Sl->Prop)(C:Nat×Nat×Nat×cR×cR×Sl->Nat),(∃(c:Nat×Nat×Nat×cR×cR×Sl),aA (I2 c) eY (aA eV (eP 7) (aA (tC v) (jK v) (aA (bO d.1 c.1) (Dk (lO d) (tD c)) (aA (Dl (lO d) (tD c)) (bO (rE d) c.2.1) (aA (bF f.columns (yI c)) (dA f.columns (yI c)) (aA (aY (AT c)) (bM v) (aA (oQ 87 (gL (lO d))=oQ 87 (gL (tD c))) (oQ 87 (gL j)=oQ 87 (gL (Gx c))) (bE (m=m) h h)))))))))/\∀(c:Nat×Nat×
 Nat×cR×cR×Sl),I2 c->aR (↑(AT c):Int) (aH (yI c)) (eU (yI c).a 0 (↑(AT c):Int) (yI c) (λF G g=>aK m h F (bC G (AT c) 1) (cO g)/\aR g 0 (K aX m h) (fY g (AY (tD c)) (K aX m h) (eU (tD c).columns.a 0 g (tD c).columns (λH J D=>aK m h H (cE (cF J g 2)) (cO D)/\eU (Gx c).columns.a 0 (↑(AT c):Int) (Gx c).columns (λL M E=>aK m h L (cE (bC M (AT c) 2)) (cO E)/\fW D E (K aX m h) (∃(e:Nat×Nat×Nat×cR×cR×Sl),aA (I2 e) (C e<C c) (aA eY eV (aA (eP 7) (tC v) (aA (jK v) (bO c.1 e.1) (aA (Dk (tD c) (tD e)) (Dl (tD c) (tD e)) (aA (bO c.2.1 e.2.1) (bF (yI c) (yI e)) (aA (dA
 (yI c) (yI e)) (aU (aW (AT c) 1) (AT e)) (aA (bM v) (oQ 87 (gL (tD c))=oQ 87 (gL (tD e))) (bG (oQ 87 (gL (Gx c))=oQ 87 (gL (Gx e))) (m=m) (h=h)))))))))))))))) (∃(e:Nat×Nat×cR),aA (I1 e) (t e<t d) (aA eY eV (aA (aG v.tables) (jK v) (aA (bO c.1 e.1) (Dk (tD c) (lO e)) (aA (Dl (tD c) (lO e)) (aU (aW c.2.1 1) (rE e)) (aA (bM v) (oQ 87 (gL (tD c))=oQ 87 (gL (lO e))) (bE (m=m) h h))))))))))))))) (∃(c:Nat),aA (I c) (n c<n x) (aA eY (tC v) (aA (jK v) (aU (aW d.1 1) c) (aA (bM v) (m=m) (bH h h)))))) (K eW m h))
noncomputable abbrev tE(a:Nat×Nat×cR×EJ):cR:=a.2.2.1
noncomputable abbrev sR(a:Nat×Nat×cR×EJ):Sl:=a.2.2.2.columns
noncomputable abbrev Gl(a:Nat×Nat×cR×EJ):Int:=a.2.2.2.table
attribute [push_cast] tE sR Gl
def KT(v:bW)(i:Nat)(m:MH)(h:PH)(K:dk):Prop:=
  bT (λb o=>aA (bX (lN v) b o) (0<=(↑i:Int)) ((↑i:Int)<aH v.tables/\∃(y:cR),aK m h b (bC o i 5) (yR y)/\Ml (λI x=>aA (I x) dX (aA dC (Dk y x.2) (aA (Dl y x.2) (aY x.1) (aA (bM v) (DH y x) (bE (m=m) h h))))) (λI j x=>I x->aR (↑x.1:Int) (aH x.2.references) (bT (λn t=>aA (bX x.2.references.a n t) (0<=(↑x.1:Int)) ((↑x.1:Int)<aH x.2.references/\∃(e:EJ),aK m h n (bC t x.1 2) (kR (fF e.columns) (fB e.table))/\aR e.table 0 (K aX m h) (fY e.table (iV v) (K aX m h) (eU (lN v) 0 e.table v.tables (λC D u=>aK m h C (cF D e.table 5+2) (cO u)/\fW (aH e.columns) u (K aX m h) (∃(I1:Nat×Nat×cR×EJ->Prop)(z:Nat×Nat×cR×EJ->Nat),(∃(c:Nat×Nat×
 cR×EJ),aA (I1 c) dX (aA dC (eP 7) (aA (Dk x.2 (tE c)) (Dl x.2 (tE c)) (aA (bO x.1 c.1) (bF e.columns (sR c)) (aA (dA e.columns (sR c)) (aY c.2.1) (aA (bM v) (oQ 87 (gL x.2)=oQ 87 (gL (tE c))) (bG (oQ 146 (mO (xG e.columns) (iG e.table))=oQ 146 (mO (xG (sR c)) (iG (Gl c)))) (m=m) (h=h))))))))/\∀(c:Nat×Nat×cR×EJ),I1 c->aR (↑c.2.1:Int) (aH (sR c)) (eU (sR c).a 0 (↑c.2.1:Int) (sR c) (λE F f=>aK m h E (bC F c.2.1 1) (cO f)/\aR f 0 (K aX m h) (fY f (AY (tE c)) (K aX m h) (eU (tE c).columns.a 0 f (tE c).columns (λG H A=>aK m h G (cE (cF H f 2)) (cO A)/\cK (lN v) (Gl c) v.tables (λJ L g=>aK m h J
 (cE (cF L (Gl c) 5)) (aM g)/\eU g.a 0 (↑c.2.1:Int) g (λM O B=>aK m h M (cE (bC O c.2.1 2)) (cO B)/\fW A B (K aX m h) (∃(d:Nat×Nat×cR×EJ),aA (I1 d) (z d<z c) (aA dX dC (aA (eP 7) (Dk (tE c) (tE d)) (aA (Dl (tE c) (tE d)) (bO c.1 d.1) (aA (bF (sR c) (sR d)) (dA (sR c) (sR d)) (aA (aU (aW c.2.1 1) d.2.1) (bM v) (aA (oQ 87 (gL (tE c))=oQ 87 (gL (tE d))) (oQ 146 (mO (xG (sR c)) (iG (Gl c)))=oQ 146 (mO (xG (sR d)) (iG (Gl d)))) (aA (m=m) (h=h) True))))))))))))))) (∃(d:Nat×cR),aA (I d) (j d<j x) (aA dX dC (aA (Dk (tE c) d.2) (Dl (tE c) d.2) (aA (aU (aW c.1 1) d.1) (bM v) (bG (DH
 (tE c) d) (m=m) (h=h))))))))))))) (K eW m h))))
theorem Ints.at'{s:Sl}(r:Ints h s l){x:Int}(c:l[i]? =some x):∃b o,s.a=some ⟨b,o,none⟩/\bB h b (o+i*1) [.int .i64 x]:=by
 obtain⟨b,o,e,k⟩:=r.at c
 grind
theorem TJ{α:Type}{l:List α}{x:α}(h:l[i]? =some x):(l.take i).length=i:=by
 grind
theorem Good.key_le{tabs:List zN}(h:Good CZ tabs){g:zN}(c:tabs[i]? =some g):g.key<=g.columns.length:=(h i g c).2.2.1
theorem bwJ{v:bW}(Q:iP h s v)(D:Good CZ s.tables)(hK:∀r:Bool,(r=true↔Good (EF s.tables) s.tables)->K (cB r) m h):KO v m h K:=by
 dsimp only[KO,push_cast];have hl:=Q.tables.slen;have b0:=Q.tables.len;have hf:¬Good (EF s.tables) s.tables->K (.val (.bool false)) m h:=λh=>hK false ⟨λe=>(by cases e),λe=>(h e).elim⟩;refine⟨λi=>i<=s.tables.length/\gC (EF s.tables) s.tables i,λi=>s.tables.length-i,⟨0,⟨aC,.zero⟩,MT⟩,λi⟨hi,hg⟩=>aE (λI=>?_) (λb9=>hK true ⟨λ_=>hg.all aC,λ_=>rfl⟩)⟩;obtain⟨t,S⟩:=eN hl I;obtain⟨b,o,w,ea,hr,f⟩:=Q.tables.at S;have c':=aZ.slen f.columns;have T:=aZ.slen f.refs;have c0:=aZ.len f.refs;refine⟨b,o,ea,aC,I,w,.imm hr,λ⟨U,k,V⟩=>U=i/\V=w/\k<=t.refs.length/\gC (a6J s.tables t) t.refs k,λ⟨_,k,_⟩=>t.refs.length-k,⟨(i,0,w),⟨rfl,rfl,aC,.zero⟩,MT⟩,?_⟩;rintro⟨i,k,w⟩ ⟨rfl,rfl,hk,J⟩;dsimp only;refine aE (λB=>?_) (λb1=>⟨i+1,⟨aC,hg.succ S (J.all aC)⟩,aC,MT⟩);obtain⟨r,E⟩:=eN T B;obtain⟨b2,o2,G,W,X,d⟩:=f.refs.at E;have Y:=d.columns.slen;have c1:=d.columns.len;have rt:=d.table;have A:¬a6J s.tables t (t.refs.take k) r->K (.val (.bool false)) m h:=λhn=>hf (Good.not S (Good.not E hn));refine⟨b2,o2,W,aC,B,G,.imm X,aE (λh1=>A λu=>?_) (λh1=>aE (λh2=>A λu=>?_) (λh2=>?_))⟩
 .have:=u.1;omega
 .have:=u.2.1;omega
 obtain⟨g,b3,o3,H,L,Z,a',n⟩:=Q.table (t:=G.table) aC aC;have c2:=aZ.slen n.columns;have b7:=D.key_le L;have gk:=n.key;refine⟨b3,o3,Z,aC,aC,H,.imm a',aB (λh3=>A λu=>?_) (λh3=>?_)⟩
 .obtain⟨_,_,g',F,c3,_⟩:=u
  grind
 have h3:(G.columns.len:Int)=H.key:=cg
 refine⟨λ⟨U,k',j,V,g',sl⟩=>U=i/\k'=k/\V=w/\g'=H/\sl=G.columns/\j<=r.columns.length/\gC (λa0 c=>HN t g a0.length c) r.columns j,λ⟨_,_,j,_,_,_⟩=>r.columns.length-j,⟨(i,k,0,w,H,G.columns),⟨rfl,rfl,rfl,rfl,rfl,aC,.zero⟩,MT⟩,?_⟩;rintro⟨i,k,j,w,H,_⟩ ⟨rfl,rfl,rfl,rfl,rfl,hj,M⟩;dsimp only;refine aE (λC=>?_) (λb8=>⟨(i,k+1,w),⟨rfl,rfl,cg,J.succ E ⟨aC,aC,g,cg,aC,M.all aC⟩⟩,cg,MT⟩);obtain⟨c,R⟩:=eN Y C;obtain⟨b4,o4,a1,a2⟩:=d.columns.at' R;have a3:=TJ R
 have z:¬HN t g j c->K (.val (.bool false)) m h:=λhn=>A λu=>by
  obtain⟨_,_,g',F,_,a4⟩:=u;rw[<-rt,L]at F;cases F;have:=a4 j c R
  grind
 refine⟨b4,o4,a1,aC,C,c,.imm a2,aE (λh5=>z λu=>?_) (λh5=>aE (λh6=>z λu=>?_) (λh6=>?_))⟩
 .have:=u.1;omega
 .have:=u.2.1;omega
 obtain⟨x,O⟩:∃x,t.columns[c.toNat]? =some x:=⟨t.columns[c.toNat]'(by omega),cq _⟩
 obtain⟨y,P⟩:∃y,g.columns[j]? =some y:=⟨g.columns[j]'(by omega),cq _⟩
 obtain⟨b5,o5,a5,a6⟩:=EK.at f.columns O;obtain⟨b6,o6,a9,b'⟩:=EK.at n.columns P;refine⟨b5,o5,a5,aC,aC,x.kind,.imm (bB.part a6 1 1),b6,o6,a9,aC,aC,y.kind,.imm (bB.part b' 1 1),aB (λh7=>z λu=>?_) (λh7=>?_)⟩
 .obtain⟨_,_,x',y',e1,e2,e3⟩:=u
  grind
 .exact⟨(i,k,j+1,w,H,G.columns),⟨rfl,rfl,rfl,rfl,rfl,cg,M.succ R (by show HN t g (List.take j r.columns).length c;rw[a3];exact⟨aC,aC,x,y,O,P,cg⟩)⟩,cg,MT⟩
theorem X6:di 155 a6Z:=by
 refine gO func155 ?_;rintro c m h K ⟨v,s,rfl,d,e,f⟩;refine⟨aVQ v m h,rfl,aF,KO v m h K,bu,?_⟩;exact bwJ d e f
theorem bxQ{v:bW}{t:zN}(Q:iP h s v)(D:Good CZ s.tables)(hx:s.tables[i]? =some t)(hK:∀r:Bool,(r=true↔EF s.tables [] t)->K (cB r) m h):KT v i m h K:=by
 dsimp only[KT,push_cast];have hl:=Q.tables.slen;have a6:=Q.tables.len;have b1:i<s.tables.length:=(cn hx);have hf:¬EF s.tables [] t->K (.val (.bool false)) m h:=λh=>hK false ⟨λe=>(by cases e),λe=>(h e).elim⟩;obtain⟨b,o,w,ea,hr,f⟩:=Q.tables.at hx;have b7:=aZ.slen f.columns;have S:=aZ.slen f.refs;have b8:=aZ.len f.refs;refine⟨b,o,ea,aC,aC,w,.imm hr,λ⟨k,T⟩=>T=w/\k<=t.refs.length/\gC (a6J s.tables t) t.refs k,λ⟨k,_⟩=>t.refs.length-k,⟨(0,w),⟨rfl,aC,.zero⟩,MT⟩,?_⟩;rintro⟨k,w⟩ ⟨rfl,hk,H⟩;dsimp only;refine aE (λB=>?_) (λa9=>hK true ⟨λ_=>H.all aC,λ_=>rfl⟩);obtain⟨r,E⟩:=eN S B;obtain⟨b2,o2,F,U,V,d⟩:=f.refs.at E;have W:=d.columns.slen;have b9:=d.columns.len;have rt:=d.table;have A:¬a6J s.tables t (t.refs.take k) r->K (.val (.bool false)) m h:=λhn=>hf (Good.not E hn);refine⟨b2,o2,U,aC,B,F,.imm V,aE (λh1=>A λu=>?_) (λh1=>aE (λh2=>A λu=>?_) (λh2=>?_))⟩
 .have:=u.1;omega
 .have:=u.2.1;omega
 obtain⟨g,b3,o3,X,I,J,L,n⟩:=Q.table (t:=F.table) aC aC;have c':=aZ.slen n.columns;have b':=D.key_le I;have gk:=n.key;refine⟨b3,o3,J,aC,aC,X.key,.imm (bB.part L 2 1),aB (λh3=>A λu=>?_) (λh3=>?_)⟩
 .obtain⟨_,_,g',G,c0,_⟩:=u
  grind
 have h3:(F.columns.len:Int)=X.key:=cg
 refine⟨λ⟨k',j,T,r'⟩=>k'=k/\T=w/\r'=F/\j<=r.columns.length/\gC (λY c=>HN t g Y.length c) r.columns j,λ⟨_,j,_,_⟩=>r.columns.length-j,⟨(k,0,w,F),⟨rfl,rfl,rfl,aC,.zero⟩,MT⟩,?_⟩;rintro⟨k,j,w,F⟩ ⟨rfl,rfl,rfl,hj,M⟩;dsimp only;refine aE (λC=>?_) (λb0=>⟨(k+1,w),⟨rfl,aC,H.succ E ⟨aC,aC,g,cg,aC,M.all aC⟩⟩,aC,MT⟩);obtain⟨c,R⟩:=eN W C;obtain⟨b4,o4,Z,a'⟩:=d.columns.at' R;have a0:=TJ R
 have z:¬HN t g j c->K (.val (.bool false)) m h:=λhn=>A λu=>by
  obtain⟨_,_,g',G,_,a1⟩:=u;rw[<-rt,I]at G;cases G;have:=a1 j c R
  grind
 refine⟨b4,o4,Z,aC,C,c,.imm a',aE (λh5=>z λu=>?_) (λh5=>aE (λh6=>z λu=>?_) (λh6=>?_))⟩
 .have:=u.1;omega
 .have:=u.2.1;omega
 obtain⟨x,O⟩:∃x,t.columns[c.toNat]? =some x:=⟨t.columns[c.toNat]'(by omega),cq _⟩
 obtain⟨y,P⟩:∃y,g.columns[j]? =some y:=⟨g.columns[j]'(by omega),cq _⟩
 obtain⟨b5,o5,a2,a3⟩:=EK.at f.columns O;obtain⟨b6,o6,a4,a5⟩:=EK.at n.columns P;refine⟨b5,o5,a2,aC,aC,x.kind,.imm (bB.part a3 1 1),b3,o3,J,aC,aC,X.columns,.imm (bB.part L 1 1),b6,o6,a4,aC,aC,y.kind,.imm (bB.part a5 1 1),aB (λh7=>z λu=>?_) (λh7=>?_)⟩
 .obtain⟨_,_,x',y',e1,e2,e3⟩:=u
  grind
 .exact⟨(k,j+1,w,F),⟨rfl,rfl,rfl,cg,M.succ R (by show HN t g (List.take j r.columns).length c;rw[a0];exact⟨aC,aC,x,y,O,P,cg⟩)⟩,cg,MT⟩
theorem X8:di 150 ZI:=by
 refine gO func150 ?_;rintro c m h K ⟨v,s,t,i,rfl,d,e,f,g⟩;refine⟨aWQ v m h,rfl,aF,KT v i m h K,bu,?_⟩;exact bxQ d e f g
def OU(t:zN):Prop:=t.columns.length<=8/\t.refs.length<=4/\t.checks.length<=4
def Eo(s:oL):Prop:=s.tables.length<=8/\Good (λ_ t=>OU t) s.tables
def LX(s:oL):Prop:=0<=s.version/\s.version<=1000/\Good CZ s.tables/\Good (EF s.tables) s.tables
def tU:dm->Int
 |[]=>0
 |e::r=>if e=0 then tU r else e
def vQ(s:oL)(i:Nat):dm:=match s.tables[i]? with|some t=>t.checks.map (iL (jS s i) [])|none=>[]
theorem Aj(a b:dm)(h:∀e∈a,e=0):tU (a++b)=tU b:=by
 induction a with
 |nil=>rfl
 |cons x a c=>
  simp only[cons_append,tU];rw[if_pos (h x bx),c λe d=>h e (by simp[d])]
theorem CD(a:dm)(h:∀e∈a,e=0):tU a=0:=by
 have:=Aj a [] h;simpa[tU]using this
theorem LJ{n k:Nat}{f:Nat->dm}{e:Int}(o:i<n)(t:∀j<i,∀x∈f j,x=0)(c:∀x∈(f i).take k,x=0)(d:(f i)[k]? =some e)(g:e≠0):tU ((List.range n).flatMap f)=e:=by
 obtain⟨r,rfl⟩:∃r,n=i+(1+r):=⟨n-i-1,aC⟩
 rw[range_add,flatMap_append,Aj]
 .rw[show(List.range (1+r)).map (i+ ·)=i::(range' (i+1) r)from ?_,flatMap_cons, <-take_append_drop k (f i),append_assoc,Aj _ _ c,drop_cons d]
  .simp[tU,g]
  .rw[Nat.add_comm 1 r,range_succ_eq_map];simp[range'_eq_map_range,Nat.add_assoc,Nat.add_comm 1]
 grind
open Classical in
noncomputable def fA(s:oL):Int:=if Eo s then(if LX s then tU ((List.range s.tables.length).flatMap (vQ s))else 70)else 2
def Ba:Vc.Spec:=λc m h K=>∃v s,c=[aS v]/\iP h s v/\K (cI (fA s)) m h
noncomputable def bmJ(v:bW)(m:MH)(h:PH):Ctx:=
 dG [(154,a8J),(155,a6Z),(139,zT),(156,vC)] [(4,{A:=Nat,st:=λi=>bK 83 84 [(1,.at (.ptr 1 0)),(16,sv v.tables),(17,iv v.tables.len),(18,iv i)] [(1,.cells 43 (v.enc.map .val))] m h}),
  (12,{A:=Nat×PH,st:=λ⟨i,c⟩=>bK 83 84 [(1,.at (.ptr 1 0)),(58,sv v.tables),(59,iv v.tables.len),(60,iv i)] [(1,.cells 43 (v.enc.map .val))] m c}),
  (16,{A:=Nat×Nat×Sl×Sl×PH,st:=λ⟨i,k,ks,d,c⟩=>bK 83 84 [(1,.at (.ptr 1 0)),(7,sv ks),(58,sv v.tables),(59,iv v.tables.len),(60,iv i),(69,sv d),(70,iv d.len),(71,iv k)] [(1,.cells 43 (v.enc.map .val))] m c})] [] [] false
noncomputable def bnZ(v:bW)(m:MH)(h:PH):Ctx:=
 dG [(149,a4Q),(150,ZI),(46,zT),(94,vC)] [(4,{A:=Nat,st:=λi=>bK 96 97 [(1,.at (.ptr 1 0)),(16,sv v.tables),(17,iv v.tables.len),(18,iv i)] [(1,.cells 43 (v.enc.map .val))] m h}),
  (12,{A:=Nat,st:=λi=>bK 96 97 [(1,.at (.ptr 1 0)),(49,iv v.tables.len),(50,iv i)] [(1,.cells 43 (v.enc.map .val))] m h}),
  (18,{A:=Nat,st:=λi=>bK 96 97 [(1,.at (.ptr 1 0)),(60,iv v.tables.len),(61,iv i)] [(1,.cells 43 (v.enc.map .val))] m h}),
  (24,{A:=Nat×PH,st:=λ⟨i,c⟩=>bK 96 97 [(1,.at (.ptr 1 0)),(71,iv v.tables.len),(72,iv i)] [(1,.cells 43 (v.enc.map .val))] m c}),
  (27,{A:=Nat×Nat×Sl×PH,st:=λ⟨i,k,d,c⟩=>bK 96 97 [(1,.at (.ptr 1 0)),(7,iv i),(71,iv v.tables.len),(72,iv i),(80,sv d),(81,iv d.len),(82,iv k)] [(1,.cells 43 (v.enc.map .val))] m c})] [] [] false
abbrev MC(a:(Nat×PH->Prop)->(Nat×PH)->Prop)(b:(Nat×PH->Prop)->(Nat×PH->Nat)->(Nat×PH)->Prop):Prop:=∃(x:Nat×PH->Prop)(d:Nat×PH->Nat),(∃(c:Nat×PH),a x c)/\∀(c:Nat×PH),b x d c
abbrev DD(a:ei)(b:Nat->Nat->Option Value)(c:Sl->PH->Prop):Prop:=Ae (λx d f=>aA (a=bA (cV x) f) (iP b d x) (rK d/\jT (λg e=>dD b e (Ints e g (jS d f)) (c g e))))
noncomputable abbrev yJ(a:Nat×Nat×Sl×Sl×PH):Sl:=a.2.2.2.1
noncomputable abbrev B3(a:Nat×Nat×Sl×Sl×PH):Nat->Nat->Option Value:=a.2.2.2.2
abbrev F1(a:ei)(b:PH)(c:dm->dm->Pred->Prop):Prop:=kQ (λx d=>∃(e:PV),tI (λf g=>∃(j:Pred),aA (a=fD x::dW d (dM e)) (Ints b x f) (aA (Ints b d g) (eA b j e) (c f g j))))
attribute [push_cast] MC DD yJ B3 F1
def Oc(v:bW)(m:MH)(h:PH)(K:dk):Prop:=
  eR (iV v) 8 (K (fQ 2) m h) (kX (λI x=>aA (I x) eY (aA (tC v) (jK v) (aA (aY x) (bM v) (aA (m=m) (h=h) True)))) (λI j x=>FV (I x) x v (λb o y=>aK m h b (bC o x 5) (yR y)/\cH (decide (AY y>8)) (K (fQ 2) m h) (decide (aH y.references>4)) (K (fQ 2) m h) (eR (aH y.checks) 4 (K (fQ 2) m h) (∃(e:Nat),aA (I e) (j e<j x) (aA eY (tC v) (aA (jK v) (aU (aW x 1) e) (aA (bM v) (m=m) (bH h h))))))) (aR v.version 0 (K (fQ 70) m h) (eR v.version 1000 (K (fQ 70) m h) (wG (λn s=>aA (iY (cV v) (cV n)) (iP h s n) (∀(r:Bool),hU (gG r↔Good CZ s.tables) (!r) (K (fQ 70) m h) (wG (λt g=>aA (iY (cV v) (cV t)) (iP h g t) (Good CZ g.tables/\∀(u:Bool),hU (gG u↔Good
 (EF g.tables) g.tables) (!u) (K (fQ 70) m h) (MC (λI1 e=>aA (I1 e) eY (aA (tC v) (jK v) (aA (aY e.1) (bM v) (aA (m=m) (h=e.2) True)))) (λI1 z e=>FV (I1 e) e.1 v (λb o y=>aK m e.2 b (bC o e.1 5) (yR y)/\DD (mF (cV v) e.1) e.2 (λF G=>∃(I2:Nat×Nat×Sl×Sl×PH->Prop)(A:Nat×Nat×Sl×Sl×PH->Nat),(∃(d:Nat×Nat×Sl×Sl×PH),aA (I2 d) eY (aA (bF F d.2.2.1) (tC v) (aA (jK v) (bO e.1 d.1) (aA (bF y.checks (yJ d)) (dA y.checks (yJ d)) (aA (aY d.2.1) (bM v) (aA (m=m) (G=B3 d) True))))))/\∀(d:Nat×Nat×Sl×Sl×PH),I2 d->aR (↑d.2.1:Int) (aH (yJ d)) (bT (λB C=>aA (bX (yJ d).a B C) (0<=(↑d.2.1:Int)) ((↑d.2.1:Int)<aH (yJ d)/\
 ∃(D:PV),aK m (B3 d) B (bC C d.2.1 13) D.enc/\F1 (fD d.2.2.1::bJ nK (dM D)) (B3 d) (λc p E=>fW (iL c p E) 0 (K (fQ (iL c p E)) m (B3 d)) (∃(f:Nat×Nat×Sl×Sl×PH),aA (I2 f) (A f<A d) (aA eY (bF d.2.2.1 f.2.2.1) (aA (aG v.tables) (jK v) (aA (bO d.1 f.1) (bF (yJ d) (yJ f)) (aA (dA (yJ d) (yJ f)) (aU (aW d.2.1 1) f.2.1) (aA (bM v) (m=m) (bH (B3 d) (B3 f)))))))))))) (∃(f:Nat×PH),aA (I1 f) (z f<z e) (aA eY (tC v) (aA (jK v) (aU (aW d.1 1) f.1) (aA (bM v) (m=m) (bH (B3 d) f.2))))))) (K (fQ 0) m e.2)))))))))))))
abbrev MG(a:oL)(b:Nat)(c:zN):Prop:=a.tables[b]? =Option.some c
noncomputable abbrev yK(a:Nat×Nat×Sl×PH):Sl:=a.2.2.1
attribute [push_cast] MG yK
def Od(v:bW)(m:MH)(h:PH)(K:dk):Prop:=
  eR (iV v) 8 (K (fQ 2) m h) (kX (λI x=>aA (I x) eY (aA (tC v) (jK v) (aA (aY x) (bM v) (aA (m=m) (h=h) True)))) (λI z x=>FV (I x) x v (λb o y=>aK m h b (bC o x 5) (yR y)/\cH (decide (AY y>8)) (K (fQ 2) m h) (decide (aH y.references>4)) (K (fQ 2) m h) (eR (aH y.checks) 4 (K (fQ 2) m h) (∃(g:Nat),aA (I g) (z g<z x) (aA eY (tC v) (aA (jK v) (aU (aW x 1) g) (aA (bM v) (m=m) (bH h h))))))) (aR v.version 0 (K (fQ 70) m h) (eR v.version 1000 (K (fQ 70) m h) (kX (λI1 g=>aA (I1 g) eY (aA (jK v) (aY g) (bG (bM v) (m=m) (h=h)))) (λI1 A g=>I1 g->aR (↑g:Int) (aH v.tables) (wG (λn s=>∃(t:zN)(i:Nat),aA (mF (cV v) g=mF (cV n) i) (iP h s n)
 (MG s i t/\∀(r:Bool),(gG r↔CZ (List.take i s.tables) t)->gR (!r) (K (fQ 70) m h) (λj=>aA (I1 j) (A j<A g) (aA eY (jK v) (aA (aU (aW g 1) j) (bM v) (aA (m=m) (h=h) True))))))) (kX (λI2 j=>aA (I2 j) eY (aA (jK v) (aY j) (bG (bM v) (m=m) (h=h)))) (λI2 B j=>I2 j->aR (↑j:Int) (aH v.tables) (wG (λn s=>∃(t:zN)(i:Nat),aA (mF (cV v) j=mF (cV n) i) (iP h s n) (aA (Good CZ s.tables) (MG s i t) (∀(r:Bool),(gG r↔EF s.tables [] t)->gR (!r) (K (fQ 70) m h) (λe=>aA (I2 e) (B e<B j) (aA eY (jK v) (aA (aU (aW j 1) e) (bM v) (aA (m=m) (h=h) True)))))))) (MC (λI3 e=>aA (I3 e) eY (aA (jK v) (aY e.1) (bG (bM v) (m=m) (h=e.2))))
 (λI3 C e=>I3 e->aR (↑e.1:Int) (aH v.tables) (cK (lN v) (↑e.1:Int) v.tables (λb o y=>aK m e.2 b (bC o e.1 5+4) (aM y)/\∃(I4:Nat×Nat×Sl×PH->Prop)(D:Nat×Nat×Sl×PH->Nat),(∃(d:Nat×Nat×Sl×PH),aA (I4 d) eY (aA (bO e.1 d.1) (jK v) (aA (bO e.1 d.1) (bF y (yK d)) (aA (dA y (yK d)) (aY d.2.1) (bG (bM v) (m=m) (e.2=d.2.2.2))))))/\∀(d:Nat×Nat×Sl×PH),I4 d->aR (↑d.2.1:Int) (aH (yK d)) (bT (λE F=>aA (bX (yK d).a E F) (0<=(↑d.2.1:Int)) ((↑d.2.1:Int)<aH (yK d)/\∃(G:PV),aK m d.2.2.2 E (bC F d.2.1 13) G.enc/\DD (mF (cV v) d.1) d.2.2.2 (λs u=>F1 (fD s::bJ nK (dM G)) u (λc p H=>fW (iL c p H) 0 (K (fQ (iL c p H))
 m u) (∃(f:Nat×Nat×Sl×PH),aA (I4 f) (D f<D d) (aA eY (bO d.1 f.1) (aA (jK v) (bO d.1 f.1) (aA (bF (yK d) (yK f)) (dA (yK d) (yK f)) (Aa (aU (aW d.2.1 1) f.2.1) (bM v) (m=m) u f.2.2.2)))))))))) (∃(f:Nat×PH),aA (I3 f) (C f<C e) (aA eY (jK v) (aA (aU (aW d.1 1) f.1) (bM v) (aA (m=m) (d.2.2.2=f.2) True)))))) (K (fQ 0) m e.2)))))))))))
theorem lQ.out{hx:PH}{r:CV}(d:Sub m m')(c:PH.le h hx)(e:K r m h):lQ h K r m' hx:=⟨m,h,d,.refl _,c,e⟩
theorem xJ(h:¬Eo s):fA s=2:=by unfold fA;rw[if_neg h]
theorem Nk(h:Eo s)(h':¬LX s):fA s=70:=by unfold fA;grind
theorem JT(h:Eo s)(h':LX s):fA s=tU ((List.range s.tables.length).flatMap (vQ s)):=by unfold fA;grind
theorem C7{k:Nat}{t:zN}(hx:s.tables[i]? =some t)(c:t.checks[k]? =some p):(vQ s i)[k]? =some (iL (jS s i) [] p):=by
 unfold vQ;grind
theorem Lo{t:zN}(hx:s.tables[i]? =some t):(vQ s i).length=t.checks.length:=by
 unfold vQ;rw[hx];simp
theorem Pt{k:Nat}{e:Int}(c:l[k]? =some e)(h:∀x∈l.take k,x=0)(f:e=0):∀x∈l.take (k+1),x=0:=by
 intro x d;rw[db,c,mem_append]at d
 grind
theorem Ty{f:Nat->dm}{k:Nat}(h:∀j<i,∀x∈f j,x=0)(d:(f i).length<=k)(c:∀x∈(f i).take k,x=0):∀j<i+1,∀x∈f j,x=0:=by
 intro j n x g;by_cases e:j=i
 .subst e;rw[cu d]at c;exact c x g
 grind
theorem Qb:di 90 Ba:=by
 refine Ht func90 ?_;rintro a0 m h K ⟨v,s,rfl,z,hK⟩;refine⟨bmJ v m h,rfl,aD X7 (aD X6 (aD OD (aD OB aF))),Oc v m h (lQ h K),bu,?_⟩;show Oc v m h (lQ h K);dsimp only[Oc,push_cast];have X:=z.tables.slen;have Y:=z.tables.len;have Z:=z.version;have out:∀(g:PH)(x:Int),PH.le h g->fA s=x->lQ h K (.val (.int .i64 x)) m g:=λg x n e=>.out (Sub.refl m) n (by rw[<-e];exact hK);refine aE (λh1=>out h _ (.refl _) (xJ λe=>by have:=e.1;omega)) (λh1=>?_);refine⟨λi=>i<=s.tables.length/\gC (λ_ t=>OU t) s.tables i,λi=>s.tables.length-i,⟨0,⟨aC,.zero⟩,MT⟩,λi⟨hi,hg⟩=>aE (λu=>?_) (λP=>?_)⟩
 .obtain⟨t,g⟩:=eN X u;obtain⟨b,o,w,Q,C,c⟩:=z.tables.at g;have e1:=aZ.slen c.columns;have e2:=aZ.slen c.refs;have e3:=aZ.slen c.checks;have d:¬OU t->lQ h K (.val (.int .i64 2)) m h:=λR=>out h _ (.refl _) (xJ λe=>Good.not g R e.2);refine⟨b,o,Q,aC,u,w,.imm C,aE (λS=>d λe=>?_) (λS=>aE (λT=>d λe=>?_) (λT=>aE (λJ=>d λe=>?_) (λJ=>⟨i+1,⟨aC,hg.succ g ⟨aC,aC,aC⟩⟩,cg,MT⟩)))⟩
  .have:=e.1;omega
  .have:=e.2.1;omega
  .have:=e.2.2;omega
 have D:Eo s:=⟨aC,hg.all aC⟩
 have h8:rK s:=λt I=>by
  obtain⟨j,hj⟩:=mem_iff_getElem?.1 I;exact(D.2 j t hj).1
 have d:¬LX s->lQ h K (.val (.int .i64 70)) m h:=λR=>out h _ (.refl _) (Nk D R);refine aE (λS=>d λe=>?_) (λS=>aE (λT=>d λe=>?_) (λT=>⟨v,s,rfl,z,λr C=>aB (λJ=>d λe=>?_) (λJ=>⟨v,s,rfl,z,C.1 cg,λr2 L=>aB (λU=>d λe=>?_) (λU=>?_)⟩)⟩))
 .have:=e.1;omega
 .have:=e.2.1;omega
 .rw[C.2 e.2.2.1]at J;cases J
 .rw[L.2 e.2.2.2]at U;cases U
 have ok:LX s:=⟨aC,aC,C.1 cg,L.1 cg⟩
 rw[JT D ok]at out;refine⟨λ⟨i,g⟩=>i<=s.tables.length/\PH.le h g/\∀j<i,∀x∈vQ s j,x=0,λ⟨i,_⟩=>s.tables.length-i,⟨(0,h),⟨aC,.refl _,λj hj=>by omega⟩,MT⟩,?_⟩;rintro⟨i,g⟩ ⟨hi,n,hz⟩;dsimp only;refine aE (λu=>?_) (λP=>out g _ n (CD _ λe he=>?_))
 .obtain⟨t,I⟩:=eN X u;obtain⟨b,o,w,Q,C,c⟩:=(z.mono n).tables.at I;have cl:=aZ.slen c.checks;have cb:=aZ.len c.checks;refine⟨b,o,Q,aC,u,w,.imm C,v,s,i,rfl,z.mono n,h8,λsl h' A E=>?_⟩;refine⟨λ⟨i',k,ks,cs,F⟩=>i'=i/\cs=w.checks/\k<=t.checks.length/\PH.le h' F/\Ints F ks (jS s i)/\∀x∈(vQ s i).take k,x=0,λ⟨_,k,_,_,_⟩=>t.checks.length-k,⟨(i,0,sl,w.checks,h'),⟨rfl,rfl,aC,.refl _,E,λx g=>by simp at g⟩,MT⟩,?_⟩;rintro⟨i,k,ks,_,F⟩ ⟨rfl,rfl,hk,y,f,G⟩;dsimp only;have M:PH.le h F:=(n.trans A).trans y;refine aE (λB=>?_) (λa'=>⟨(i+1,F),⟨aC,M,Ty hz (k:=k) (by rw[Lo I];omega) G⟩,aC,MT⟩);obtain⟨p,V⟩:=eN cl B;obtain⟨b2,o2,pv,W,O,H⟩:=((c.checks.mono A).mono y).at V;refine⟨b2,o2,W,aC,B,pv,.imm O,ks,⟨none,0,0⟩,pv,jS s i,[],p,rfl,f,⟨.nil _ _,bx⟩,H,aB (λh6=>?_) (λh6=>?_)⟩
  .exact out F _ M (LJ aC hz G (C7 I V) cg)
  .exact⟨(i,k+1,ks,w.checks,F),⟨rfl,rfl,cg,y,f,Pt (C7 I V) G cg⟩,cg,MT⟩
 .grind
theorem Qd:di 86 Ba:=by
 refine Ht func86 ?_;rintro a1 m h K ⟨v,s,rfl,D,hK⟩;refine⟨bnZ v m h,rfl,aD X9 (aD X8 (aD GC (aD Kn aF))),Od v m h (lQ h K),bu,?_⟩;show Od v m h (lQ h K);dsimp only[Od,push_cast];have R:=D.tables.slen;have Z:=D.tables.len;have a':=D.version;have out:∀(c:PH)(x:Int),PH.le h c->fA s=x->lQ h K (.val (.int .i64 x)) m c:=λc x u e=>.out (Sub.refl m) u (by rw[<-e];exact hK);refine aE (λh1=>out h _ (.refl _) (xJ λe=>by have:=e.1;omega)) (λh1=>?_);refine⟨λi=>i<=s.tables.length/\gC (λ_ t=>OU t) s.tables i,λi=>s.tables.length-i,⟨0,⟨aC,.zero⟩,MT⟩,λi⟨O,y⟩=>aE (λf=>?_) (λn=>?_)⟩
 .obtain⟨t,c⟩:=eN R f;obtain⟨b,o,w,T,B,d⟩:=D.tables.at c;have e1:=aZ.slen d.columns;have e2:=aZ.slen d.refs;have e3:=aZ.slen d.checks;have g:¬OU t->lQ h K (.val (.int .i64 2)) m h:=λU=>out h _ (.refl _) (xJ λe=>Good.not c U e.2);refine⟨b,o,T,aC,f,w,.imm B,aE (λV=>g λe=>?_) (λV=>aE (λW=>g λe=>?_) (λW=>aE (λC=>g λe=>?_) (λC=>⟨i+1,⟨aC,y.succ c ⟨aC,aC,aC⟩⟩,cg,MT⟩)))⟩
  .have:=e.1;omega
  .have:=e.2.1;omega
  .have:=e.2.2;omega
 have G:Eo s:=⟨aC,y.all aC⟩
 have h8:rK s:=λt P=>by
  obtain⟨j,hj⟩:=mem_iff_getElem?.1 P;exact(G.2 j t hj).1
 have g:¬LX s->lQ h K (.val (.int .i64 70)) m h:=λU=>out h _ (.refl _) (Nk G U);refine aE (λV=>g λe=>?_) (λV=>aE (λW=>g λe=>?_) (λW=>?_))
 .have:=e.1;omega
 .have:=e.2.1;omega
 clear O y n;refine⟨λi=>i<=s.tables.length/\gC CZ s.tables i,λi=>s.tables.length-i,⟨0,⟨aC,.zero⟩,MT⟩,λi⟨O,y⟩=>aE (λf=>?_) (λn=>?_)⟩
 .obtain⟨t,c⟩:=eN R f;refine⟨v,s,t,i,rfl,D,c,λr B=>aB (λC=>g λe=>?_) (λC=>⟨i+1,⟨aC,y.succ c (B.1 cg)⟩,cg,MT⟩)⟩;rw[B.2 (e.2.2.1 i t c)]at C;cases C
 have E:=y.all aC;clear O y n;refine⟨λi=>i<=s.tables.length/\gC (EF s.tables) s.tables i,λi=>s.tables.length-i,⟨0,⟨aC,.zero⟩,MT⟩,λi⟨O,y⟩=>aE (λf=>?_) (λn=>?_)⟩
 .obtain⟨t,c⟩:=eN R f;refine⟨v,s,t,i,rfl,D,E,c,λr B=>aB (λC=>g λe=>?_) (λC=>⟨i+1,⟨aC,y.succ c (B.1 cg)⟩,cg,MT⟩)⟩;rw[B.2 (e.2.2.2 i t c)]at C;cases C
 have H:=y.all aC;clear O y n;have ok:LX s:=⟨aC,aC,E,H⟩
 rw[JT G ok]at out;refine⟨λ⟨i,c⟩=>i<=s.tables.length/\PH.le h c/\∀j<i,∀x∈vQ s j,x=0,λ⟨i,_⟩=>s.tables.length-i,⟨(0,h),⟨aC,.refl _,λj hj=>by omega⟩,MT⟩,?_⟩;rintro⟨i,c⟩ ⟨O,u,hz⟩;dsimp only;refine aE (λf=>?_) (λn=>out c _ u (CD _ λe he=>?_))
 .obtain⟨t,P⟩:=eN R f;obtain⟨b,o,w,T,B,d⟩:=(D.mono u).tables.at P;have cl:=aZ.slen d.checks;have cb:=aZ.len d.checks;refine⟨b,o,T,aC,f,w.checks,.imm (bB.part B 4 1),?_⟩;refine⟨λ⟨i',k,cs,S⟩=>i'=i/\cs=w.checks/\k<=t.checks.length/\PH.le c S/\∀x∈(vQ s i).take k,x=0,λ⟨_,k,_,_⟩=>t.checks.length-k,⟨(i,0,w.checks,c),⟨rfl,rfl,aC,.refl _,λx c=>by simp at c⟩,MT⟩,?_⟩;rintro⟨i,k,_,S⟩ ⟨rfl,rfl,hk,z,I⟩;dsimp only;have J:PH.le h S:=u.trans z;refine aE (λF=>?_) (λa0=>⟨(i+1,S),⟨aC,J,Ty hz (k:=k) (by rw[Lo P];omega) I⟩,aC,MT⟩);obtain⟨p,X⟩:=eN cl F;obtain⟨b2,o2,pv,Y,Q,L⟩:=(d.checks.mono z).at X;refine⟨b2,o2,Y,aC,F,pv,.imm Q,v,s,i,rfl,D.mono J,h8,λsl h' A M=>⟨sl,⟨none,0,0⟩,pv,jS s i,[],p,rfl,M,⟨.nil _ _,bx⟩,L.mono A,aB (λh6=>?_) (λh6=>?_)⟩⟩
  .exact out h' _ (J.trans A) (LJ aC hz I (C7 P X) cg)
  .exact⟨(i,k+1,w.checks,h'),⟨rfl,rfl,cg,z.trans A,Pt (C7 P X) I cg⟩,cg,MT⟩
 .grind
mutual
def oP:Query->Int->Int
 |.mk _ _ _ _ _ _ _ _ args,n=>kT args (n+1)
def kT:dt->Int->Int
 |[],n=>n
 |p::ps,n=>if n<=24 then kT ps (oP p n)else n
end
mutual
def nJ:Query->Nat->Bool
 |.mk _ _ _ _ _ _ _ _ _,0=>true
 |.mk _ _ _ _ _ _ _ _ args,n+1=>tW args n
def tW:dt->Nat->Bool
 |[],_=>false
 |p::ps,n=>nJ p n||tW ps n
end
mutual
theorem Dg:∀(p:Query)(n:Int),n<=24->n<oP p n/\oP p n<=25
 |.mk _ _ _ _ _ _ _ _ args,n,h=>by
  have:=G1 args (n+1) aC;simp only[oP];omega
theorem G1:∀(ps:dt)(n:Int),n<=25->n<=kT ps n/\kT ps n<=25
 |[],n,h=>by simp only[kT];omega
 |p::ps,n,h=>by
  simp only[kT];split
  .rename_i c;have d:=Dg p n c;have e:=G1 ps (oP p n) d.2;omega
  .omega
end
theorem Sq(ps:dt){n:Int}(h:¬n<=24):kT ps n=n:=by
 cases ps
 .simp[kT]
 .simp only[kT,if_neg h]
theorem Jx(n:Nat):∀ps:dt,tW ps n=ps.any (nJ · n)
 |[]=>by simp[tW]
 |p::ps=>by simp[tW,Jx n ps]
theorem bR.args{p:Query}(r:bR h p v):Cn h v.args p.args:=by
 cases p;exact r.parts.args_
def uQ(q:Query):Bool:=decide (oP q 0<=24)&& !nJ q 8
def arity(op:Int):Int:=
 if op==1 then 0 else if op==2||op==3||op==9 then 1 else if op==4||op==5||op==6||op==7||op==8||op==10 then 2 else-1
def Tj(N:Nat):Vc.Spec:=λc m h K=>∃v p k,c=[aQ v,cI k,cI 24]/\bR h p v/\SizeOf.sizeOf p<N/\0<=k/\k<=24/\K (cI (oP p k)) m h
def O8(N:Nat):Vc.Spec:=λc m h K=>∃v p,∃k:Nat,c=[aQ v,cI k]/\bR h p v/\SizeOf.sizeOf p<N/\k<=100/\K (cB (nJ p k)) m h
def ZB:Vc.Spec:=λc m h K=>∃v p,c=[aQ v]/\bR h p v/\K (cB (uQ p)) m h
def YM:Vc.Spec:=λc m h K=>∃op,c=[cI op]/\K (cI (arity op)) m h
def HQ(l:dm)(n:Int):Bool:=decide (0<=n)&&decide (n<l.length)
def InS:Vc.Spec:=λc m h K=>∃s l n,c=[cS s,cI n]/\Ints h s l/\K (cB (HQ l n)) m h
noncomputable def aVJ(N:Nat)(v:QV)(m:MH)(h:PH):Ctx:=
 dG [(152,Tj N)] [(3,{A:=Nat×Int,st:=λx=>bK 31 34 [(1,iv x.2),(2,iv 24),(3,.at (.ptr 3 0)),(7,iv x.1)] [(3,.cells 38 (v.enc.map .val))] m h})] [] [] false
noncomputable def aVZ(N:Nat)(v:QV)(k:Nat)(m:MH)(h:PH):Ctx:=
 dG [(153,O8 N)] [(4,{A:=Nat,st:=λi=>bK 23 25 [(1,iv k),(2,.at (.ptr 2 0)),(10,iv v.args.len),(11,iv i)] [(2,.cells 38 (v.enc.map .val))] m h})] [] [] false
noncomputable abbrev sY(a:QV):Option Go.Vc.Own:=Ey 38 a.enc
abbrev cG(a:QV):Prop:=eQ (sY a)
attribute [push_cast] sY cG
def Rp(N:Nat)(v:QV)(k:Int)(m:MH)(h:PH)(K:dk):Prop:=
  ∃(I:Nat×Int->Prop)(e:Nat×Int->Nat),(∃(x:Nat×Int),aA (I x) (dQ (iJ (k+1)) x.2) (aA (jR 24) cA (aA (aY x.1) (cG v) (aA (m=m) (h=h) True))))/\∀(x:Nat×Int),I x->aR (↑x.1:Int) (aH v.args) (Cs x.2 24 (bT (λb o=>aA (bX v.args.a b o) (0<=(↑x.1:Int)) ((↑x.1:Int)<aH v.args/\∃(y:QV),aK m h b (bC o x.1 21) y.enc/\jD (λf p=>∃(c:Int),aA (dE y::bA (fQ x.2) 24=dE f::bA (fQ c) 24) (bR h p f) (aA (lX p N) (cC c) (c<=24/\∃(d:Nat×Int),aA (I d) (e d<e x) (aA (dQ (oP p c) d.2) (jR 24) (aA cA (aU (aW x.1 1) d.1) (aA (cG v) (m=m) (bH h h)))))))))) (K (fQ x.2) m h)) (K (fQ x.2) m h)
abbrev rP(a:QV):Prop:=a7 a.args
attribute [push_cast] rP
def Ro(N:Nat)(v:QV)(k:Nat)(m:MH)(h:PH)(K:dk):Prop:=
  dJ (↑k:Int) 0 (K eW m h) (kX (λI x=>aA (I x) (eQ (vK k)) (aA dX (rP v) (aA (aY x) (cG v) (aA (m=m) (h=h) True)))) (λI e x=>I x->aR (↑x:Int) (aH v.args) (bT (λb o=>aA (bX v.args.a b o) (0<=(↑x:Int)) ((↑x:Int)<aH v.args/\∃(y:QV),aK m h b (bC o x 21) y.enc/\jD (λf p=>∃(c:Nat),aA (bA (dE y) (iJ ((↑k:Int)-1))=mF (dE f) c) (bR h p f) (aA (lX p N) (c<=100) (gR (nJ p c) (K eW m h) (λd=>aA (I d) (e d<e x) (aA (eQ (vK k)) dX (aA (rP v) (aU (aW x 1) d) (aA (cG v) (m=m) (bH h h))))))))))) (K aX m h)))
def UM(N:Nat)(v:QV)(m:MH)(h:PH)(K:dk):Prop:=
  jD (λe p=>∃(k:Int),aA (dE v::bA (fQ 0) 24=dE e::bA (fQ k) 24) (bR h p e) (aA (lX p N) (cC k) (iX (k<=24) (decide (oP p k<=24)) (jD (λf c=>∃(d:Nat),aA (bA (dE v) 8=mF (dE f) d) (bR h c f) (aA (lX c N) (d<=100) (K (CV.val (Value.bool (!(nJ c d)))) m h)))) (K aX m h))))
def Rv(op:Int)(m:MH)(h:PH)(K:dk):Prop:=
  cH (op==1) (K (fQ 0) m h) (op==2) (K (fQ 1) m h) (cH (op==3) (K (fQ 1) m h) (op==9) (K (fQ 1) m h) (cH (op==4) (K (fQ 2) m h) (op==5) (K (fQ 2) m h) (cH (op==6) (K (fQ 2) m h) (op==7) (K (fQ 2) m h) (cH (op==8) (K (fQ 2) m h) (op==10) (K (fQ 2) m h) (K (fQ (Int.negSucc 0)) m h)))))
def Q3(s:Sl)(n:Int)(m:MH)(h:PH)(K:dk):Prop:=
  fY n 0 (K (zU (decide (n<aH s))) m h) (K aX m h)
theorem Vr:∀N,di 152 (Tj N)
 |0=>by
  refine eC (fn:=Tryz.f152) (c:=cL Tryz.f152) func152 rfl bz ?_;rintro y m h K ⟨v,p,k,rfl,D,F,_⟩;omega
 |N+1=>by
  refine gO func152 ?_;rintro y m h K ⟨v,p,k,rfl,D,F,J,L,E⟩;refine⟨aVJ N v m h,rfl,aD (Vr N) aF,Rp N v k m h K,bu,?_⟩;dsimp only[Rp,push_cast];have d:=D.args;have e:=d.slen;have M:=d.len;refine⟨λx=>x.1<=p.args.length/\0<=x.2/\x.2<=25/\kT (p.args.drop x.1) x.2=oP p k,λx=>p.args.length-x.1,⟨(0,k+1),⟨bx,ce,ce,?_⟩,?_⟩,?_⟩
  .cases p;simp[oP,Query.args]
  .rw[dR aC aC];exact MT
  rintro⟨i,n⟩ ⟨G,f,z,g⟩;dsimp only at G f z g⊢
  refine aE (λj=>aE (λt=>?_) (λt=>Aw E ?_)) (λH=>Aw E ?_)
  .obtain⟨q,A⟩:=eN e j;obtain⟨b,o,u,I,B,C⟩:=d.at A;have O:=Dg q n t;rw[drop_cons A,kT,if_pos t]at g;refine⟨b,o,I,aC,j,u,.imm B,u,q,n,rfl,C,?_,f,t,(i+1,oP q n),⟨aC,aC,aC,g⟩,aC,MT⟩;have:=tQ (cr A);omega
  .rw[<-g,Sq _ t]
  .rw[<-g,drop_of_length_le aC];simp[kT]
theorem Vq:∀N,di 153 (O8 N)
 |0=>by
  refine eC (fn:=Tryz.f153) (c:=cL Tryz.f153) func153 rfl bz ?_;rintro j m h K ⟨v,p,k,rfl,A,D,_⟩;omega
 |N+1=>by
  refine gO func153 ?_;rintro j m h K ⟨v,p,k,rfl,A,D,I,g⟩;refine⟨aVZ N v k m h,rfl,aD (Vq N) aF,Ro N v k m h K,bu,?_⟩;dsimp only[Ro,push_cast];have d:=A.args;have e:=d.slen;have J:=d.len;refine aB (λB=>jH g ?_) (λB=>?_)
  .have:k=0:=cg
   subst this;cases p;simp[nJ]
  .have B:k≠0:=cg
   have n:nJ p k=p.args.any (nJ · (k-1)):=by
    obtain⟨C,rfl⟩:∃C,k=C+1:=⟨k-1,aC⟩
    cases p;simp[nJ,Jx,Query.args]
   rw[n]at g;refine⟨λi=>i<=p.args.length/\(p.args.take i).any (nJ · (k-1))=false,λi=>p.args.length-i,⟨0,⟨aC,bx⟩,MT⟩,λi E=>aE (λf=>?_) (λF=>jH g ?_)⟩
   .obtain⟨q,t⟩:=eN e f;obtain⟨b,o,u,G,y,z⟩:=d.at t;refine⟨b,o,G,aC,f,u,.imm y,u,q,k-1,?_,z,?_,aC,aB (λH=>jH g ?_) (λH=>?_)⟩
    .rw[dR aC aC,show((k-1:Nat):Int)=(k:Int)-1 by omega]
    .have:=tQ (cr t);omega
    .grind
    .refine⟨i+1,⟨aC,?_⟩,cg,MT⟩;rw[db,any_append,E.2,t];grind
   grind
theorem ahJ:di 88 ZB:=by
 refine gO func88 ?_;rintro f m h K ⟨v,p,rfl,d,e⟩;refine⟨dG [(152,Tj (SizeOf.sizeOf p+1)),(153,O8 (SizeOf.sizeOf p+1))] [] [] [] false,rfl,aD (Vr _) (aD (Vq _) aF),UM (SizeOf.sizeOf p+1) v m h K,bu,?_⟩;dsimp only[UM,push_cast];refine⟨v,p,0,rfl,d,aC,aC,aC,aB (λc=>⟨v,p,8,rfl,d,aC,aC,jH e ?_⟩) (λc=>jH e ?_)⟩
 .simp only[uQ,c,Bool.true_and]
 .simp only[uQ,c,Bool.false_and]
theorem OE:di 128 YM:=by
 refine gO func128 ?_;rintro d m h K ⟨op,rfl,c⟩;refine⟨dG [] [] [] [] false,rfl,aF,Rv op m h K,bu,?_⟩;dsimp only[Rv,push_cast]
 repeat' (first|(refine aB (λ_=>?_) (λ_=>?_))|(refine Aw c ?_;simp only[arity];simp only[*,Bool.or_false,Bool.false_or,Bool.or_true,Bool.true_or,Bool.and_true,Bool.true_and,Bool.and_false,Bool.false_and,Bool.not_true,Bool.not_false,Bool.false_eq_true,if_true,if_false, ↓reduceIte];done)|(refine Aw c ?_;simp only[arity];grind))
theorem Hv:di 197 InS:=by
 refine gO func197 ?_;rintro e m h K ⟨s,l,n,rfl,f,d⟩;refine⟨dG [] [] [] [] false,rfl,aF,Q3 s n m h K,bu,?_⟩;dsimp only[Q3,push_cast];have g:=f.slen;refine aE (λc=>jH d ?_) (λc=>jH d ?_)
 .have c:0<=n:=c;simp only[HQ,g,decide_eq_true c,Bool.true_and]
 .have c:¬0<=n:=by omega
  simp only[HQ,decide_eq_false c,Bool.false_and]
def Au(a b:dm)(c:dp)(p:Int×Int):Prop:=HQ a p.1=true/\HQ b p.2=true/\a.getD p.1.toNat 0=b.getD p.2.toNat 0/\∀q∈c,q.1≠p.1/\q.2≠p.2
def Lh(a:dm)(d:dm)(c:Int):Prop:=HQ a c=true/\c∉d
def O2(a:dm)(_:dr)(o:Int×Bool):Prop:=HQ a o.1=true
structure vB(a:dm)(group:dm)(order:dr)(limit:Int):Prop where
 group_:Good (Lh a) group
 order_:Good (O2 a) order
 len_:order.length<=12
 low:0<=limit
 high:limit<=100
def ZM:Vc.Spec:=λc m h K=>∃s t u on a b,c=[cS s,cS t,cS u]/\lE h s on/\Ints h t a/\Ints h u b/\∀r:Bool,(r=true↔Good (Au a b) on)->K (cB r) m h
def ZJ:Vc.Spec:=λc m h K=>∃v t g o a,c=[aQ v,cS t]/\Ints h v.group g/\jU h v.order o/\Ints h t a/\∀r:Bool,(r=true↔vB a g o v.limit)->K (cB r) m h
noncomputable def aRX(s t u:Sl)(m:MH)(h:PH):Ctx:=
 dG [(197,InS)] [(2,{A:=Nat,st:=λi=>bK 66 69 [(0,sv s),(1,sv t),(2,sv u),(10,sv s),(11,iv s.len),(12,iv i)] [] m h}),
  (7,{A:=Nat×Nat×(Int×Int),st:=λ⟨i,k,p⟩=>bK 66 69 [(0,sv s),(1,sv t),(2,sv u),(7,iv i),(8,.at (.ptr 8 0)),(9,iv k),(10,sv s),(11,iv s.len),(12,iv i)] [(8,.cells 101 [.val (.int .i64 p.1),.val (.int .i64 p.2)])] m h})] [] [] false
noncomputable def aRQ(v:QV)(t:Sl)(m:MH)(h:PH):Ctx:=
 dG [(197,InS)] [(2,{A:=Nat,st:=λi=>bK 62 64 [(1,sv t),(2,.at (.ptr 2 0)),(11,sv v.group),(12,iv v.group.len),(13,iv i)] [(2,.cells 38 (v.enc.map .val))] m h}),
  (7,{A:=Nat×Nat×Int,st:=λ⟨i,k,c⟩=>bK 62 64 [(1,sv t),(2,.at (.ptr 2 0)),(5,iv i),(6,iv c),(7,iv k),(11,sv v.group),(12,iv v.group.len),(13,iv i)] [(2,.cells 38 (v.enc.map .val))] m h}),
  (13,{A:=Nat,st:=λi=>bK 62 64 [(1,sv t),(2,.at (.ptr 2 0)),(36,sv v.order),(37,iv v.order.len),(38,iv i)] [(2,.cells 38 (v.enc.map .val))] m h})] [] [] false
abbrev Is(a:Sl)(b:Int)(c:Nat->Nat->Option Value)(d e:Prop):Prop:=Cx (λx f=>∃(g:Int),aA (bA (fD a) b=bA (fD x) g) (Ints c x f) (branch (!(HQ f g)) d e))
abbrev eZ:Prop:=eP 8
abbrev DM(a b:dz):Prop:=oQ 101 a=oQ 101 b
noncomputable abbrev uE(a:Int×Int):dz:=mO (iG a.1) (iG a.2)
attribute [push_cast] Is eZ DM uE
def Q1(s t u:Sl)(m:MH)(h:PH)(K:dk):Prop:=
  kX (λI x=>aA (I x) (aG s) (aA (aG t) (aG u) (aA (aG s) (a7 s) (aA (aY x) (m=m) (bH h h))))) (λI e x=>I x->aR (↑x:Int) (aH s) (bT (λb o=>aA (bX s.a b o) (0<=(↑x:Int)) ((↑x:Int)<aH s/\∃(y:Int×Int),aA (aK m h b (bC o x 2) (wO y)) ((0:Int)<=0) ((0:Int)<2/\Is t y.1 h (K aX m h) (aA (cC 1) ((1:Int)<2) (Is u y.2 h (K aX m h) (aA (cC 0) ((0:Int)<2) (eU t.a 0 y.1 t (λE F f=>aA (aK m h E (cF F y.1 1) (cO f)) ((0:Int)<=1) ((1:Int)<2/\eU u.a 0 y.2 u (λG H g=>aK m h G (cF H y.2 1) (cO g)/\fW f g (K aX m h) (∃(I1:Nat×Nat×Int×Int->Prop)(j:Nat×Nat×Int×Int->Nat),(∃(c:Nat×Nat×Int×Int),aA (I1 c) (aG s) (aA (aG t) (aG u) (aA (bO x c.1)
 eZ (aA (aY c.2.1) (aG s) (aA (a7 s) (bO x c.1) (aA (DM (uE y) (uE c.2.2)) (m=m) (bH h h)))))))/\∀(c:Nat×Nat×Int×Int),I1 c->aR (↑c.2.1:Int) (↑c.1:Int) (bT (λn z=>aA (bX s.a n z) (cC (↑c.2.1:Int)) (aA ((↑c.2.1:Int)<aH s) (cC 0) ((0:Int)<2/\∃(A:Int),aA (aK m h n (cZ (bC z c.2.1 2)) (cO A)) ((0:Int)<=0) ((0:Int)<2/\dJ A c.2.2.1 (K aX m h) (bT (λB C=>aA (bX s.a B C) (cC (↑c.2.1:Int)) (aA ((↑c.2.1:Int)<aH s) (cC 1) ((1:Int)<2/\∃(D:Int),aA (aK m h B (cE (bC C c.2.1 2)) (cO D)) ((0:Int)<=1) ((1:Int)<2/\dJ D c.2.2.2 (K aX m h) (∃(d:Nat×Nat×Int×Int),aA (I1 d) (j d<j c) (aA (aG s) (aG t) (aA (aG u) (bO c.1 d.1) (aA
 eZ (aU (aW c.2.1 1) d.2.1) (aA (aG s) (a7 s) (aA (bO c.1 d.1) (DM (uE c.2.2) (uE d.2.2)) (bE (m=m) h h))))))))))))))))) (∃(d:Nat),aA (I d) (e d<e x) (aA (aG s) (aG t) (aA (aG u) (aG s) (aA (a7 s) (aU (aW c.1 1) d) (bE (m=m) h h))))))))))))))))) (K eW m h))
def QZ(v:QV)(t:Sl)(m:MH)(h:PH)(K:dk):Prop:=
  kX (λI x=>aA (I x) (aG t) (aA dX (aG v.group) (aA (a7 v.group) (aY x) (aA (cG v) (m=m) (bH h h))))) (λI f x=>I x->aR (↑x:Int) (aH v.group) (eU v.group.a 0 (↑x:Int) v.group (λb o y=>aK m h b (bC o x 1) (cO y)/\Is t y h (K aX m h) (∃(I1:Nat×Nat×Int->Prop)(e:Nat×Nat×Int->Nat),(∃(c:Nat×Nat×Int),aA (I1 c) (aG t) (aA dX (bO x c.1) (aA (dQ y c.2.2) (aY c.2.1) (aA (aG v.group) (a7 v.group) (aA (bO x c.1) (cG v) (aA (m=m) (h=h) True))))))/\∀(c:Nat×Nat×Int),I1 c->aR (↑c.2.1:Int) (↑c.1:Int) (eU v.group.a 0 (↑c.2.1:Int) v.group (λj u g=>aK m h j (bC u c.2.1 1) (cO g)/\dJ g c.2.2 (K aX m h) (∃(d:Nat×Nat×Int),aA (I1 d) (e d<e c) (aA (aG t) dX
 (aA (bO c.1 d.1) (dQ c.2.2 d.2.2) (aA (aU (aW c.2.1 1) d.2.1) (aG v.group) (aA (a7 v.group) (bO c.1 d.1) (aA (cG v) (m=m) (bH h h))))))))) (∃(d:Nat),aA (I d) (f d<f x) (aA (aG t) dX (aA (aG v.group) (a7 v.group) (aA (aU (aW c.1 1) d) (cG v) (bE (m=m) h h)))))))) (kX (λI1 c=>aA (I1 c) (aG t) (aA dX (aG v.order) (aA (a7 v.order) (aY c) (aA (cG v) (m=m) (bH h h))))) (λI1 e c=>I1 c->aR (↑c:Int) (aH v.order) (bT (λb o=>aA (bX v.order.a b o) (0<=(↑c:Int)) ((↑c:Int)<aH v.order/\∃(y:Int×Bool),aK m h b (bC o c 2) (AS y)/\Cx (λs l=>∃(n:Int),aA (bA (fD t) y.1=bA (fD s) n) (Ints h s l) (gR (!(HQ l n)) (K aX m h) (λd=>aA (I1 d) (e d<e c) (aA
 (aG t) dX (aA (aG v.order) (a7 v.order) (aA (aU (aW c 1) d) (cG v) (bE (m=m) h h)))))))))) (Cs (aH v.order) 12 (fY v.limit 0 (K (zU (decide (v.limit<=100))) m h) (K aX m h)) (K aX m h)))))
theorem NQ{α:Type}{l:List α}{k:Nat}{x:α}(hx:l[i]? =some x)(c:i<k):x∈l.take k:=mem_of_getElem? (i:=i) cg
theorem TI{α:Type}{l:List α}{x y:α}(hx:l[i]? =some x)(c:y∈l.take (i+1)):y∈l.take i\/y=x:=by
 rw[db,hx,mem_append]at c
 grind
theorem kV{n:Int}:HQ l n=true↔0<=n/\n<l.length:=by simp[HQ]
theorem XL:di 198 ZM:=by
 refine gO func198 ?_;rintro T m h K ⟨s,t,u,on,a,b,rfl,o,y,z,G⟩;refine⟨aRX s t u m h,rfl,aD Hv aF,Q1 s t u m h K,bu,?_⟩;dsimp only[Q1,push_cast];have U:=o.slen;have H:=o.len;have ta:=y.slen;have ub:=z.slen;refine⟨λi=>i<=on.length/\gC (Au a b) on i,λi=>on.length-i,⟨0,⟨aC,.zero⟩,MT⟩,λi⟨hi,I⟩=>aE (λg=>?_) (λV=>G true ⟨λ_=>I.all aC,λ_=>rfl⟩)⟩;obtain⟨p,A⟩:=eN U g;obtain⟨W,X,Y,Z⟩:=o.at A;have c:¬Au a b (on.take i) p->K (.val (.bool false)) m h:=λhn=>G false ⟨λe=>(by cases e),λe=>(Good.not A hn e).elim⟩;refine⟨W,X,Y,aC,g,p,.imm Z,aC,aC,t,a,p.1,rfl,y,aB (λB=>c λd=>?_) (λB=>⟨aC,aC,u,b,p.2,rfl,z,aB (λC=>c λd=>?_) (λC=>?_)⟩)⟩
 .rw[d.1]at B;cases B
 .rw[d.2.1]at C;cases C
 have J:HQ a p.1=true:=cg
 have L:HQ b p.2=true:=cg
 have j:=kV.1 J;have n:=kV.1 L;obtain⟨b2,o2,e2,r2⟩:=y.inb j.1 j.2;obtain⟨b3,o3,e3,r3⟩:=z.inb n.1 n.2;refine⟨aC,aC,b2,o2,e2,aC,aC,_,.imm r2,aC,aC,b3,o3,e3,aC,aC,_,.imm r3,aB (λD=>c λd=>?_) (λD=>?_)⟩
 .rw[d.2.2.1]at D;simp at D
 refine⟨λ⟨i',k,p'⟩=>i'=i/\p'=p/\k<=i/\∀q∈on.take k,q.1≠p.1/\q.2≠p.2,λ⟨_,k,_⟩=>i-k,⟨(i,0,p),⟨rfl,rfl,aC,λq f=>by simp at f⟩,MT⟩,?_⟩;rintro⟨i,k,p⟩ ⟨rfl,rfl,hk,E⟩;dsimp only;refine aE (λM=>?_) (λO=>?_)
 .obtain⟨q,f⟩:∃q,on[k]? =some q:=⟨on[k]'(by omega),cq _⟩
  obtain⟨P,Q,R,S⟩:=o.at f;refine⟨P,Q,R,aC,aC,aC,aC,q.1,.imm (bB.part S 0 1),aC,aC,aB (λh4=>c λd=>?_) (λh4=>⟨P,Q,R,aC,aC,aC,aC,q.2,.imm (bB.part S 1 1),aC,aC,aB (λh5=>c λd=>?_) (λh5=>?_)⟩)⟩
  .exact(d.2.2.2 q (NQ f aC)).1 cg
  .exact(d.2.2.2 q (NQ f aC)).2 cg
  .refine⟨(i,k+1,p),⟨rfl,rfl,cg,λq' F=>?_⟩,cg,MT⟩;rcases TI f F with e|rfl
   .grind
   grind
 .have:k=i:=by omega
  subst this;exact⟨k+1,⟨aC,I.succ A ⟨J,L,cg,E⟩⟩,aC,MT⟩
theorem XK:di 199 ZJ:=by
 refine gO func199 ?_;rintro W m h K ⟨v,t,g,o,a,rfl,D,E,M,O⟩;refine⟨aRQ v t m h,rfl,aD Hv aF,QZ v t m h K,bu,?_⟩;dsimp only[QZ,push_cast];have X:=D.slen;have P:=D.len;have Y:=E.slen;have Q:=E.len;have d:¬vB a g o v.limit->K (.val (.bool false)) m h:=λZ=>O false ⟨λe=>(by cases e),λe=>(Z e).elim⟩;refine⟨λi=>i<=g.length/\gC (Lh a) g i,λi=>g.length-i,⟨0,⟨aC,.zero⟩,MT⟩,λi⟨R,y⟩=>aE (λf=>?_) (λz=>?_)⟩
 .obtain⟨c,u⟩:=eN X f;obtain⟨F,G,H,I⟩:=D.at' u;refine⟨F,G,H,aC,f,c,.imm I,t,a,c,rfl,M,aB (λj=>d λn=>Good.not u (λA=>?_) n.group_) (λj=>?_)⟩
  .rw[A.1]at j;cases j
  refine⟨λ⟨i',k,c'⟩=>i'=i/\c'=c/\k<=i/\c∉g.take k,λ⟨_,k,_⟩=>i-k,⟨(i,0,c),⟨rfl,rfl,aC,bx⟩,MT⟩,?_⟩;rintro⟨i,k,c⟩ ⟨rfl,rfl,hk,B⟩;dsimp only;refine aE (λS=>?_) (λT=>?_)
  .obtain⟨q,J⟩:∃q,g[k]? =some q:=⟨g[k]'(by omega),cq _⟩
   obtain⟨b4,o4,e4,r4⟩:=D.at' J;refine⟨b4,o4,e4,aC,aC,q,.imm r4,aB (λU=>d λn=>Good.not u (λA=>?_) n.group_) (λU=>?_)⟩
   .refine A.2 ?_;have:q=c:=cg
    rw[<-this];exact NQ J aC
   .refine⟨(i,k+1,c),⟨rfl,rfl,cg,λL=>?_⟩,cg,MT⟩;rcases TI J L with e|rfl
    .exact B e
    .simp at U
  .have:k=i:=by omega
   subst this;exact⟨k+1,⟨aC,y.succ u ⟨cg,B⟩⟩,aC,MT⟩
 have gg:=y.all aC;clear R y z;refine⟨λi=>i<=o.length/\gC (O2 a) o i,λi=>o.length-i,⟨0,⟨aC,.zero⟩,MT⟩,λi⟨R,C⟩=>aE (λf=>?_) (λz=>?_)⟩
 .obtain⟨c,u⟩:=eN Y f;obtain⟨F,G,H,I⟩:=E.at u;refine⟨F,G,H,aC,f,c,.imm I,t,a,c.1,rfl,M,aB (λj=>d λn=>Good.not u (λA=>?_) n.order_) (λj=>⟨i+1,⟨aC,C.succ u (by simpa[O2]using j)⟩,cg,MT⟩)⟩;rw[show HQ a c.1=true from A]at j;cases j
 have oo:=C.all aC;refine aE (λj=>aE (λV=>?_) (λV=>d λn=>?_)) (λj=>d λn=>?_)
 .refine O (decide (v.limit<=100)) ⟨λe=>⟨gg,oo,aC,V,cm e⟩,λe=>decide_eq_true e.high⟩
 .have:=n.low;omega
 .have:=n.len_;omega
def gT:Pred:=.mk 0 0 dL dL []
def eT:Query->Prop
 |.mk op ta w co on gr od li _=>(op=1\/ta=0)/\(op=2\/w=gT)/\(op=3\/co=[])/\(op=4\/op=5\/on=[])/\(op=9\/op=10\/(gr=[]/\od=[]/\li=0))
def xB(l:dm):dm×Int:=if l.length<=12 then(l,0)else([],2)
def hX(e:Int):dm×Int:=([],e)
open Classical in
noncomputable def iE(s:oL)(ps:dm)(q:Query)(a b:dm):dm×Int:=
 if arity (match q with|.mk op .. =>op)<0\/¬eT q then hX 100 else
 match q with
 |.mk op ta w co on gr od li _=>
  if op=1 then(if 0<=ta/\ta<s.tables.length then xB (jS s ta)else hX 100)
  else if op=2 then(if iL a ps w=0 then xB a else hX (iL a ps w))
  else if op=3 then(if co≠[]/\Good (λ_ c=>HQ a c=true) co then xB (co.map λc=>a.getD c.toNat 0)else hX 100)
  else if op=4 then(if Good (Au a b) on then xB (a++b)else hX 100)
  else if op=5 then(if Good (Au a b) on then xB a else hX 100)
  else if op=9 then(if vB a gr od li then xB a else hX 100)
  else if op=10 then(if a=b/\vB a gr od li then xB a else hX 100)
  else(if a=b then xB a else hX 100)
def Zz:Vc.Spec:=λc m h K=>∃v q,c=[aQ v]/\bR h q v/\∀r:Bool,(r=true↔eT q)->K (cB r) m h
def KR(K:dk)(m:MH)(h:PH)(r:dm×Int):Prop:=∀c h',PH.le h h'->Ints h' c r.1->K (.tup [cS c,cI r.2]) m h'
def bFX:Vc.Spec:=λc m h K=>∃sc p v a b s ps q d e,c=[aS sc,cS p,aQ v,cS a,cS b]/\iP h s sc/\rK s/\Ints h p ps/\bR h q v/\Ints h a d/\Ints h b e/\d.length<=12/\e.length<=12/\KR K m h (iE s ps q d e)
noncomputable def aXX(m:MH):Ctx:=
 dG [(128,YM),(196,Zz),(46,zT),(94,vC),(197,InS),(198,ZM),(199,ZJ),(75,C0)] [(20,{A:=Nat×Sl×Sl×dm×PH,st:=λ⟨i,a,co,l,h⟩=>bK 121 126 [(3,sv a),(12,.at (.lst 94)),(78,sv co),(79,iv co.len),(80,iv i)] [(94,.lst 3 1 (l.map eI))] m h})] [] [] false
noncomputable def aRZ(v:QV)(m:MH)(h:PH):Ctx:=
 b2Z [(76,bBJ)] [] [(2,{A:=Bool,st:=λr=>bK 78 79 [(1,.at (.ptr 1 0)),(3,bv r)] [(1,.cells 38 (v.enc.map .val))] m h})] [(2,[(9,{A:=Bool×Bool,st:=λx=>bK 78 79 [(1,.at (.ptr 1 0)),(3,bv x.1),(20,bv x.2)] [(1,.cells 38 (v.enc.map .val))] m h}),
  (11,{A:=Bool×Bool,st:=λx=>bK 78 79 [(1,.at (.ptr 1 0)),(3,bv x.1),(31,bv x.2)] [(1,.cells 38 (v.enc.map .val))] m h}),
  (11,{A:=Bool×Bool,st:=λx=>bK 78 79 [(1,.at (.ptr 1 0)),(3,bv x.1),(42,bv x.2)] [(1,.cells 38 (v.enc.map .val))] m h}),
  (16,{A:=Bool×Bool,st:=λx=>bK 78 79 [(1,.at (.ptr 1 0)),(3,bv x.1),(58,bv x.2)] [(1,.cells 38 (v.enc.map .val))] m h})])] [] false
abbrev iW(a b:Bool):Prop:=sQb a=sQb b
abbrev Ab(a:Bool):Prop:=iW true a
abbrev IN(a:Prop)(b:(Bool×Bool->Prop)->Prop)(c:(Bool×Bool->Prop)->(Bool×Bool)->Prop):Prop:=a->∃(x:Bool×Bool->Prop),b x/\∀(d:Bool×Bool),c x d
noncomputable abbrev DV(a:Value)(b:dj):dj:=a8 a eH (a8 eH eH (a8 eH eH (a8 vQz eH (a8 eH eH (a8 eH vQz b)))))
noncomputable abbrev iA:dj:=nT sJ
abbrev FZ(a:Bool×Bool->Prop)(b:Bool×Bool)(c:(Bool×Bool)->Prop)(d:QV)(e:MH)(g:PH):Prop:=∃(x:Bool×Bool),aA (a x) eY (aA (iW b.1 x.1) (c x) (bG (cG d) (e=e) (g=g)))
abbrev xL(a:Bool):Prop:=iW false a
attribute [push_cast] iW Ab IN DV iA FZ xL
def Q4(v:QV)(m:MH)(h:PH)(K:dk):Prop:=
  ∃(I:Bool->Prop),dJ v.op 9 (∃(x:Bool),aA (I x) eY (aA (Ab x) (cG v) (bE (m=m) h h))) (∃(x:Bool),aA (I x) eY (aA (iW (v.op==10) x) (cG v) (bE (m=m) h h)))/\∀(x:Bool),IN (I x) (λI1=>dJ v.op 1 (∃(e:Bool×Bool),aA (I1 e) eY (aA (iW x e.1) (Ab e.2) (bG (cG v) (m=m) (h=h)))) (∃(e:Bool×Bool),aA (I1 e) eY (aA (iW x e.1) (iW (v.table==0) e.2) (bG (cG v) (m=m) (h=h))))) (λI1 e=>IN (I1 e) (λI2=>branch e.2 (dJ v.op 2 (∃(d:Bool×Bool),aA (I2 d) eY (aA (iW e.1 d.1) (Ab d.2) (bG (cG v) (m=m) (h=h)))) (IM (λg w p q=>aA (bJ (dM v.where_) (pN (DV eH iA))=bJ (dM g) (dM w)) (eA h p g) (eA h q w/\∀(r:Bool),(gG r↔p=q)->FZ
 I2 e (λd=>iW r d.2) v m h)))) (∃(d:Bool×Bool),aA (I2 d) eY (aA (iW e.1 d.1) (xL d.2) (bG (cG v) (m=m) (h=h))))) (λI2 d=>IN (I2 d) (λI3=>branch d.2 (dJ v.op 3 (∃(c:Bool×Bool),aA (I3 c) eY (aA (iW d.1 c.1) (Ab c.2) (bG (cG v) (m=m) (h=h)))) (FZ I3 d (λc=>iW (aH v.columns==0) c.2) v m h)) (∃(c:Bool×Bool),aA (I3 c) eY (aA (iW d.1 c.1) (xL c.2) (bG (cG v) (m=m) (h=h))))) (λI3 c=>IN (I3 c) (λI4=>branch c.2 (cH (v.op==4) (FZ I4 c (λf=>Ab f.2) v m h) (v.op==5) (FZ I4 c (λf=>Ab f.2) v m h) (FZ I4 c (λf=>iW (aH v.on==0) f.2) v m h)) (∃(f:Bool×Bool),aA (I4 f) eY (aA (iW c.1 f.1) (xL f.2) (bG (cG v) (m=m) (h=
 h))))) (λI4 f=>hU (I4 f) f.2 (cH f.1 (K eW m h) (aH v.group==0) (dJ (aH v.order) 0 (K (zU (v.limit==0)) m h) (K aX m h)) (K aX m h)) (K aX m h)))))
abbrev uK(a b:QV):Prop:=iY (dE a) (dE b)
noncomputable abbrev bD(a:Sl):Sl:=Sl.mk a.a a.len a.cap
abbrev wT(a:List dj)(b:Nat):Prop:=gS (a.length*b)
abbrev wU(a:List dj):Prop:=gS a.length
noncomputable abbrev jY(a:List dj):Int:=(↑a.length:Int)
abbrev wB(a:PH)(b:List dj)(c:dk)(d:MH):Prop:=bU a 1 b (λx e=>c (CV.tup (bA (fD x) 0)) d e)
noncomputable abbrev yL(a:Nat×Sl×Sl×dm×PH):Sl:=a.2.2.1
noncomputable abbrev yM(a:Nat×Sl×Sl×dm×PH):Nat->Nat->Option Value:=a.2.2.2.2
noncomputable abbrev Ga(a:Nat×Sl×Sl×dm×PH):List dj:=fH a.2.2.2.1
abbrev E9(a:Sl->dp->Prop):Prop:=∃(x:Sl)(c:dp),a x c
abbrev kH(a b:List dj)(c:Nat):Prop:=gS (jX a b.length*c)
abbrev kC(a b:List dj):Prop:=gS (jX a b.length)
noncomputable abbrev jW(a:QV)(b:Sl):ei:=bJ (dE a) (fD b)
attribute [push_cast] uK bD wT wU jY wB yL yM Ga E9 kH kC jW
def KU(sc:bW)(p:Sl)(v:QV)(a b:Sl)(m:MH)(h:PH)(K:dk):Prop:=
  yF v.op (λo=>aR (arity o) 0 (K (CV.tup (bA nK 100)) m h) (jD (λB q=>aA (uK v B) (bR h q B) (∀(r:Bool),hU (gG r↔eT q) (!r) (K (CV.tup (bA nK 100)) m h) (∃(y:List dj),aA (cT 1 y) (bN h (bD a) 1 y) (aA (wT y 8) (wU y) (cH (v.op==1) (aR v.table 0 (K (CV.tup (bA nK 100)) m h) (fY v.table (iV sc) (K (CV.tup (bA nK 100)) m h) (DD (bA (cV sc) v.table) h (λs C=>eR (aH s) 12 (K (CV.tup (bA nK 2)) m C) (K (CV.tup (bA (fD s) 0)) m C))))) (v.op==2) (F1 (fD a::dW p (dM v.where_)) h (λc D E=>cH (iL c D E !=0) (K (CV.tup (bA nK (iL c D E))) m h) (decide (jY y>12)) (K (CV.tup (bA nK 2)) m h) (wB h y K m))) (cH (v.op==3) (dJ (aH v.columns) 0 (K (CV.tup (bA nK 100)) m h) (∃
 (I:Nat×Sl×Sl×dm×PH->Prop)(F:Nat×Sl×Sl×dm×PH->Nat),(∃(x:Nat×Sl×Sl×dm×PH),aA (I x) (bF a x.2.1) (aA (eL 94) (bF v.columns (yL x)) (aA (dA v.columns (yL x)) (aY x.1) (aA (uA x.2.2.2.1) (m=m) (bH h (yM x))))))/\∀(x:Nat×Sl×Sl×dm×PH),I x->aR (↑x.1:Int) (aH (yL x)) (eU (yL x).a 0 (↑x.1:Int) (yL x) (λn e d=>aK m (yM x) n (bC e x.1 1) (cO d)/\Is x.2.1 d (yM x) (K (CV.tup (bA nK 100)) m (yM x)) (eU x.2.1.a 0 d x.2.1 (λL M G=>aA (aK m (yM x) L (cF M d 1) (cO G)) (yE (Ga x)) (dH (Ga x)/\∃(A:Nat×Sl×Sl×dm×PH),aA (I A) (F A<F x) (aA (bF x.2.1 A.2.1) (eL 94) (aA (bF (yL x) (yL A)) (dA (yL x)
 (yL A)) (aA (aU (aW x.1 1) A.1) (v8 (Ga x) G A.2.2.2.1) (bE (m=m) (yM x) (yM A)))))))))) (eR (jY (Ga x)) 12 (K (CV.tup (bA nK 2)) m (yM x)) (wB (yM x) (Ga x) K m)))) (v.op==4) (kQ (λs t=>E9 (λu e=>tI (λj n=>aA (fD v.on::dW a (fD b)=fD s::dW t (fD u)) (lE h s e) (aA (Ints h t j) (Ints h u n) (∀(f:Bool),(gG f↔Good (Au j n) e)->cH (!f) (K (CV.tup (bA nK 100)) m h) (v.op==4) (∃(d:List dj),aA (cT 1 d) (bN h (bD b) 1 d) (aA (kH y d 8) (kC y d) (eR (jY (y++d)) 12 (K (CV.tup (bA nK 2)) m h) (wB h (y++d) K m)))) (eR (jY y) 12 (K (CV.tup (bA nK 2)) m h) (wB h y K m)))))))) (cH (v.op==5) (kQ (λs t=>E9 (λu e=>tI (λj n=>
 aA (fD v.on::dW a (fD b)=fD s::dW t (fD u)) (lE h s e) (aA (Ints h t j) (Ints h u n) (∀(f:Bool),(gG f↔Good (Au j n) e)->cH (!f) (K (CV.tup (bA nK 100)) m h) (v.op==4) (∃(d:List dj),aA (cT 1 d) (bN h (bD b) 1 d) (aA (kH y d 8) (kC y d) (eR (jY (y++d)) 12 (K (CV.tup (bA nK 2)) m h) (wB h (y++d) K m)))) (eR (jY y) 12 (K (CV.tup (bA nK 2)) m h) (wB h y K m)))))))) (v.op==9) (∃(z:QV),Cx (λt g=>∃(e:dr)(j:dm),aA (jW v a=jW z t) (Ints h z.group g) (aA (jU h z.order e) (Ints h t j) (∀(f:Bool),(gG f↔vB j g e z.limit)->cH (!f) (K (CV.tup (bA nK 100)) m h) (decide (jY y>12)) (K (CV.tup (bA nK 2)) m h) (wB h y K m))))) (F0 a b h (λj n f=>(gG
 f↔j=n)->cH (!f) (K (CV.tup (bA nK 100)) m h) (v.op==10) (∃(z:QV),Cx (λt g=>∃(e:dr)(H:dm),aA (jW v a=jW z t) (Ints h z.group g) (aA (jU h z.order e) (Ints h t H) (∀(J:Bool),(gG J↔vB H g e z.limit)->cH (!J) (K (CV.tup (bA nK 100)) m h) (decide (jY y>12)) (K (CV.tup (bA nK 2)) m h) (wB h y K m))))) (eR (jY y) 12 (K (CV.tup (bA nK 2)) m h) (wB h y K m)))))))))))))
theorem Um{α:Type}{n:Nat}{l:List α}(h:n=l.length):((n:Int)==0)=true↔l=[]:=by
 rw[beq_iff_eq,h, <-length_eq_zero_iff];omega
theorem Da(h:PH):eA h gT ⟨0,0,dL,dL,⟨none,0,0⟩⟩:=eA.mk (v:=⟨0,0,dL,dL,⟨none,0,0⟩⟩) (.nil _ _ _ _)
theorem XM:di 196 Zz:=by
 refine gO func196 ?_;rintro o m h K ⟨v,q,rfl,t,g⟩;refine⟨aRZ v m h,rfl,aD aiX aF,Q4 v m h K,bu,?_⟩;dsimp only[Q4,push_cast];obtain⟨op,ta,w,co,on,gr,od,li,args⟩:=q;have a:=t.parts;have u:=a.op_;have y:=a.table_;have z:=a.limit_;have D:=Um a.columns_.slen;have E:=Um a.on_.slen;have F:=Um a.group_.slen;have G:=Um a.order_.slen;simp only[eT]at g;subst u y z;refine⟨λr=>(r=true↔v.op=9\/v.op=10),aB (λd=>⟨true,cg,MT⟩) (λd=>⟨_,?_,MT⟩),λr j=>?_⟩
 .grind
 refine⟨λx=>x.1=r/\(x.2=true↔(v.op=1\/v.table=0)),aB (λd=>⟨(r,true),⟨rfl,cg⟩,MT⟩) (λd=>⟨(r,_),⟨rfl,?_⟩,MT⟩),?_⟩
 .grind
 rintro⟨r,c⟩ ⟨rfl,e⟩;dsimp only at e j⊢
 refine⟨λx=>x.1=r/\(x.2=true↔(v.op=1\/v.table=0)/\(v.op=2\/w=gT)),aB (λd=>aB (λf=>⟨(r,true),⟨rfl,⟨λ_=>⟨e.1 d,.inl cg⟩,λ_=>rfl⟩⟩,MT⟩) (λf=>⟨v.where_,⟨0,0,dL,dL,⟨none,0,0⟩⟩,w,gT,rfl,a.where_,Da h,λA B=>⟨(r,A),⟨rfl,?_⟩,MT⟩⟩)) (λd=>⟨(r,false),⟨rfl,?_⟩,MT⟩),?_⟩
 .grind
 .grind
 clear e c;rintro⟨r,c⟩ ⟨rfl,e⟩;dsimp only at e j⊢
 refine⟨λx=>x.1=r/\(x.2=true↔(v.op=1\/v.table=0)/\(v.op=2\/w=gT)/\(v.op=3\/co=[])),aB (λd=>aB (λf=>⟨(r,true),⟨rfl,⟨λ_=>⟨(e.1 d).1,(e.1 d).2,.inl cg⟩,λ_=>rfl⟩⟩,MT⟩) (λf=>⟨(r,_),⟨rfl,?_⟩,MT⟩)) (λd=>⟨(r,false),⟨rfl,?_⟩,MT⟩),?_⟩
 .grind
 .grind
 clear e c;rintro⟨r,c⟩ ⟨rfl,e⟩;dsimp only at e j⊢
 refine⟨λx=>x.1=r/\(x.2=true↔(v.op=1\/v.table=0)/\(v.op=2\/w=gT)/\(v.op=3\/co=[])/\(v.op=4\/v.op=5\/on=[])),aB (λd=>aB (λf=>⟨(r,true),⟨rfl,⟨λ_=>⟨(e.1 d).1,(e.1 d).2.1,(e.1 d).2.2,.inl cg⟩,λ_=>rfl⟩⟩,MT⟩) (λf=>aB (λn=>⟨(r,true),⟨rfl,⟨λ_=>⟨(e.1 d).1,(e.1 d).2.1,(e.1 d).2.2,.inr (.inl cg)⟩,λ_=>rfl⟩⟩,MT⟩) (λn=>⟨(r,_),⟨rfl,?_⟩,MT⟩))) (λd=>⟨(r,false),⟨rfl,?_⟩,MT⟩),?_⟩
 .grind
 .grind
 clear e c;rintro⟨r,c⟩ ⟨rfl,e⟩;dsimp only at e j⊢
 refine aB (λd=>aB (λf=>g true ⟨λ_=>?_,λ_=>rfl⟩) (λf=>aB (λn=>aB (λC=>g _ ?_) (λC=>g false ?_)) (λn=>g false ?_))) (λd=>g false ?_)
 .grind
 .grind
 .grind
 .grind
 .grind
theorem pH(l:dm):cT 1 (l.map eI):=by
 constructor
 .intro e c;obtain⟨x,_,rfl⟩:=mem_map.1 c;rfl
 .intro e c u d;obtain⟨x,_,rfl⟩:=mem_map.1 c;simp[eI]at d;subst d;rfl
theorem KR.err{r:dm×Int}{e:Int}(d:KR K m h r)(c:PH.le h h')(f:r=hX e):K (.tup [.val (.slice none 0 0),.val (.int .i64 e)]) m h':=by
 subst f;exact d ⟨none,0,0⟩ h' c ⟨.nil _ _,by simp[hX]⟩
theorem KR.big{r:dm×Int}(d:KR K m h r)(c:PH.le h h')(e:r=xB l)(f:12<l.length):K (.tup [.val (.slice none 0 0),.val (.int .i64 2)]) m h':=
 d.err c (by rw[e,xB,if_neg aC];rfl)
theorem KR.ok{r:dm×Int}{sl:Sl}(d:KR K m h r)(c:PH.le h h')(e:r=xB l)(f:l.length<=12)(g:bN h' sl 1 (l.map eI)):K (.tup [.val (.slice sl.a sl.len sl.cap),.val (.int .i64 0)]) m h':=by
 rw[e,xB,if_pos f]at d;exact d sl h' c ⟨g,cg⟩
theorem bxZ{p:Sl}{a b:Sl}{n C:dm}(W:iP h s sc)(h8:rK s)(hp:Ints h p ps)(X:bR h q v)(B:Ints h a n)(L:Ints h b C)(Y:n.length<=12)(Z:C.length<=12)(d:KR K m h (iE s ps q n C)):KU sc p v a b m h K:=by
 dsimp only[KU,push_cast];have O:=X;obtain⟨op,ta,w,co,on,gr,od,li,args⟩:=q;have x:=X.parts;have e0:=x.op_;have e1:=x.table_;have e2:=x.limit_;have a0:=W.tables.slen;have a1:=B.slen;have H:=x.columns_.slen;have P:=x.columns_.len;subst e0 e1 e2;refine⟨v.op,rfl,aE (λQ=>d.err (.refl _) ?_) (λQ=>⟨v,_,rfl,O,λr z=>aB (λh2=>d.err (.refl _) ?_) (λh2=>?_)⟩)⟩
 .unfold iE;rw[if_pos (.inl Q)]
 .unfold iE;rw[if_pos (.inr λe=>cg)]
 have hu:eT (.mk v.op v.table w co on gr od v.limit args):=z.1 cg;unfold iE at d;rw[if_neg (λe=>e.elim Q (λe=>e hu))]at d;dsimp only at d;clear z h2;refine⟨n.map eI,pH _,B.row,ce,ce,aB (λo=>?_) (λo=>aB (λy=>?_) (λy=>aB (λA=>?_) (λA=>aB (λD=>?_) (λD=>aB (λE=>?_) (λE=>aB (λI=>?_) (λI=>?_))))))⟩
 .rw[beq_iff_eq]at o;rw[if_pos o]at d;refine aE (λu=>d.err (.refl _) (if_neg aC)) (λu=>aE (λt=>d.err (.refl _) (if_neg aC)) (λt=>⟨sc,s,v.table,rfl,W,h8,λF h' f j=>?_⟩));rw[if_pos aC]at d;have:=j.slen;exact aE (λg=>d.big f rfl aC) (λg=>d.ok f rfl aC j.row)
 .rw[beq_eq_false_iff_ne]at o;rw[beq_iff_eq]at y;rw[if_neg o,if_pos y]at d;refine⟨a,p,v.where_,n,ps,w,rfl,B,hp,x.where_,aB (λu=>d.err (.refl _) (if_neg cg)) (λu=>?_)⟩;rw[if_pos cg]at d;exact aE (λg=>d.big (.refl _) rfl cg) (λg F h' f j=>d.ok f rfl aC j)
 .rw[beq_eq_false_iff_ne]at o y;rw[beq_iff_eq]at A;rw[if_neg o,if_neg y,if_pos A]at d;refine aB (λu=>d.err (.refl _) (if_neg λe=>e.1 ((Um H).1 u))) (λu=>?_);have R:co≠[]:=λe=>cg
  refine⟨λ⟨i,a',S,l,hx⟩=>a'=a/\S=v.columns/\hx=h/\i<=co.length/\l=(co.take i).map (λc=>n.getD c.toNat 0)/\gC (λ_ c=>HQ n c=true) co i,λ⟨i,_,_,_,_⟩=>co.length-i,⟨(0,a,v.columns,[],h),⟨rfl,rfl,rfl,aC,bx,.zero⟩,MT⟩,?_⟩;rintro⟨i,a,_,l,h⟩ ⟨rfl,rfl,rfl,j,rfl,hg⟩;dsimp only;refine aE (λJ=>?_) (λa2=>?_)
  .obtain⟨c,M⟩:=eN H J;obtain⟨b1,o1,T,r1⟩:=x.columns_.at' M;refine⟨b1,o1,T,aC,J,c,.imm r1,a,n,c,rfl,B,aB (λt=>d.err (.refl _) (if_neg λe=>?_)) (λt=>?_)⟩
   .have:=e.2 i c M;grind
   have t:HQ n c=true:=cg
   have g:=kV.1 t;obtain⟨b2,o2,U,r2⟩:=B.inb g.1 g.2;refine⟨b2,o2,U,aC,aC,_,.imm r2,?_,?_,(i+1,a,v.columns,(co.take (i+1)).map (λc=>n.getD c.toNat 0),h),⟨rfl,rfl,rfl,aC,rfl,hg.succ M t⟩,aC,?_⟩
   .simp;omega
   .simp;omega
   .rw[iI M,cv];exact MT
  .rw[if_pos ⟨R,hg.all aC⟩]at d;rw[cu aC];exact aE (λg=>d.big (.refl _) rfl cg) (λg F h' f j=>d.ok f rfl cg j)
 .rw[beq_eq_false_iff_ne]at o y A;have G:=beq_iff_eq.1 D;rw[if_neg o,if_neg y,if_neg A,if_pos G]at d;refine⟨v.on,a,b,on,n,C,rfl,x.on_,B,L,λr z=>aB (λu=>d.err (.refl _) (if_neg λe=>?_)) (λu=>aB (λ_=>⟨C.map eI,pH _,L.row,ce,ce,?_⟩) (λt=>?_))⟩
  .grind
  .rw[if_pos (z.1 cg)]at d;rw[<-cv];exact aE (λg=>d.big (.refl _) rfl cg) (λg F h' f j=>d.ok f rfl cg j)
  grind
 .rw[beq_eq_false_iff_ne]at o y A;have G:=beq_eq_false_iff_ne.1 D;rw[beq_iff_eq]at E;rw[if_neg o,if_neg y,if_neg A,if_neg G,if_pos E]at d;refine⟨v.on,a,b,on,n,C,rfl,x.on_,B,L,λr z=>aB (λu=>d.err (.refl _) (if_neg λe=>?_)) (λu=>aB (λt=>?_) (λt=>?_))⟩
  .grind
  .grind
  .rw[if_pos (z.1 cg)]at d;exact aE (λg=>d.big (.refl _) rfl cg) (λg F h' f j=>d.ok f rfl aC j)
 .rw[beq_eq_false_iff_ne]at o y A D E;rw[beq_iff_eq]at I;rw[if_neg o,if_neg y,if_neg A,if_neg D,if_neg E,if_pos I]at d;refine⟨v,a,gr,od,n,rfl,x.group_,x.order_,B,λr z=>aB (λu=>d.err (.refl _) (if_neg λe=>?_)) (λu=>?_)⟩
  .grind
  rw[if_pos (z.1 cg)]at d;exact aE (λg=>d.big (.refl _) rfl cg) (λg F h' f j=>d.ok f rfl aC j)
 .rw[beq_eq_false_iff_ne]at o y A D E I;rw[if_neg o,if_neg y,if_neg A,if_neg D,if_neg E,if_neg I]at d;refine⟨a,b,n,C,rfl,B,L,λr z=>aB (λu=>d.err (.refl _) ?_) (λu=>aB (λt=>⟨v,a,gr,od,n,rfl,x.group_,x.order_,B,λr2 V=>aB (λd4=>d.err (.refl _) ?_) (λd4=>?_)⟩) (λt=>?_))⟩
  .grind
  .grind
  .rw[beq_iff_eq]at t;rw[if_pos t,if_pos ⟨z.1 cg,V.1 cg⟩]at d;exact aE (λg=>d.big (.refl _) rfl cg) (λg F h' f j=>d.ok f rfl aC j)
  .rw[beq_eq_false_iff_ne]at t;rw[if_neg t,if_pos (z.1 cg)]at d;exact aE (λg=>d.big (.refl _) rfl cg) (λg F h' f j=>d.ok f rfl aC j)
theorem Yb:di 130 bFX:=by
 refine gO func130 ?_;rintro c m h K ⟨sc,p,v,a,b,s,ps,q,y,z,rfl,d,e,f,g,j,n,o,t,u⟩;refine⟨aXX m,rfl,aD OE (aD XM (aD GC (aD Kn (aD Hv (aD XL (aD XK (aD aiZ aF))))))),KU sc p v a b m h K,bu,?_⟩;exact bxZ d e f g j n o t u
mutual
noncomputable def bZ(s:oL)(ps:dm):Query->dm×Int
 |.mk op ta w co on gr od li args=>
  match fG s ps args with
  |(ks,e)=>if e=0 then(if(ks.length:Int)=arity op then iE s ps (.mk op ta w co on gr od li args) (ks.getD 0 []) (ks.getD 1 [])else hX 100)else hX e
noncomputable def fG(s:oL)(ps:dm):dt->List dm×Int
 |[]=>([],0)
 |q::qs=>
  match bZ s ps q with
  |(k,e)=>if e=0 then(match fG s ps qs with|(ks,c)=>if c=0 then(k::ks,0)else([],c))else([],e)
end
theorem Bt{s:oL}{ps:dm}:∀{qs:dt}{ks:List dm},qs.map (bZ s ps)=ks.map (λk=>(k,0))->fG s ps qs=(ks,0)
 |[],[],_=>by simp[fG]
 |q::qs,k::ks,h=>by
  simp only[map_cons,List.cons.injEq]at h;simp only[fG,h.1,Bt h.2,if_true]
 |[],_::_,h=>by simp at h
 |_::_,[],h=>by simp at h
theorem Fk{s:oL}{ps:dm}{e:Int}(c:e≠0):∀{qs:dt}{ks:List dm}{i:Nat}{q:Query},(qs.take i).map (bZ s ps)=ks.map (λk=>(k,0))->qs[i]? =some q->(bZ s ps q).2=e->fG s ps qs=([],e)
 |[],_,_,_,_,h,_=>by simp at h
 |q::qs,_,0,f,_,h,d=>by
  simp at h;subst h;simp only[fG,d,if_neg c]
 |q::qs,[],i+1,_,h,_,_=>by simp at h
 |q::qs,k::ks,i+1,f,h,g,d=>by
  simp only[take_succ_cons,map_cons,List.cons.injEq]at h;have:=Fk c h.2 cg d;simp only[fG,h.1,this,if_true,if_neg c]
theorem aEQ(l:dm):(xB l).1.length<=12:=by unfold xB;grind
theorem adZ(s:oL)(ps:dm)(q:Query)(a b:dm):(iE s ps q a b).1.length<=12:=by
 obtain⟨op,ta,w,co,on,gr,od,li,args⟩:=q;unfold iE;dsimp only
 repeat' split
 all_goals first|exact aEQ _|(simp[hX];done)
theorem D6(s:oL)(ps:dm)(q:Query):(bZ s ps q).1.length<=12:=by
 obtain⟨op,ta,w,co,on,gr,od,li,args⟩:=q;simp only[bZ]
 repeat' split
 all_goals first|exact adZ .. |simp[hX]
noncomputable def fR(s:oL)(ps:dm)(q:Query):dm×Int:=
 if fA s=0 then(if ps.all eM=true then(if uQ q=true then bZ s ps q else hX 2)else hX 1)else hX (fA s)
def Slices(h:PH)(c:dq)(ks:List dm):Prop:=c.length=ks.length/\∀(j:Nat) s k,c[j]? =some s->ks[j]? =some k->Ints h s k
theorem Slices.mono{c:dq}(x:Slices h c ks)(le:PH.le h h'):Slices h' c ks:=⟨x.1,λj s k d e=>(x.2 j s k d e).mono le⟩
theorem Slices.snoc{c:dq}{s:Sl}{k:dm}(x:Slices h c ks)(o:Ints h s k):Slices h (c++[s]) (ks++[k]):=by
 refine⟨by simp[x.1],λj g n d e=>?_⟩;by_cases f:j<c.length
 .rw[getElem?_append_left f]at d;rw[getElem?_append_left (by rw[<-x.1];exact f)]at e;exact x.2 j g n d e
 .rw[getElem?_append_right aC]at d;rw[getElem?_append_right (by have:=x.1;omega), <-x.1]at e
  grind
def A3(N:Nat):Vc.Spec:=λc m h K=>∃sc p v s ps q,c=[aS sc,cS p,aQ v]/\iP h s sc/\rK s/\Ints h p ps/\bR h q v/\SizeOf.sizeOf q<N/\KR K m h (bZ s ps q)
def zR:Vc.Spec:=λc m h K=>∃sc p v s ps q,c=[aS sc,cS p,aQ v]/\iP h s sc/\Ints h p ps/\bR h q v/\KR K m h (fR s ps q)
noncomputable def bnQ(N:Nat)(sc:bW)(p:Sl)(v:QV)(m:MH):Ctx:=
 dG [(89,A3 N),(128,YM),(130,bFX)] [(3,{A:=Nat×dq×PH,st:=λ⟨i,c,h⟩=>bK 58 61 [(1,sv p),(3,.at (.ptr 3 0)),(5,.at (.ptr 5 0)),(8,.at (.lst 35)),(14,iv v.args.len),(15,iv i)] [(3,.cells 43 (sc.enc.map .val)),(5,.cells 38 (v.enc.map .val)),(35,.lst 33 1 (c.map eS))] m h})] [] [] false
abbrev I8(a:(Nat×dq×PH->Prop)->(Nat×dq×PH)->Prop)(b:(Nat×dq×PH->Prop)->(Nat×dq×PH->Nat)->(Nat×dq×PH)->Prop):Prop:=∃(x:Nat×dq×PH->Prop)(d:Nat×dq×PH->Nat),(∃(c:Nat×dq×PH),a x c)/\∀(c:Nat×dq×PH),b x d c
noncomputable abbrev Cy(a b:Nat)(c:dq):Option Go.Vc.Own:=cD a b (List.map eS c)
noncomputable abbrev fI(a:Nat×dq×PH):Nat->Nat->Option Value:=a.2.2
abbrev Hs(a:bW->Sl->Prop):Prop:=∃(x:bW)(c:Sl),a x c
abbrev Cz(a:oL->dm->Prop):Prop:=∃(x:oL)(c:dm),a x c
abbrev Ix(a:bW)(b:Sl)(c:QV)(d:PH)(e:QV->oL->dm->Query->Prop):Prop:=Hs (λx g=>∃(j:QV),Cz (λf n=>∃(o:Query),aA (cV a::dW b (dE c)=cV x::dW g (dE j)) (iP d f x) (aA (rK f) (Ints d g n) (e j f n o))))
abbrev E5(a:PH)(b:dm×Int)(c:Sl->PH->Prop):Prop:=jT (λx d=>dD a d (Ints d x b.1) (c x d))
abbrev iS(a:List dj):Prop:=gS (jX a 1*24)
noncomputable abbrev j7(a:dq):List dj:=List.map eS a
noncomputable abbrev pV(a:Nat×dq×PH):List dj:=j7 a.2.1
abbrev Mz(a:Nat×dq×PH)(b:(Nat×dq×PH)->Prop):Prop:=aA (iS (pV a)) (dH (pV a)) (∃(x:Nat×dq×PH),b x)
noncomputable abbrev IP:List dj:=iA::iF iA
abbrev uN(a:List dj)(b:Nat)(c:dj):Prop:=a[b]? =Option.some c
abbrev Dx(a:Nat)(b c:dj):Prop:=List.take a (List.drop 0 b)=c
attribute [push_cast] I8 Cy fI Hs Cz Ix E5 iS j7 pV Mz IP uN Dx
def UL(N:Nat)(sc:bW)(p:Sl)(v:QV)(m:MH)(h:PH)(K:dk):Prop:=
  I8 (λI x=>aA (I x) (aG p) (aA cA dC (aA (eL 35) (rP v) (aA (aY x.1) (bM sc) (aA (cG v) (kN 33 1 (Cy 33 1 x.2.1)) (aA (m=m) (h=fI x) True)))))) (λI u x=>I x->aR (↑x.1:Int) (aH v.args) (bT (λb o=>aA (bX v.args.a b o) (0<=(↑x.1:Int)) ((↑x.1:Int)<aH v.args/\∃(y:QV),aK m (fI x) b (bC o x.1 21) y.enc/\Ix sc p y (fI x) (λg s c q=>aA (bR (fI x) q g) (lX q N) (E5 (fI x) (bZ s c q) (λd j=>fW (bZ s c q).2 0 (K (CV.tup (bJ nK (CV.val (fB (bZ s c q).2)))) m j) (Mz x (λf=>aA (I f) (u f<u x) (aA (aG p) cA (aA dC (eL 35) (aA (rP v) (aU (aW x.1 1) f.1) (aA (bM sc) (cG v) (aA (cD 33 1 (dY (pV x) (aM d))=Cy 33 1 f.2.1) (m=m) (bH j
 (fI f))))))))))))))) (∃(o:Int),iX (rQ v.op o) (jY (pV x) !=arity o) (K (CV.tup (bA nK 100)) m (fI x)) (aA (gS (jX (pV x) 2*24)) (gS (jX (pV x) 2)) (aA (cC 0) (0<jY (pV x++IP)) (∃(e:dj),uN (pV x++IP) 0 e/\∃(y:Sl),aA (Dx 1 e (aM y)) ((0:Int)<=1) (1<jY (pV x++IP)/\∃(z:dj),uN (pV x++IP) 1 z/\∃(A:Sl),Dx 1 z (aM A)/\Hs (λs c=>∃(g:QV),kQ (λa b=>Cz (λd t=>∃(q:Query),tI (λl n=>aA (cV sc::fD p::dE v::dW y (fD A)=cV s::fD c::dE g::dW a (fD b)) (iP (fI x) d s) (aA (rK d) (Ints (fI x) c t) (aA (bR (fI x) q g) (Ints (fI x) a l) (aA (Ints (fI x) b n) (l.length<=12) (n.length<=
 12/\E5 (fI x) (iE d t q l n) (λB j=>K (CV.tup (dW B (CV.val (fB (iE d t q l n).2)))) m j)))))))))))))))
abbrev IJ(a:bW)(b:PH)(c:oL->Prop)(d:Prop):Prop:=wG (λx e=>aA (iY (cV a) (cV x)) (iP b e x) (fW (fA e) 0 (c e) d))
attribute [push_cast] IJ
def U2(N:Nat)(sc:bW)(p:Sl)(v:QV)(m:MH)(h:PH)(K:dk):Prop:=
  IJ sc h (λs=>K (CV.tup (bA nK (fA s))) m h) (Cx (λs l=>aA (p9 p s) (Ints h s l) (branch (!(Hp l)) (K (CV.tup (bA nK 1)) m h) (jD (λc d=>aA (uK v c) (bR h d c) (branch (!(uQ d)) (K (CV.tup (bA nK 2)) m h) (Ix sc p v h (λg e f q=>aA (bR h q g) (lX q N) (E5 h (bZ e f q) (λj n=>K (CV.tup (dW j (CV.val (fB (bZ e f q).2)))) m n))))))))))
theorem Kg{qs:dt}(h:qs.map (bZ s ps)=ks.map (λk=>(k,0)))(j:Nat):(ks.getD j []).length<=12:=by
 rw[getD_eq_getElem?_getD];cases e:ks[j]? with
 |none=>simp
 |some k=>
  have c:(qs.map (bZ s ps))[j]? =some (k,0):=cg
  rw[getElem?_map,Option.map_eq_some_iff]at c;obtain⟨q,_,d⟩:=c;have:=D6 s ps q
  grind
theorem Slices.pick{c:dq}(x:Slices h c ks)(j:Nat)(f:j<c.length+2):∃y:Sl,(c.map eS++[[.slice none 0 0],[.slice none 0 0]])[j]? =some [.slice y.a y.len y.cap]/\Ints h y (ks.getD j []):=by
 by_cases d:j<c.length
 .refine⟨c[j],?_,?_⟩
  .rw[getElem?_append_left cg];simp[d,eS]
  .have e:j<ks.length:=by rw[<-x.1];exact d
   rw[getD_eq_getElem?_getD,cq e];exact x.2 j _ _ (cq d) (cq e)
 .refine⟨⟨none,0,0⟩,?_,?_⟩
  .grind
  .rw[getD_eq_getElem?_getD,getElem?_eq_none (by have:=x.1;omega)];exact⟨.nil _ _,bx⟩
theorem Zi:∀N,di 89 (A3 N)
 |0=>by
  refine eC (fn:=Tryz.f89) (c:=cL Tryz.f89) func89 rfl bz ?_;rintro C m h K ⟨sc,p,v,s,ps,q,rfl,_,_,_,_,Y,_⟩;omega
 |N+1=>by
  refine gO func89 ?_;rintro C m h K ⟨sc,p,v,s,ps,q,rfl,Q,R,S,T,Y,n⟩;refine⟨bnQ N sc p v m,rfl,aD (Zi N) (aD OE (aD Yb aF)),UL N sc p v m h K,bu,?_⟩;dsimp only[UL,push_cast];have D:=@tQ q;have E:=T;obtain⟨op,ta,w,co,on,gr,od,li,args⟩:=q;have x:=T.parts;have e0:=x.op_;have Z:=x.args_.slen;have U:=x.args_.len;simp only[Query.args]at D;simp only[bZ]at n;refine⟨λ⟨i,z,F⟩=>i<=args.length/\PH.le h F/\∃ks,Slices F z ks/\(args.take i).map (bZ s ps)=ks.map (λk=>(k,0)),λ⟨i,_,_⟩=>args.length-i,⟨(0,[],h),⟨aC,.refl _,[],⟨rfl,λj s k y=>by simp at y⟩,bx⟩,MT⟩,?_⟩;rintro⟨i,z,F⟩ ⟨V,d,ks,A,g⟩;have G:ks.length=i:=by have:=congrArg List.length g;grind
  have a':z.length=i:=by rw[A.1,G]
  dsimp only;refine aE (λo=>?_) (λa0=>?_)
  .obtain⟨B,t⟩:=eN Z o;obtain⟨b1,o1,u,H,r1,I⟩:=(x.args_.mono d).at t;refine⟨b1,o1,H,aC,o,u,.imm r1,sc,p,u,s,ps,B,rfl,Q.mono d,R,S.mono d,I,?_,λJ h' f L=>aB (λy=>?_) (λy=>?_)⟩
   .grind
   .have M:(bZ s ps B).2≠0:=cg
    rw[Fk M g t rfl]at n;exact n.err (d.trans f) (if_neg M)
   .have M:(bZ s ps B).2=0:=cg
    refine⟨ce,ce,(i+1,z++[J],h'),⟨aC,d.trans f,ks++[(bZ s ps B).1],(A.mono f).snoc L,?_⟩,aC,?_⟩
    .rw[iI t,g,cv]
     grind
    .rw[cv];exact MT
  .rw[cu aC]at g;rw[Bt g]at n;simp only[if_true]at n;refine⟨v.op,rfl,aB (λy=>n.err d (if_neg λe=>?_)) (λy=>?_)⟩
   .grind
   have y:(z.length:Int)=arity op:=cg
   rw[if_pos aC]at n;obtain⟨W,O,i0⟩:=A.pick 0 aC;obtain⟨X,P,i1⟩:=A.pick 1 aC;exact⟨ce,ce,aC,ce,_,O,W,rfl,aC,ce,_,P,X,rfl,sc,p,v,W,X,s,ps,_,_,_,rfl,Q.mono d,R,S.mono d,E.mono d,i0,i1,Kg g 0,Kg g 1,λJ h' f V=>n J h' (d.trans f) V⟩
theorem PE(h:fA s=0):rK s:=by
 have c:Eo s:=Classical.byContradiction λd=>by rw[xJ d]at h;cases h
 intro t e;obtain⟨j,f⟩:=mem_iff_getElem?.1 e;exact(c.2 j t f).1
theorem Qi:di 37 zR:=by
 refine gO func37 ?_;rintro n m h K ⟨sc,p,v,s,ps,q,rfl,f,g,j,c⟩;refine⟨dG [(86,Ba),(87,O4),(88,ZB),(89,A3 (SizeOf.sizeOf q+1))] [] [] [] false,rfl,aD Qd (aD Qc (aD ahJ (aD (Zi _) aF))),U2 (SizeOf.sizeOf q+1) sc p v m h K,bu,?_⟩;dsimp only[U2,push_cast];unfold fR at c;refine⟨sc,s,rfl,f,aB (λd=>c.err (.refl _) (if_neg cg)) (λd=>?_)⟩;have d:fA s=0:=cg
 rw[if_pos d]at c;refine⟨p,ps,rfl,g,aB (λo=>c.err (.refl _) (if_neg λe=>cg)) (λo=>?_)⟩;rw[if_pos cg]at c;refine⟨v,q,rfl,j,aB (λt=>c.err (.refl _) (if_neg λe=>cg)) (λt=>?_)⟩;rw[if_pos cg]at c;exact⟨sc,p,v,s,ps,q,rfl,f,PE d,g,j,aC,c⟩
def aN(n:NV):CV:=.val (.agg ⟨n.enc⟩)
structure Ao(h:PH)(s:oL)(ps:dm)(q:Query)(ks:List dm)(n:NV):Prop where
 s_:iP h s n.s
 ps_:Ints h n.params ps
 q_:bR h q n.q
 ks_:aZ h 1 eS (λk sl=>Ints h sl k) n.args ks
 len:∀k∈ks,k.length<=12
def Query.withOf(u q:Query):Query:=match u,q with|.mk _ ta w co on gr od li _,.mk op _ _ _ _ _ _ _ args=>.mk op ta w co on gr od li args
def Co:Vc.Spec:=λc m h K=>∃n k u s ps q ks d,c=[aN n,cI k,aQ u]/\Ao h s ps q ks n/\bR h d u/\∀r:Bool,(r=true↔(ks.length:Int)=k/\q=d.withOf q)->K (cB r) m h
def OY:Vc.Spec:=λc m h K=>∃n s ps q ks,c=[aN n]/\Ao h s ps q ks n/\K (aQ ⟨0,0,⟨0,0,dL,dL,⟨none,0,0⟩⟩,⟨none,0,0⟩,⟨none,0,0⟩,n.q.group,n.q.order,n.q.limit,⟨none,0,0⟩⟩) m h
def OZ:Vc.Spec:=λc m h K=>∃n s ps q ks a,c=[aN n]/\Ao h s ps q ks n/\ks[0]? =some a/\∀r:Bool,(r=true↔∃op ta w co on gr od li args,q= .mk op ta w co on gr od li args/\vB a gr od li)->K (cB r) m h
def Mg(ks:List dm):Query->Prop
 |.mk op ta w co on gr od li _=>ks.length=2/\ta=0/\w=gT/\co=[]/\gr=[]/\od=[]/\li=0/\Good (Au (ks.getD 0 []) (ks.getD 1 [])) on
def O1:Vc.Spec:=λc m h K=>∃n s ps q ks,c=[aN n]/\Ao h s ps q ks n/\∀r:Bool,(r=true↔Mg ks q)->K (cB r) m h
noncomputable def aLQ(n:NV)(h:PH):Ctx:=
 vM [] [(4,{A:=Nat×Nat×Nat×MH,st:=λ⟨i,c,b,d⟩=>bK 72 73 [(1,.at (.ptr 1 0)),(3,iv c),(4,vv (.pointer (some ⟨b,0,none⟩))),(16,sv n.q.group),(17,iv n.q.group.len),(18,iv i)] [(1,.cells 218 (n.enc.map .val))] d h}),
  (11,{A:=Nat×Nat×MH,st:=λ⟨i,c,d⟩=>bK 72 73 [(1,.at (.ptr 1 0)),(3,iv c),(39,sv n.q.order),(40,iv n.q.order.len),(41,iv i)] [(1,.cells 218 (n.enc.map .val))] d h})] [] [] [302] [] false
noncomputable def aLX(n:NV)(h:PH):Ctx:=
 vM [(265,Co)] [(6,{A:=Nat×Sl×Sl×Nat×Nat×MH,st:=λ⟨i,s,t,b,c,d⟩=>bK 80 81 [(3,sv s),(4,sv t),(5,vv (.pointer (some ⟨b,0,none⟩))),(6,vv (.pointer (some ⟨c,0,none⟩))),(28,sv n.q.on),(29,iv n.q.on.len),(30,iv i)] [] d h})] [] [] [302] [] false
noncomputable abbrev qZ(a:OV):Value:=fB a.kind
noncomputable abbrev mZ(a:QV):OV:=a.where_.left
noncomputable abbrev rA(a:OV):Value:=fB a.index
noncomputable abbrev rR(a:OV):Int:=a.value.int
noncomputable abbrev lZ(a:OV):Value:=fB (rR a)
noncomputable abbrev IA(a b:QV)(c:dj):CV:=pN (a8 (fB a.op) (fB b.table) (a8 (fB b.where_.op) (fB b.where_.cmp) (a8 (qZ (mZ b)) (rA (mZ b)) (a8 (fB (lG (mZ b))) (lZ (mZ b)) c))))
noncomputable abbrev kZ(a:OV):Value:=Value.string a.value.text
noncomputable abbrev gV(a:QV):OV:=a.where_.right
noncomputable abbrev kM(a:OV):Value:=fB (lG a)
noncomputable abbrev Fb(a:QV):Value:=fF a.where_.args
noncomputable abbrev Fc(a:QV):Value:=fF a.columns
attribute [push_cast] qZ mZ rA rR lZ IA kZ gV kM Fb Fc
def Qu(n:NV)(k:Int)(u:QV)(m:MH)(h:PH)(K:dk):Prop:=
  dJ (aH n.args) k (∃(v:QV),jD (λw p=>∃(q:Query),aA (bJ (dE n.q) (IA n.q u (a8 (kZ (mZ u)) (qZ (gV u)) (a8 (rA (gV u)) (kM (gV u)) (a8 (lZ (gV u)) (kZ (gV u)) (a8 (Fb u) (Fc u) (a8 (fF u.on) (fF u.group) (a8 (fF u.order) (fB u.limit) (aM n.q.args))))))))=bJ (dE v) (dE w)) (bR h p v) (bR h q w/\∀(r:Bool),(gG r↔p=q)->K (zU r) m h))) (K aX m h)
noncomputable abbrev Dj(a b c d e g i:Value)(j:dj):dj:=a8 a b (a8 eH eH (a8 eH eH (a8 eH eH (a8 vQz eH (a8 eH eH (a8 eH vQz (a8 sJ c (a8 d e (a8 g i j)))))))))
noncomputable abbrev Mn(a:QV):dj:=Dj eH eH sJ sJ (fF a.group) (fF a.order) (fB a.limit) iA
attribute [push_cast] Dj Mn
def Qt(n:NV)(m:MH)(h:PH)(K:dk):Prop:=
  K (pN (Mn n.q)) m h
noncomputable abbrev wH:Value:=Value.bool false
abbrev Mm(a:MH)(b:PH)(c:Nat->MH->Prop):Prop:=∀(x:Nat)(d:MH),aT (dZ a b x) (bL a d x (a8 wH wH (a8 wH wH (a8 wH wH (a8 wH wH (a8 wH wH (a8 wH wH [])))))) 302) (c x d)
noncomputable abbrev tF(a:QV):At:=iG a.table
noncomputable abbrev qU(a:QV)(b:dz):dz:=pQ a.where_ b
noncomputable abbrev uV(a:At)(b:Sl)(c:QV)(d:At)(e:dz):dz:=eO a (xG b) (eO (xG c.group) d e)
noncomputable abbrev rZ(a:QV):At:=xG a.columns
noncomputable abbrev uY(a:QV):At:=xG a.order
noncomputable abbrev xN(a:QV):At:=iG a.limit
abbrev Ds(a:NV):Prop:=eQ (oQ 218 (eO (Io a.s) (Im a.s) (eO (xG a.params) (iG a.q.op) (tF a.q::qU a.q (uV (rZ a.q) a.q.on a.q (uY a.q) (eO (xN a.q) (xG a.q.args) (lY a.args)))))))
noncomputable abbrev nR(a:Array Value)(b:Nat)(c:dj):dj:=splice a.toList b c
attribute [push_cast] wH Mm tF qU uV rZ uY xN Ds nR
def GD(n:NV)(m:MH)(h:PH)(K:dk):Prop:=
  cK n.args.a 0 n.args (λb o y=>aK m h b (cZ o) (aM y)/\Mm m h (λA B=>∃(I:Nat×Nat×Nat×MH->Prop)(u:Nat×Nat×Nat×MH->Nat),(∃(x:Nat×Nat×Nat×MH),aA (I x) eY (aA (vK y.len=vK x.2.1) (fO A (j4 x.2)) (aA (aG n.q.group) (a7 n.q.group) (aA (aY x.1) (Ds n) (bE (B=iB x.2) h h)))))/\∀(x:Nat×Nat×Nat×MH),I x->aR (↑x.1:Int) (aH n.q.group) (eU n.q.group.a 0 (↑x.1:Int) n.q.group (λj t e=>aK (iB x.2) h j (bC t x.1 1) (cO e)/\aR e 0 (pT K x.2 h) (fY e (↑x.2.1:Int) (pT K x.2 h) (aA (cC e) (e<12) (∃(z:Bool),aK (iB x.2) h (j4 x.2) (cF 0 e 1) (nT (Value.bool z))/\branch z (pT K x.2 h) (aA (cC e) (e<12) (gE (λc E=>aA (sK (iB x.2) (j4 x.2) (fC c E 0))
 (fE (cF 0 e 1) c) (∀(f:MH),bL (iB x.2) f (j4 x.2) (nR c (cF 0 e 1) (nT Cv)) E->∃(d:Nat×Nat×Nat×MH),aA (I d) (u d<u x) (aA eY (bO x.2.1 d.2.1) (aA (fO (j4 x.2) (j4 d.2)) (aG n.q.group) (aA (a7 n.q.group) (aU (aW x.1 1) d.1) (bG (Ds n) (f=iB d.2) (h=h)))))))))))))) (∃(I1:Nat×Nat×MH->Prop)(f:Nat×Nat×MH->Nat),MU (λd=>aA (I1 d) eY (aA (bO x.2.1 (j4 d)) (aG n.q.order) (aA (a7 n.q.order) (aY d.1) (aA (Ds n) (iB x.2=iB d) (bH h h))))) (λd=>I1 d->aR (↑d.1:Int) (aH n.q.order) (bT (λj t=>aA (bX n.q.order.a j t) (0<=(↑d.1:Int)) ((↑d.1:Int)<aH n.q.order/\∃(e:Int×Bool),aK (iB d) h j (bC t d.1 2) (AS e)/\aR e.1 0 (pT K
 d h) (fY e.1 (↑(j4 d):Int) (pT K d h) (∃(g:Nat×Nat×MH),aA (I1 g) (f g<f d) (aA eY (bO (j4 d) (j4 g)) (aA (aG n.q.order) (a7 n.q.order) (aA (aU (aW d.1 1) g.1) (Ds n) (bE (iB d=iB g) h h))))))))) (Cs (aH n.q.order) 12 (fY n.q.limit 0 (K (zU (decide (n.q.limit<=100))) (iB d) h) (pT K d h)) (pT K d h))))))
abbrev Dn(a:oL->dm->Query->(List dm)->Prop):Prop:=Cz (λx c=>∃(d:Query)(e:List dm),a x c d e)
abbrev BO(a:ei)(b:NV->Int->QV->ei)(c:PH)(d:Int->Query->(List dm)->Query->Bool->Prop):Prop:=∃(x:NV)(e:Int)(f:QV),Dn (λo t g j=>∃(n:Query),aA (a=b x e f) (Ao c o t g j x) (bR c n f/\∀(u:Bool),d e g j n u))
noncomputable abbrev gY(a:NV)(b:dj):CV:=pN (a8 (fB a.s.version) (fF a.s.tables) (a8 (fF a.params) (fB a.q.op) (a8 (fB a.q.table) (fB a.q.where_.op) (a8 (fB a.q.where_.cmp) (qZ (mZ a.q)) b))))
noncomputable abbrev gZ(a:NV)(b:dj):dj:=a8 (rA (mZ a.q)) (kM (mZ a.q)) (a8 (lZ (mZ a.q)) (kZ (mZ a.q)) (a8 (qZ (gV a.q)) (rA (gV a.q)) (a8 (fB (lG (gV a.q))) (lZ (gV a.q)) b)))
noncomputable abbrev Ad(a:OV)(b:QV)(c d:Sl):dj:=a8 (kZ a) (Fb b) (a8 (Fc b) (fF c) (a8 (fF b.group) (fF b.order) (a8 (fB b.limit) (fF b.args) (aM d))))
noncomputable abbrev gX(a:NV):dj:=Ad (gV a.q) a.q a.q.on a.args
abbrev BS(a:List dm)(b:Int)(c d:Query):Prop:=(↑a.length:Int)=b/\c=Query.withOf d c
noncomputable abbrev jQ(a:Nat×Sl×Sl×Nat×Nat×MH):Nat×Nat×MH:=a.2.2.2
attribute [push_cast] Dn BO gY gZ Ad gX BS jQ
def GF(n:NV)(m:MH)(h:PH)(K:dk):Prop:=
  BO (gY n (gZ n (gX n))::bJ (fQ 2) (pN (Dj eH eH sJ (fF n.q.on) sJ sJ eH iA))) (λf k u=>gY f (gZ f (gX f))::bJ (fQ k) (dE u)) h (λk q J u r=>hU (gG r↔BS J k q u) (!r) (K aX m h) (cK n.args.a 0 n.args (λb o y=>aK m h b (cZ o) (aM y)/\cK n.args.a 1 n.args (λL M t=>aK m h L (cE M) (aM t)/\Mm m h (λO P=>Mm P h (λQ R=>∃(I:Nat×Sl×Sl×Nat×Nat×MH->Prop)(z:Nat×Sl×Sl×Nat×Nat×MH->Nat),(∃(x:Nat×Sl×Sl×Nat×Nat×MH),aA (I x) (bF y x.2.1) (aA (bF t x.2.2.1) (fO O (jQ x).1) (aA (fO Q (j4 (jQ x))) (aG n.q.on) (aA (a7 n.q.on) (aY x.1) (bE (R=iB (jQ x)) h h)))))/\∀(x:Nat×Sl×Sl×Nat×Nat×MH),I x->aR (↑x.1:Int) (aH
 n.q.on) (bT (λA B=>aA (bX n.q.on.a A B) (0<=(↑x.1:Int)) ((↑x.1:Int)<aH n.q.on/\∃(d:Int×Int),aA (aK (iB (jQ x)) h A (bC B x.1 2) (wO d)) (cC 0) (aA ((0:Int)<2) (cC 1) ((1:Int)<2/\aR d.1 0 (pT K (jQ x) h) (fY d.1 (aH x.2.1) (pT K (jQ x) h) (aR d.2 0 (pT K (jQ x) h) (fY d.2 (aH x.2.2.1) (pT K (jQ x) h) (eU x.2.1.a 0 d.1 x.2.1 (λS T C=>aK (iB (jQ x)) h S (cF T d.1 1) (cO C)/\eU x.2.2.1.a 0 d.2 x.2.2.1 (λU V D=>aK (iB (jQ x)) h U (cF V d.2 1) (cO D)/\fW C D (pT K (jQ x) h) (aA (cC d.1) (d.1<12) (∃(F:Bool),aK (iB (jQ x)) h (jQ x).1 (cF 0 d.1 1) (nT (Value.bool F))/\branch F (pT K (jQ x) h) (aA (cC d.2) (d.2<12) (∃(G:
 Bool),aK (iB (jQ x)) h (j4 (jQ x)) (cF 0 d.2 1) (nT (Value.bool G))/\branch G (pT K (jQ x) h) (aA (cC d.1) (d.1<12) (gE (λc E=>aA (sK (iB (jQ x)) (jQ x).1 (fC c E 0)) (fE (cF 0 d.1 1) c) (∀(g:MH),bL (iB (jQ x)) g (jQ x).1 (nR c (cF 0 d.1 1) (nT Cv)) E->aA (cC d.2) (d.2<12) (gE (λj E1=>aA (sK g (j4 (jQ x)) (fC j E1 0)) (fE (cF 0 d.2 1) j) (∀(H:MH),bL g H (j4 (jQ x)) (nR j (cF 0 d.2 1) (nT Cv)) E1->∃(e:Nat×Sl×Sl×Nat×Nat×MH),aA (I e) (z e<z x) (aA (bF x.2.1 e.2.1) (bF x.2.2.1 e.2.2.1) (aA (fO (jQ x).1 (jQ e).1) (fO (j4 (jQ x)) (j4 (jQ e))) (aA (aG n.q.on) (a7 n.q.on) (bG (aU (aW x.1 1) e.1) (H=iB
 (jQ e)) (h=h))))))))))))))))))))))))))) (K eW (iB (jQ x)) h)))))))
structure Z5(m:MH)(b:Nat)(seen:dm):Prop where
 ex:∃bs:List Bool,m b=some (.cells ⟨bs.map Value.bool⟩ 302 (0,0))/\bs.length=12/\∀k:Nat,k<12->(bs[k]? =some true↔(k:Int)∈seen)
theorem Z5.zero(h:m b=some (.cells ⟨[.bool false,.bool false,.bool false,.bool false,.bool false,.bool false,.bool false,.bool false,.bool false,.bool false,.bool false,.bool false]⟩ 302 (0,0))):Z5 m b []:=
 ⟨⟨replicate 12 false,h,rfl,λk c=>cg⟩⟩
theorem Z5.look{c:dm}(x:Z5 m b c){n:Int}(f:0<=n)(g:n<12):∃y:Bool,aK m h b (0+n.toNat*1) [.bool y]/\(y=true↔n∈c):=by
 obtain⟨d,e,j,o⟩:=x.ex;have t:n.toNat<d.length:=by omega
 refine⟨d[n.toNat],.lent _ _ _ e ?_,?_⟩
 .simp only[Nat.zero_add,Nat.mul_one,de,length_nil];rw[drop_eq_getElem_cons cg];simp
 grind
theorem Z5.store{c:dm}(x:Z5 m b c){n:Int}(o:0<=n)(t:n<12):∃(cs:Array Value)(E:TypeId),sK m b (.cells cs E (0,0))/\0+n.toNat*1<cs.size/\∀m',gI m m' b (.cells ⟨splice cs.toList (0+n.toNat*1) [.bool true]⟩ E (0,0))->Z5 m' b (c++[n]):=by
 obtain⟨d,e,u,y⟩:=x.ex;have f:n.toNat<d.length:=by omega
 refine⟨_,_,⟨e⟩,cg,λm' g=>⟨d.set n.toNat true,?_,cg,λk j=>?_⟩⟩
 .rw[g.at_];congr 3;simp only[splice,Nat.zero_add,Nat.mul_one,de,length_nil];rw[set_eq_take_append_cons_drop,if_pos f];simp[map_take,map_drop]
 grind
theorem Z5.other{f:Nat}{d:dm}(x:Z5 m b d)(g:b≠f)(t:∀c,c≠f->m' c=m c):Z5 m' b d:=by
 obtain⟨j,e,n,o⟩:=x.ex;exact⟨j,cg,n,o⟩
theorem Ao.arg{n:NV}(x:Ao h s ps q ks n){j:Nat}{k:dm}(c:ks[j]? =some k):∃b o sl,n.args.a=some ⟨b,o,none⟩/\bB h b (o+j*1) [.slice sl.a sl.len sl.cap]/\Ints h sl k/\k.length<=12/\j<n.args.len:=by
 obtain⟨b,o,sl,e,r,d⟩:=x.ks_.at c;have:=(cn c);exact⟨b,o,sl,e,r,d,x.len k (cr c),by rw[x.ks_.slen];exact this⟩
theorem btQ{n:NV}(c:K (aQ ⟨0,0,⟨0,0,dL,dL,⟨none,0,0⟩⟩,⟨none,0,0⟩,⟨none,0,0⟩,n.q.group,n.q.order,n.q.limit,⟨none,0,0⟩⟩) m h):Qt n m h K:=c
theorem vA:di 265 Co:=by
 refine gO func265 ?_;rintro C m h K ⟨n,k,u,s,ps,q,ks,D,rfl,c,E,B⟩;refine⟨dG [(290,b0Q)] [] [] [] false,rfl,aD WU aF,Qu n k u m h K,bu,?_⟩;dsimp only[Qu,push_cast];have L:=c.ks_.slen;have F:=c.q_;have d:=c.q_;obtain⟨op,ta,w,co,on,gr,od,li,args⟩:=q;obtain⟨G,f,H,g,j,o,t,z,A⟩:=D;have x:=E.parts;have y:=F.parts;refine aB (λI=>⟨n.q,⟨n.q.op,u.table,u.where_,u.columns,u.on,u.group,u.order,u.limit,n.q.args⟩,_,.mk op f H g j o t z args,rfl,d,qD.rep ⟨y.op_,x.table_,x.where_,x.columns_,x.on_,x.group_,x.order_,x.limit_,y.args_⟩,λr J=>B r (J.trans ⟨λe=>⟨?_,e⟩,λe=>e.2⟩)⟩) (λI=>B false ⟨λe=>(by cases e),λe=>?_⟩)
 .grind
 grind
theorem Oo:di 267 OY:=by
 refine gO func267 ?_;rintro c m h K ⟨n,s,ps,q,ks,rfl,e,d⟩;refine⟨dG [] [] [] [] false,rfl,aF,Qt n m h K,bu,?_⟩;exact btQ d
theorem bsJ{n:NV}{op:Int}{on:dp}{args:dt}(z:Ao h s ps (.mk op ta w co on gr od li args) ks n)(ha:ks[0]? =some a)(X:∀r:Bool,(r=true↔vB a gr od li)->K (cB r) m h):GD n m h (lQ h K):=by
 dsimp only[GD,push_cast];have x:=z.q_.parts;have gl:=x.group_.slen;have Y:=x.group_.len;have ol:=x.order_.slen;have Z:=x.order_.len;have el:=x.limit_;obtain⟨b0,o0,sl,e0,r0,L,a',a0⟩:=z.arg ha;have M:=L.slen;have u:∀f,Sub m f->¬vB a gr od li->lQ h K (.val (.bool false)) f h:=λf hm z=>.sub hm (X false ⟨λe=>(by cases e),λe=>(z e).elim⟩);refine⟨b0,o0,e0,aC,aC,sl,.imm aC,λb m1 hb D=>?_⟩;refine⟨λ⟨i,F,b',f⟩=>F=a.length/\b'=b/\i<=gr.length/\Sub m f/\Z5 f b (gr.take i)/\gC (Lh a) gr i,λ⟨i,_,_,_⟩=>gr.length-i,⟨(0,sl.len,b,m1),⟨M,rfl,aC,(Sub.refl m).upd hb.m_ D.other,.zero D.at_,.zero⟩,MT⟩,?_⟩;rintro⟨i,F,b,f⟩ ⟨rfl,rfl,hi,d,j,O⟩;dsimp only;refine aE (λo=>?_) (λG=>?_)
 .obtain⟨c,A⟩:=eN gl o;obtain⟨P,Q,R,S⟩:=x.group_.at' A;have t:¬Lh a (gr.take i) c->lQ h K (.val (.bool false)) f h:=λz=>u f d λg=>Good.not A z g.group_;refine⟨P,Q,R,aC,o,c,.imm S,aE (λH=>t λg=>?_) (λH=>aE (λC=>t λg=>?_) (λC=>?_))⟩
  .have:=kV.1 g.1;omega
  .have:=kV.1 g.1;omega
  obtain⟨y,hy,T⟩:=j.look (h:=h) (n:=c) aC aC;refine⟨aC,aC,y,hy,aB (λh3=>t λg=>g.2 (T.1 h3)) (λh3=>?_)⟩;obtain⟨cs,E,U,V,W⟩:=j.store (n:=c) aC aC;refine⟨aC,aC,cs,E,U,V,λm2 I=>⟨(i+1,a.length,b,m2),⟨rfl,rfl,aC,d.upd hb.m_ I.other,?_,O.succ A ⟨kV.2 ⟨aC,aC⟩,λe=>?_⟩⟩,aC,MT⟩⟩
  .have:=W m2 I
   rwa [db,A]
  grind
 have gg:=O.all aC;refine⟨λ⟨i,F,f⟩=>F=a.length/\i<=od.length/\Sub m f/\gC (O2 a) od i,λ⟨i,_,_⟩=>od.length-i,⟨(0,a.length,f),⟨rfl,aC,d,.zero⟩,MT⟩,?_⟩;clear hi O G d j f;rintro⟨i,F,f⟩ ⟨rfl,hi,d,J⟩;dsimp only;refine aE (λo=>?_) (λG=>?_)
 .obtain⟨c,A⟩:=eN ol o;obtain⟨P,Q,R,S⟩:=x.order_.at A;have B:¬O2 a (od.take i) c->lQ h K (.val (.bool false)) f h:=λz=>u f d λg=>Good.not A z g.order_;refine⟨P,Q,R,aC,o,c,.imm S,aE (λH=>B λg=>?_) (λH=>aE (λC=>B λg=>?_) (λC=>⟨(i+1,a.length,f),⟨rfl,aC,d,J.succ A (kV.2 ⟨aC,aC⟩)⟩,aC,MT⟩))⟩
  .have:=kV.1 (show HQ a c.1=true from g);omega
  .have:=kV.1 (show HQ a c.1=true from g);omega
 have oo:=J.all aC;rw[el];refine aE (λH=>aE (λC=>?_) (λC=>u f d λg=>?_)) (λH=>u f d λg=>?_)
 .exact .sub d (X (decide (li<=100)) ⟨λe=>⟨gg,oo,aC,C,cm e⟩,λe=>decide_eq_true e.high⟩)
 .have:=g.low;omega
 .have:=g.len_;omega
theorem On:di 268 OZ:=by
 refine Ht func268 ?_;rintro c m h K ⟨n,s,ps,q,ks,a,rfl,d,f,g⟩;refine⟨aLQ n h,rfl,aF,GD n m h (lQ h K),bu,?_⟩;dsimp only[GD,push_cast];obtain⟨op,ta,w,co,on,gr,od,li,args⟩:=q;refine bsJ d f (λr j=>g r (j.trans ⟨λe=>⟨_,_,_,_,_,_,_,_,_,rfl,e⟩,?_⟩))
 grind
theorem V8{on:dp}{sl:Sl}(c:lE h sl on):bR h (.mk 0 0 gT [] on [] [] 0 []) ⟨0,0,⟨0,0,dL,dL,⟨none,0,0⟩⟩,⟨none,0,0⟩,sl,⟨none,0,0⟩,⟨none,0,0⟩,0,⟨none,0,0⟩⟩:=
 qD.rep ⟨rfl,rfl,Da h,⟨.nil _ _,bx⟩,c,⟨.nil _ _,bx⟩,⟨.nil _ _,bx⟩,rfl,.nil _ _ _ _⟩
theorem Oq:di 266 O1:=by
 refine Ht func266 ?_;rintro b4 m h K ⟨n,s,ps,q,ks,rfl,t,hK⟩;refine⟨aLX n h,rfl,aD vA aF,GF n m h (lQ h K),bu,?_⟩;dsimp only[GF,push_cast];obtain⟨op,ta,w,co,on,gr,od,li,args⟩:=q;show GF n m h (lQ h K);dsimp only[GF,push_cast];have x:=t.q_.parts;have ol:=x.on_.slen;have a6:=x.on_.len;have u:∀g,Sub m g->¬Mg ks (.mk op ta w co on gr od li args)->lQ h K (.val (.bool false)) g h:=λg U t=>.sub U (hK false ⟨λe=>(by cases e),λe=>(t e).elim⟩);refine⟨n,2,⟨0,0,⟨0,0,dL,dL,⟨none,0,0⟩⟩,⟨none,0,0⟩,n.q.on,⟨none,0,0⟩,⟨none,0,0⟩,0,⟨none,0,0⟩⟩,s,ps,_,ks,.mk 0 0 gT [] on [] [] 0 [],rfl,t,V8 x.on_,λr hr=>aB (λh1=>u m (Sub.refl m) λf=>?_) (λh1=>?_)⟩
 .have:r=true:=hr.2 ⟨by have:=f.1;omega,by obtain⟨_,rfl,rfl,rfl,rfl,rfl,rfl,_⟩:=f;rfl⟩
  grind
 obtain⟨V,H⟩:=hr.1 cg;simp only[Query.withOf,Query.mk.injEq]at H;obtain⟨_,rfl,rfl,rfl,_,rfl,rfl,rfl,_⟩:=H
 obtain⟨F,G,rfl⟩:∃F G,ks=[F,G]:=by
  match ks,V with
  |[F,G],_=>grind
  |[],h=>simp at h
  |[_],h=>simp at h
  |_::_::_::_,h=>grind
 obtain⟨b0,o0,I,e0,r0,i0,l0,j0⟩:=t.arg (j:=0) rfl;obtain⟨b1,o1,J,e1,r1,i1,l1,j1⟩:=t.arg (j:=1) rfl;have b5:=i0.slen;have b6:=i1.slen;have u:∀g,Sub m g->¬Good (Au F G) on->lQ h K (.val (.bool false)) g h:=λg U t=>u g U λf=>t f.2.2.2.2.2.2.2;refine⟨b0,o0,e0,aC,aC,I,.imm aC,b1,o1,e1,aC,aC,J,.imm aC,λb m1 hb A c m2 hc B=>?_⟩;have C:b≠c:=λe=>by have:=hc.m_;rw[<-e,A.at_]at this;cases this
 have L:Sub m m1:=(Sub.refl m).upd hb.m_ A.other;have M:m c=none:=L.free hc.m_
 refine⟨λ⟨i,s',t',b',c',g⟩=>s'=I/\t'=J/\b'=b/\c'=c/\i<=on.length/\Sub m g/\Z5 g b ((on.take i).map Prod.fst)/\Z5 g c ((on.take i).map Prod.snd)/\gC (Au F G) on i,λ⟨i,_,_,_,_,_⟩=>on.length-i,
  ⟨(0,I,J,b,c,m2),⟨rfl,rfl,rfl,rfl,aC,L.upd M B.other,(Z5.zero A.at_).other C B.other,.zero B.at_,.zero⟩,MT⟩,?_⟩
 rintro⟨i,I,J,b,c,g⟩ ⟨rfl,rfl,rfl,rfl,hi,o,hA,hB,hg⟩;dsimp only;refine aE (λO=>?_) (λb7=>.sub o (hK true ⟨λ_=>⟨rfl,rfl,rfl,rfl,rfl,rfl,rfl,hg.all aC⟩,λ_=>rfl⟩));obtain⟨p,P⟩:=eN ol O;obtain⟨bp,W,ep,rp⟩:=x.on_.at P;have d:¬Au F G (on.take i) p->lQ h K (.val (.bool false)) g h:=λt=>u g o (Good.not P t);refine⟨bp,W,ep,aC,O,p,.imm rp,aC,aC,aC,aC,aE (λd1=>d λf=>?_) (λd1=>aE (λd2=>d λf=>?_) (λd2=>aE (λd3=>d λf=>?_) (λd3=>aE (λd4=>d λf=>?_) (λd4=>?_))))⟩
 .have:=kV.1 f.1;omega
 .have:=kV.1 f.1;omega
 .have:=kV.1 f.2.1;omega
 .have:=kV.1 f.2.1;omega
 obtain⟨b2,o2,e2,r2⟩:=i0.inb (n:=p.1) aC aC;obtain⟨b3,o3,e3,r3⟩:=i1.inb (n:=p.2) aC aC;obtain⟨y,hy,X⟩:=hA.look (h:=h) (n:=p.1) aC aC;obtain⟨z,hz,Y⟩:=hB.look (h:=h) (n:=p.2) aC aC;obtain⟨cs,E,Z,a',a2⟩:=hA.store (n:=p.1) aC aC;refine⟨b2,o2,e2,aC,aC,_,.imm r2,b3,o3,e3,aC,aC,_,.imm r3,aB (λd5=>d λf=>?_) (λd5=>⟨aC,aC,y,hy,aB (λd6=>d λf=>?_) (λd6=>⟨aC,aC,z,hz,aB (λd7=>d λf=>?_) (λd7=>⟨aC,aC,cs,E,Z,a',λm3 D=>?_⟩)⟩)⟩)⟩
 .rw[f.2.2.1]at d5;simp at d5
 .obtain⟨q,T,e⟩:=mem_map.1 (X.1 d6);exact(f.2.2.2 q T).1 e
 .obtain⟨q,T,e⟩:=mem_map.1 (Y.1 d7);exact(f.2.2.2 q T).2 e
 have a3:=a2 m3 D;have a4:=hB.other C.symm D.other;obtain⟨a5,E2,Q,R,a9⟩:=a4.store (n:=p.2) aC aC;refine⟨aC,aC,a5,E2,Q,R,λm4 S=>⟨(i+1,I,J,b,c,m4),⟨rfl,rfl,rfl,rfl,aC,(o.upd hb.m_ D.other).upd M S.other,?_,?_,hg.succ P ⟨kV.2 ⟨aC,aC⟩,kV.2 ⟨aC,aC⟩,cg,λq T=>⟨λe=>?_,λe=>?_⟩⟩⟩,aC,MT⟩⟩
 .rw[iI P];exact a3.other C S.other
 .rw[iI P];grind
 .grind
 .grind
def fin(r:dm×Int):dm×Int:=if r.2=0 then xB r.1 else hX r.2
def Query.op:Query->Int
 |.mk op .. =>op
noncomputable def Ar(s:oL)(ps:dm)(q:Query)(ks:List dm):dm×Int:=if(ks.length:Int)=arity q.op then iE s ps q (ks.getD 0 []) (ks.getD 1 [])else hX 100
def As(P:Int->Prop):Vc.Spec:=λc m h K=>∃n s ps q ks,c=[aN n]/\Ao h s ps q ks n/\rK s/\P q.op/\∀r,fin r=Ar s ps q ks->KR K m h r
def bYX(h:PH)(c:Sl)(ks:List dm):Prop:=aZ h 1 eS (λk d=>Ints h d k) c ks
def M7:Vc.Spec:=λc m h K=>∃d ks,c=[cS d]/\bYX h d ks/\ks.length<=10/\(∀k∈ks,k.length<=12)/\∀e h',PH.le h h'->Ints h' e ks.flatten->K (cS e) m h'
noncomputable def aNX(n:NV)(m:MH)(h:PH):Ctx:=
 dG [(265,Co)] [(5,{A:=Nat×dm,st:=λ⟨i,l⟩=>bK 57 58 [(1,.at (.ptr 1 0)),(4,.at (.lst 25)),(28,sv n.q.columns),(29,iv n.q.columns.len),(30,iv i)] [(1,.cells 218 (n.enc.map .val)),(25,.lst 3 1 (l.map eI))] m h})] [] [] false
noncomputable abbrev uG(a b:Value):dj:=Dj a b sJ sJ sJ sJ eH iA
attribute [push_cast] uG
def GM(n:NV)(m:MH)(h:PH)(K:dk):Prop:=
  BO (gY n (gZ n (gX n))::bJ (fQ 0) (pN (uG eH (fB n.q.table)))) (λc k u=>gY c (gZ c (gX c))::bJ (fQ k) (dE u)) h (λk q d u r=>hU (gG r↔BS d k q u) (!r) (K (CV.tup (bA nK 100)) m h) (aR n.q.table 0 (K (CV.tup (bA nK 100)) m h) (fY n.q.table (iV n.s) (K (CV.tup (bA nK 100)) m h) (DD (bA (cV n.s) n.q.table) h (λs e=>K (CV.tup (bA (fD s) 0)) m e)))))
def GL(n:NV)(m:MH)(h:PH)(K:dk):Prop:=
  BO (gY n (gZ n (gX n))::bJ (fQ 1) (pN (a8 eH eH (a8 (fB n.q.where_.op) (fB n.q.where_.cmp) (a8 (qZ (mZ n.q)) (rA (mZ n.q)) (a8 (fB (lG (mZ n.q))) (lZ (mZ n.q)) (a8 (kZ (mZ n.q)) (qZ (gV n.q)) (a8 (rA (gV n.q)) (kM (gV n.q)) (a8 (lZ (gV n.q)) (kZ (gV n.q)) (a8 (Fb n.q) sJ (a8 sJ sJ (a8 sJ eH iA)))))))))))) (λd k u=>gY d (gZ d (gX d))::bJ (fQ k) (dE u)) h (λk q g u r=>hU (gG r↔BS g k q u) (!r) (K (CV.tup (bA nK 100)) m h) (cK n.args.a 0 n.args (λb o y=>aK m h b (cZ o) (aM y)/\F1 (fD y::dW n.params (dM n.q.where_)) h (λc p e=>fW (iL c p e) 0 (K (CV.tup (bA nK (iL c p e))) m h) (cK n.args.a 0 n.args (λj t f=>aK m h j (cZ t)
 (aM f)/\K (CV.tup (bA (fD f) 0)) m h))))))
def GK(n:NV)(m:MH)(h:PH)(K:dk):Prop:=
  BO (gY n (gZ n (gX n))::bJ (fQ 1) (pN (Dj eH eH (Fc n.q) sJ sJ sJ eH iA))) (λd k u=>gY d (gZ d (gX d))::bJ (fQ k) (dE u)) h (λk q t u r=>(gG r↔BS t k q u)->cH (!r) (K (CV.tup (bA nK 100)) m h) (aH n.q.columns==0) (K (CV.tup (bA nK 100)) m h) (aA (cC 0) (cC (aH n.q.columns)) (aA (sA (aH n.q.columns*8)) (sA (aH n.q.columns)) (∃(I:Nat×dm->Prop)(f:Nat×dm->Nat),(∃(x:Nat×dm),aA (I x) eY (aA (eL 25) (aG n.q.columns) (aA (a7 n.q.columns) (aY x.1) (aA (Ds n) (uA x.2) (bE (m=m) h h)))))/\∀(x:Nat×dm),I x->aR (↑x.1:Int) (aH n.q.columns) (eU n.q.columns.a 0 (↑x.1:Int) n.q.columns (λb o y=>aK m h b (bC o x.1 1) (cO y)/\aR y 0 (K (CV.tup
 (bA nK 100)) m h) (cK n.args.a 0 n.args (λz A g=>aK m h z (cZ A) (aM g)/\fY y (aH g) (K (CV.tup (bA nK 100)) m h) (cK n.args.a 0 n.args (λB C e=>aK m h B (cZ C) (aM e)/\eU e.a 0 y e (λD E j=>aA (aK m h D (cF E y 1) (cO j)) (yE (fH x.2)) (dH (fH x.2)/\∃(c:Nat×dm),aA (I c) (f c<f x) (aA eY (eL 25) (aA (aG n.q.columns) (a7 n.q.columns) (aA (aU (aW x.1 1) c.1) (Ds n) (bG (v8 (fH x.2) j c.2) (m=m) (h=h))))))))))))) (wB h (fH x.2) K m)))))
abbrev jB(a:Nat->Nat->Option Value)(b c:Nat)(d:Sl):Prop:=bB a b c (aM d)
noncomputable abbrev jZ(a:Sl):ei:=DZ (fD a)
attribute [push_cast] jB jZ
def GJ(n:NV)(m:MH)(h:PH)(K:dk):Prop:=
  ∃(c:NV),Dn (λs p q k=>aA (iY (gY n (gZ n (gX n))) (gY c (gZ c (gX c)))) (Ao h s p q k c) (∀(r:Bool),hU (gG r↔Mg k q) (!r) (K (CV.tup (bA nK 100)) m h) (cK n.args.a 0 n.args (λb o y=>aK m h b (cZ o) (aM y)/\cK n.args.a 1 n.args (λg j e=>aA (aK m h g (cE j) (aM e)) (jB h b (cZ o) y) (jB h g (cE j) e/\bU h 1 (aM y::iF (aM e)) (λB t=>∃(u:Sl)(d:List dm),aA (jZ B=jZ u) (bYX t u d) (aA (d.length<=10) (∀(z:dm),List.Mem z d->z.length<=12) (jT (λA f=>dD t f (Ints f A d.flatten) (K (CV.tup (bA (fD A) 0)) m f)))))))))))
def GI(n:NV)(m:MH)(h:PH)(K:dk):Prop:=
  ∃(c:NV),Dn (λs p q k=>aA (iY (gY n (gZ n (gX n))) (gY c (gZ c (gX c)))) (Ao h s p q k c) (∀(r:Bool),hU (gG r↔Mg k q) (!r) (K (CV.tup (bA nK 100)) m h) (cK n.args.a 0 n.args (λb o y=>aK m h b (cZ o) (aM y)/\K (CV.tup (bA (fD y) 0)) m h))))
def KI(n:NV)(m:MH)(h:PH)(K:dk):Prop:=
  BO (gY n (gZ n (gX n))::bJ (fQ 2) (pN zV)) (λc k u=>gY c (gZ c (gX c))::bJ (fQ k) (dE u)) h (λk q g u r=>hU (gG r↔BS g k q u) (!r) (K (CV.tup (bA nK 100)) m h) (cK n.args.a 0 n.args (λb o y=>aK m h b (cZ o) (aM y)/\cK n.args.a 1 n.args (λj t d=>aK m h j (cE t) (aM d)/\F0 y d h (λa z e=>hU (gG e↔a=z) (!e) (K (CV.tup (bA nK 100)) m h) (cK n.args.a 0 n.args (λA B f=>aK m h A (cZ B) (aM f)/\K (CV.tup (bA (fD f) 0)) m h)))))))
abbrev Fa(a:dm->dr->Prop):Prop:=∃(x:dm)(c:dr),a x c
attribute [push_cast] Fa
def GH(n:NV)(m:MH)(h:PH)(K:dk):Prop:=
  ∃(e:NV),Dn (λs p q k=>aA (iY (gY n (gZ n (gX n))) (gY e (gZ e (gX e)))) (Ao h s p q k e) (BO (gY n (gZ n (gX n))::bJ (fQ 1) (pN (Mn e.q))) (λd f u=>gY d (gZ d (gX d))::bJ (fQ f) (dE u)) h (λf C D u r=>hU (gG r↔BS D f C u) (!r) (K (CV.tup (bA nK 100)) m h) (∃(d:NV),Dn (λE F j z=>∃(a:dm),aA (iY (gY n (gZ n (gX n))) (gY d (gZ d (gX d)))) (Ao h E F j z d) (z[0]? =Option.some a/\∀(A:Bool),hU (gG A↔(∃(o t:Int)(w:Pred)(c:dm)(G:dp),Fa (λg B=>∃(l:Int)(H:dt),j=Query.mk o t w c G g B l H/\vB a g B l))) (!A) (K (CV.tup (bA nK 100)) m h) (cK n.args.a 0 n.args (λb o y=>aK m h b (cZ o)
 (aM y)/\K (CV.tup (bA (fD y) 0)) m h))))))))
def GG(n:NV)(m:MH)(h:PH)(K:dk):Prop:=
  ∃(e:NV),Dn (λs p q k=>aA (iY (gY n (gZ n (gX n))) (gY e (gZ e (gX e)))) (Ao h s p q k e) (BO (gY n (gZ n (gX n))::bJ (fQ 2) (pN (Mn e.q))) (λd j u=>gY d (gZ d (gX d))::bJ (fQ j) (dE u)) h (λj J L u r=>hU (gG r↔BS L j J u) (!r) (K (CV.tup (bA nK 100)) m h) (cK n.args.a 0 n.args (λb o y=>aK m h b (cZ o) (aM y)/\cK n.args.a 1 n.args (λz A f=>aK m h z (cE A) (aM f)/\F0 y f h (λa M C=>hU (gG C↔a=M) (!C) (aA (jB h b (cZ o) y) (jB h z (cE A) f) (K (CV.tup (bA nK 100)) m h)) (aA (jB h b (cZ o) y) (jB h z (cE A) f) (∃(d:NV),Dn (λO P D E=>∃(F:dm),aA (iY (gY n (gZ n (gX n))) (gY d (gZ d
 (gX d)))) (Ao h O P D E d) (E[0]? =Option.some F/\∀(G:Bool),hU (gG G↔(∃(B t:Int)(w:Pred)(c:dm)(Q:dp),Fa (λg H=>∃(l:Int)(R:dt),D=Query.mk B t w c Q g H l R/\vB F g H l))) (!G) (K (CV.tup (bA nK 100)) m h) (cK n.args.a 0 n.args (λS B I=>aK m h S (cZ B) (aM I)/\K (CV.tup (bA (fD I) 0)) m h)))))))))))))
theorem blX{e:Int}(h:e≠0):fin (hX e)=hX e:=by unfold fin;rw[if_neg (by simpa[hX]using h)];rfl
theorem blQ(l:dm):fin (l,0)=xB l:=by unfold fin;grind
structure Tst(K:dk)(m:MH)(h:PH)(full:dm×Int):Prop where
 all:∀r,fin r=full->KR K m h r
theorem Tst.err{f:dm×Int}{e:Int}(x:Tst K m h f)(d:f=hX e)(g:e≠0)(c:PH.le h h'):K (.tup [.val (.slice none 0 0),.val (.int .i64 e)]) m h':=
 (x.all (hX e) (by rw[d,blX g])).err c rfl
theorem Tst.ok{f:dm×Int}{sl:Sl}(x:Tst K m h f)(d:f=xB l)(c:PH.le h h')(e:Ints h' sl l):K (.tup [.val (.slice sl.a sl.len sl.cap),.val (.int .i64 0)]) m h':=
 x.all (l,0) (by rw[d,blQ]) sl h' c e
theorem w7(h:¬((ks.length:Int)=arity q.op/\eT q)):Ar s ps q ks=hX 100:=by
 unfold Ar;by_cases c:(ks.length:Int)=arity q.op
 .rw[if_pos c];unfold iE
  grind
 grind
theorem qN{s:oL}{ps:dm}{op ta:Int}{w:Pred}{co:dm}{on:dp}{gr:dm}{od:dr}{li:Int}{args:dt}{ks:List dm}(c:(ks.length:Int)=arity op)(d:eT (.mk op ta w co on gr od li args))(e:0<=arity op):
 Ar s ps (.mk op ta w co on gr od li args) ks=iE s ps (.mk op ta w co on gr od li args) (ks.getD 0 []) (ks.getD 1 [])/\¬(arity op<0\/¬eT (.mk op ta w co on gr od li args)):=by
 unfold Ar;rw[if_pos (show(ks.length:Int)=arity (Query.op (.mk op ta w co on gr od li args))from c)]
 grind
section
variable{n:NV}{s:oL}{ps:dm}{ta:Int}{w:Pred}{co:dm}{on:dp}{gr:dm}{od:dr}{li:Int}{args:dt}{ks:List dm}{m:MH}{h:PH}{K:dk}
theorem Wn(c:(ks.length:Int)=1):∃a,ks=[a]:=by
 match ks,c with
 |[a],_=>grind
 |[],h=>simp at h
 |_::_::_,h=>grind
theorem R9(c:(ks.length:Int)=2):∃a b,ks=[a,b]:=by
 match ks,c with
 |[a,b],_=>grind
 |[],h=>simp at h
 |[_],h=>simp at h
 |_::_::_::_,h=>grind
theorem bvQ(f:Ao h s ps (.mk 1 ta w co on gr od li args) ks n)(u:rK s)(c:Tst K m h (Ar s ps (.mk 1 ta w co on gr od li args) ks)):GM n m h K:=by
 dsimp only[GM,push_cast];have x:=f.q_.parts;have j:=x.table_;have y:=f.s_.tables.slen;refine⟨n,0,⟨0,n.q.table,⟨0,0,dL,dL,⟨none,0,0⟩⟩,⟨none,0,0⟩,⟨none,0,0⟩,⟨none,0,0⟩,⟨none,0,0⟩,0,⟨none,0,0⟩⟩,s,ps,_,ks,.mk 0 ta gT [] [] [] [] 0 [],rfl,f,qD.rep ⟨rfl,j,Da h,⟨.nil _ _,bx⟩,⟨.nil _ _,bx⟩,⟨.nil _ _,bx⟩,⟨.nil _ _,bx⟩,rfl,.nil _ _ _ _⟩,λr o=>aB (λz=>c.err (w7 λe=>?_) aC (.refl _)) (λz=>?_)⟩
 .have:r=true:=o.2 ⟨e.1,by have:=e.2;simp[eT]at this;obtain⟨rfl,rfl,rfl,rfl,rfl,rfl⟩:=this;rfl⟩
  grind
 obtain⟨A,d⟩:=o.1 cg;simp only[Query.withOf,Query.mk.injEq]at d;obtain⟨_,_,rfl,rfl,rfl,rfl,rfl,rfl,_⟩:=d;obtain⟨B,C⟩:=qN (s:=s) (ps:=ps) (op:=1) (ta:=ta) (w:=gT) (co:=[]) (on:=[]) (gr:=[]) (od:=[]) (li:=0) (args:=args) (ks:=ks) A (by simp[eT]) bz;rw[B]at c;unfold iE at c;rw[if_neg C]at c;dsimp only at c;rw[if_pos rfl]at c;refine aE (λD=>c.err (if_neg aC) aC (.refl _)) (λD=>aE (λE=>c.err (if_neg aC) aC (.refl _)) (λE=>⟨n.s,s,n.q.table,rfl,f.s_,u,λy h' g t=>?_⟩));rw[j]at t;exact c.ok (if_pos aC) g t
theorem buJ(f:Ao h s ps (.mk 2 ta w co on gr od li args) ks n)(c:Tst K m h (Ar s ps (.mk 2 ta w co on gr od li args) ks)):GL n m h K:=by
 dsimp only[GL,push_cast];have x:=f.q_.parts;refine⟨n,1,⟨0,0,n.q.where_,⟨none,0,0⟩,⟨none,0,0⟩,⟨none,0,0⟩,⟨none,0,0⟩,0,⟨none,0,0⟩⟩,s,ps,_,ks,.mk 0 0 w [] [] [] [] 0 [],rfl,f,qD.rep ⟨rfl,rfl,x.where_,⟨.nil _ _,bx⟩,⟨.nil _ _,bx⟩,⟨.nil _ _,bx⟩,⟨.nil _ _,bx⟩,rfl,.nil _ _ _ _⟩,λr o=>aB (λB=>c.err (w7 λe=>?_) aC (.refl _)) (λB=>?_)⟩
 .have:r=true:=o.2 ⟨e.1,by have:=e.2;simp[eT]at this;obtain⟨rfl,rfl,rfl,rfl,rfl,rfl⟩:=this;rfl⟩
  grind
 obtain⟨t,d⟩:=o.1 cg;simp only[Query.withOf,Query.mk.injEq]at d;obtain⟨_,rfl,_,rfl,rfl,rfl,rfl,rfl,_⟩:=d;obtain⟨C,D⟩:=qN (s:=s) (ps:=ps) (op:=2) (ta:=0) (w:=w) (co:=[]) (on:=[]) (gr:=[]) (od:=[]) (li:=0) (args:=args) (ks:=ks) t (by simp[eT]) bz;rw[C]at c;unfold iE at c;rw[if_neg D]at c;dsimp only at c;rw[if_neg bz,if_pos rfl]at c;obtain⟨a,rfl⟩:=Wn t;obtain⟨u,y,g,z,F,A,G,H⟩:=f.arg (j:=0) rfl;simp only[getD_cons_zero]at c;refine⟨u,y,z,aC,aC,g,.imm aC,g,n.params,n.q.where_,a,ps,w,rfl,A,f.ps_,x.where_,aB (λE=>c.err (if_neg cg) cg (.refl _)) (λE=>⟨u,y,z,aC,aC,g,.imm aC,c.ok (if_pos cg) (.refl _) A⟩)⟩
theorem buQ(t:Ao h s ps (.mk 5 ta w co on gr od li args) ks n)(d:Tst K m h (Ar s ps (.mk 5 ta w co on gr od li args) ks)):GI n m h K:=by
 dsimp only[GI,push_cast];refine⟨n,s,ps,_,ks,rfl,t,λr u=>aB (λy=>d.err ?_ aC (.refl _)) (λy=>?_)⟩
 .by_cases f:((ks.length:Int)=arity 5/\eT (.mk 5 ta w co on gr od li args))
  .obtain⟨g,o⟩:=qN (s:=s) (ps:=ps) f.1 f.2 bz;rw[g];unfold iE;rw[if_neg o];dsimp only;rw[if_neg bz,if_neg bz,if_neg bz,if_neg bz,if_pos rfl,if_neg];intro c;have e:=f.2;simp[eT]at e;have:r=true:=u.2 ⟨by have:=f.1;simp[arity]at this;omega,e.1,e.2.1,e.2.2.1,e.2.2.2.1,e.2.2.2.2.1,e.2.2.2.2.2,c⟩
   grind
  .exact w7 f
 obtain⟨z,rfl,rfl,rfl,rfl,rfl,rfl,c⟩:=u.1 cg;obtain⟨g,o⟩:=qN (s:=s) (ps:=ps) (op:=5) (ta:=0) (w:=gT) (co:=[]) (on:=on) (gr:=[]) (od:=[]) (li:=0) (args:=args) (ks:=ks) (by rw[z];rfl) (by simp[eT]) bz;rw[g]at d;unfold iE at d;rw[if_neg o]at d;dsimp only at d;rw[if_neg bz,if_neg bz,if_neg bz,if_neg bz,if_pos rfl,if_pos c]at d;obtain⟨a,b,rfl⟩:=R9 (ks:=ks) aC;obtain⟨A,B,C,D,F,E,G,H⟩:=t.arg (j:=0) rfl;exact⟨A,B,D,aC,aC,C,.imm aC,d.ok rfl (.refl _) E⟩
theorem buX(y:Ao h s ps (.mk 4 ta w co on gr od li args) ks n)(f:Tst K m h (Ar s ps (.mk 4 ta w co on gr od li args) ks)):GJ n m h K:=by
 dsimp only[GJ,push_cast];refine⟨n,s,ps,_,ks,rfl,y,λr D=>aB (λE=>f.err ?_ aC (.refl _)) (λE=>?_)⟩
 .by_cases o:((ks.length:Int)=arity 4/\eT (.mk 4 ta w co on gr od li args))
  .obtain⟨z,A⟩:=qN (s:=s) (ps:=ps) o.1 o.2 bz;rw[z];unfold iE;rw[if_neg A];dsimp only;rw[if_neg bz,if_neg bz,if_neg bz,if_pos rfl,if_neg];intro c;have e:=o.2;simp[eT]at e;have:r=true:=D.2 ⟨by have:=o.1;simp[arity]at this;omega,e.1,e.2.1,e.2.2.1,e.2.2.2.1,e.2.2.2.2.1,e.2.2.2.2.2,c⟩
   grind
  .exact w7 o
 obtain⟨d,rfl,rfl,rfl,rfl,rfl,rfl,c⟩:=D.1 cg;obtain⟨z,A⟩:=qN (s:=s) (ps:=ps) (op:=4) (ta:=0) (w:=gT) (co:=[]) (on:=on) (gr:=[]) (od:=[]) (li:=0) (args:=args) (ks:=ks) (by rw[d];rfl) (by simp[eT]) bz;rw[z]at f;unfold iE at f;rw[if_neg A]at f;dsimp only at f;rw[if_neg bz,if_neg bz,if_neg bz,if_pos rfl,if_pos c]at f;obtain⟨a,b,rfl⟩:=R9 (ks:=ks) aC;obtain⟨F,G,B,H,S,I,T,U⟩:=y.arg (j:=0) rfl;obtain⟨J,L,C,M,V,O,W,X⟩:=y.arg (j:=1) rfl;refine⟨F,G,H,aC,aC,B,.imm aC,J,L,M,aC,aC,C,.imm aC,aC,aC,λP h' g t=>⟨P,[a,b],rfl,⟨⟨[B,C],t,rfl,λj k d=>?_⟩,bx⟩,bx,λk d=>y.len k d,λQ e u R=>f.ok (l:=a++b) bx (g.trans u) cg⟩⟩
 match j,d with
 |0,d=>simp at d;subst d;exact⟨B,rfl,I.mono g⟩
 |1,d=>simp at d;subst d;exact⟨C,rfl,O.mono g⟩
 |_+2,d=>simp at d
theorem btJ{op:Int}(t:op=6\/op=7\/op=8)(o:Ao h s ps (.mk op ta w co on gr od li args) ks n)(d:Tst K m h (Ar s ps (.mk op ta w co on gr od li args) ks)):KI n m h K:=by
 dsimp only[KI,push_cast];have x:=o.q_.parts;have P:arity op=2:=by rcases t with rfl|rfl|rfl<;>rfl
 have c:op≠1/\op≠2/\op≠3/\op≠4/\op≠5/\op≠9/\op≠10:=by omega
 refine⟨n,2,⟨0,0,⟨0,0,dL,dL,⟨none,0,0⟩⟩,⟨none,0,0⟩,⟨none,0,0⟩,⟨none,0,0⟩,⟨none,0,0⟩,0,⟨none,0,0⟩⟩,s,ps,_,ks,.mk 0 0 gT [] [] [] [] 0 [],rfl,o,qD.rep ⟨rfl,rfl,Da h,⟨.nil _ _,bx⟩,⟨.nil _ _,bx⟩,⟨.nil _ _,bx⟩,⟨.nil _ _,bx⟩,rfl,.nil _ _ _ _⟩,λr z=>aB (λG=>d.err (w7 λe=>?_) aC (.refl _)) (λG=>?_)⟩
 .have A:(ks.length:Int)=arity op:=e.1;have:r=true:=z.2 ⟨aC,by have:=e.2;simp[eT,c]at this;obtain⟨rfl,rfl,rfl,rfl,rfl,rfl,rfl⟩:=this;rfl⟩
  grind
 obtain⟨H,f⟩:=z.1 cg;simp only[Query.withOf,Query.mk.injEq]at f;obtain⟨_,rfl,rfl,rfl,rfl,rfl,rfl,rfl,_⟩:=f;obtain⟨I,J⟩:=qN (s:=s) (ps:=ps) (op:=op) (ta:=0) (w:=gT) (co:=[]) (on:=[]) (gr:=[]) (od:=[]) (li:=0) (args:=args) (ks:=ks) aC (by simp[eT]) aC;rw[I]at d;unfold iE at d;rw[if_neg J]at d;dsimp only at d;rw[if_neg c.1,if_neg c.2.1,if_neg c.2.2.1,if_neg c.2.2.2.1,if_neg c.2.2.2.2.1,if_neg c.2.2.2.2.2.1,if_neg c.2.2.2.2.2.2]at d;obtain⟨a,b,rfl⟩:=R9 H;obtain⟨B,C,u,D,Q,E,R,S⟩:=o.arg (j:=0) rfl;obtain⟨L,M,F,A,T,O,U,V⟩:=o.arg (j:=1) rfl;refine⟨B,C,D,aC,aC,u,.imm aC,L,M,A,aC,aC,F,.imm aC,u,F,a,b,rfl,E,O,λW g=>aB (λy=>d.err (if_neg λe=>?_) aC (.refl _)) (λy=>⟨B,C,D,aC,aC,u,.imm aC,d.ok (if_pos (g.1 cg)) (.refl _) E⟩)⟩;have e:a=b:=e;rw[g.2 e]at y;cases y
theorem buZ(z:Ao h s ps (.mk 3 ta w co on gr od li args) ks n)(d:Tst K m h (Ar s ps (.mk 3 ta w co on gr od li args) ks)):GK n m h K:=by
 dsimp only[GK,push_cast];have x:=z.q_.parts;have E:=x.columns_.slen;have F:=x.columns_.len;refine⟨n,1,⟨0,0,⟨0,0,dL,dL,⟨none,0,0⟩⟩,n.q.columns,⟨none,0,0⟩,⟨none,0,0⟩,⟨none,0,0⟩,0,⟨none,0,0⟩⟩,s,ps,_,ks,.mk 0 0 gT co [] [] [] 0 [],rfl,z,qD.rep ⟨rfl,rfl,Da h,x.columns_,⟨.nil _ _,bx⟩,⟨.nil _ _,bx⟩,⟨.nil _ _,bx⟩,rfl,.nil _ _ _ _⟩,λr G=>aB (λQ=>d.err (w7 λe=>?_) aC (.refl _)) (λQ=>?_)⟩
 .have:r=true:=G.2 ⟨e.1,by have:=e.2;simp[eT]at this;obtain⟨rfl,rfl,rfl,rfl,rfl,rfl⟩:=this;rfl⟩
  grind
 obtain⟨H,o⟩:=G.1 cg;simp only[Query.withOf,Query.mk.injEq]at o;obtain⟨_,rfl,rfl,_,rfl,rfl,rfl,rfl,_⟩:=o;obtain⟨R,S⟩:=qN (s:=s) (ps:=ps) (op:=3) (ta:=0) (w:=gT) (co:=co) (on:=[]) (gr:=[]) (od:=[]) (li:=0) (args:=args) (ks:=ks) H (by simp[eT]) bz;rw[R]at d;unfold iE at d;rw[if_neg S]at d;dsimp only at d;rw[if_neg bz,if_neg bz,if_pos rfl]at d;obtain⟨a,rfl⟩:=Wn H;obtain⟨I,J,L,M,r0,O,l0,j0⟩:=z.arg (j:=0) rfl;have T:=O.slen;simp only[getD_cons_zero]at d;refine aB (λP=>d.err (if_neg λe=>e.1 ((Um E).1 P)) aC (.refl _)) (λP=>?_);have A:co≠[]:=λe=>cg
 refine⟨aC,aC,aC,aC,λ⟨i,l⟩=>i<=co.length/\l=(co.take i).map (λc=>a.getD c.toNat 0)/\gC (λ_ c=>HQ a c=true) co i,λ⟨i,_⟩=>co.length-i,⟨(0,[]),⟨aC,bx,.zero⟩,MT⟩,?_⟩;rintro⟨i,_⟩ ⟨hi,rfl,t⟩;dsimp only;refine aE (λu=>?_) (λU sl h' B f=>?_)
 .obtain⟨c,y⟩:=eN E u;obtain⟨V,W,C,X⟩:=x.columns_.at' y;have g:¬HQ a c=true->K (.tup [.val (.slice none 0 0),.val (.int .i64 100)]) m h:=λY=>d.err (if_neg λe=>Y (e.2 i c y)) aC (.refl _);refine⟨V,W,C,aC,u,c,.imm X,aE (λZ=>g λe=>?_) (λZ=>⟨I,J,M,aC,aC,L,.imm aC,aE (λd3=>g λe=>?_) (λd3=>?_)⟩)⟩
  .have:=kV.1 e;omega
  .have:=kV.1 e;omega
  obtain⟨b2,o2,D,r2⟩:=O.inb (n:=c) aC aC;refine⟨I,J,M,aC,aC,L,.imm aC,b2,o2,D,aC,aC,_,.imm r2,?_,?_,(i+1,(co.take (i+1)).map (λc=>a.getD c.toNat 0)),⟨aC,rfl,t.succ y (kV.2 ⟨aC,aC⟩)⟩,aC,?_⟩
  .simp;omega
  .simp;omega
  .rw[iI y,cv];exact MT
 .rw[cu aC]at f;exact d.ok (if_pos ⟨A,t.all aC⟩) B ⟨f,ce⟩
theorem btZ(d:Ao h s ps (.mk 9 ta w co on gr od li args) ks n)(c:Tst K m h (Ar s ps (.mk 9 ta w co on gr od li args) ks)):GH n m h K:=by
 dsimp only[GH,push_cast];have x:=d.q_.parts;refine⟨n,s,ps,_,ks,rfl,d,n,1,⟨0,0,⟨0,0,dL,dL,⟨none,0,0⟩⟩,⟨none,0,0⟩,⟨none,0,0⟩,n.q.group,n.q.order,n.q.limit,⟨none,0,0⟩⟩,s,ps,_,ks,.mk 0 0 gT [] [] gr od li [],rfl,d,qD.rep ⟨rfl,rfl,Da h,⟨.nil _ _,bx⟩,⟨.nil _ _,bx⟩,x.group_,x.order_,x.limit_,.nil _ _ _ _⟩,λr g=>aB (λt=>c.err (w7 λe=>?_) aC (.refl _)) (λt=>?_)⟩
 .have:r=true:=g.2 ⟨e.1,by have:=e.2;simp[eT]at this;obtain⟨rfl,rfl,rfl,rfl⟩:=this;rfl⟩
  grind
 obtain⟨o,f⟩:=g.1 cg;simp only[Query.withOf,Query.mk.injEq]at f;obtain⟨_,rfl,rfl,rfl,rfl,_,_,_,_⟩:=f;obtain⟨u,y⟩:=qN (s:=s) (ps:=ps) (op:=9) (ta:=0) (w:=gT) (co:=[]) (on:=[]) (gr:=gr) (od:=od) (li:=li) (args:=args) (ks:=ks) o (by simp[eT]) bz;rw[u]at c;unfold iE at c;rw[if_neg y]at c;dsimp only at c;rw[if_neg bz,if_neg bz,if_neg bz,if_neg bz,if_neg bz,if_pos rfl]at c;obtain⟨a,rfl⟩:=Wn o;obtain⟨z,A,B,C,G,D,H,I⟩:=d.arg (j:=0) rfl;refine⟨n,s,ps,_,[a],a,rfl,d,rfl,λJ E=>aB (λF=>c.err (if_neg λe=>?_) aC (.refl _)) (λF=>⟨z,A,C,aC,aC,B,.imm aC,c.ok (if_pos ?_) (.refl _) D⟩)⟩
 .grind
 grind
theorem btX(d:Ao h s ps (.mk 10 ta w co on gr od li args) ks n)(c:Tst K m h (Ar s ps (.mk 10 ta w co on gr od li args) ks)):GG n m h K:=by
 dsimp only[GG,push_cast];have x:=d.q_.parts;refine⟨n,s,ps,_,ks,rfl,d,n,2,⟨0,0,⟨0,0,dL,dL,⟨none,0,0⟩⟩,⟨none,0,0⟩,⟨none,0,0⟩,n.q.group,n.q.order,n.q.limit,⟨none,0,0⟩⟩,s,ps,_,ks,.mk 0 0 gT [] [] gr od li [],rfl,d,qD.rep ⟨rfl,rfl,Da h,⟨.nil _ _,bx⟩,⟨.nil _ _,bx⟩,x.group_,x.order_,x.limit_,.nil _ _ _ _⟩,λr t=>aB (λD=>c.err (w7 λe=>?_) aC (.refl _)) (λD=>?_)⟩
 .have:r=true:=t.2 ⟨e.1,by have:=e.2;simp[eT]at this;obtain⟨rfl,rfl,rfl,rfl⟩:=this;rfl⟩
  grind
 obtain⟨u,f⟩:=t.1 cg;simp only[Query.withOf,Query.mk.injEq]at f;obtain⟨_,rfl,rfl,rfl,rfl,_,_,_,_⟩:=f;obtain⟨E,F⟩:=qN (s:=s) (ps:=ps) (op:=10) (ta:=0) (w:=gT) (co:=[]) (on:=[]) (gr:=gr) (od:=od) (li:=li) (args:=args) (ks:=ks) u (by simp[eT]) bz;rw[E]at c;unfold iE at c;rw[if_neg F]at c;dsimp only at c;rw[if_neg bz,if_neg bz,if_neg bz,if_neg bz,if_neg bz,if_neg bz,if_pos rfl]at c;obtain⟨a,b,rfl⟩:=R9 u;obtain⟨y,z,g,A,P,B,Q,R⟩:=d.arg (j:=0) rfl;obtain⟨G,H,C,I,S,J,T,U⟩:=d.arg (j:=1) rfl;refine⟨y,z,A,aC,aC,g,.imm aC,G,H,I,aC,aC,C,.imm aC,g,C,a,b,rfl,B,J,λV o=>aB (λL=>⟨aC,aC,c.err (if_neg λe=>?_) aC (.refl _)⟩) (λL=>⟨aC,aC,n,s,ps,_,[a,b],a,rfl,d,rfl,λW M=>aB (λO=>c.err (if_neg λe=>?_) aC (.refl _)) (λO=>⟨y,z,A,aC,aC,g,.imm aC,c.ok (if_pos ⟨o.1 cg,?_⟩) (.refl _) B⟩)⟩)⟩
 .grind
 .grind
 .grind
end
def fv(f:Nat):CV:=.val (.func (.func f) #[] #[])
def RW:Vc.Spec:=λc m h K=>∃op,c=[cI op]/\
 branch (op==1) (K (fv 225) m h) (branch (op==2) (K (fv 226) m h) (branch (op==3) (K (fv 227) m h) (branch (op==4) (K (fv 228) m h) (branch (op==5) (K (fv 229) m h) (branch (op==6) (K (fv 230) m h) (branch (op==7) (K (fv 230) m h) (branch (op==8) (K (fv 230) m h) (branch (op==9) (K (fv 231) m h) (branch (op==10) (K (fv 232) m h) (K (.val .nilFunc) m h))))))))))
noncomputable def blJ(N:Nat)(sc:bW)(p:Sl)(v:QV)(m:MH):Ctx:=
 dG [(98,A3 N),(174,RW),(225,As (· =1)),(226,As (· =2)),(227,As (· =3)),(228,As (· =4)),(229,As (· =5)),(230,As (λop=>op=6\/op=7\/op=8)),(231,As (· =9)),(232,As (· =10))] [(3,{A:=Nat×dq×PH,st:=λ⟨i,c,h⟩=>bK 62 65 [(1,sv p),(3,.at (.ptr 3 0)),(5,.at (.ptr 5 0)),(8,.at (.ptr 8 0)),(21,sv v.args),(22,iv v.args.len),(23,iv i)] [(3,.cells 43 (sc.enc.map .val)),(5,.cells 38 (v.enc.map .val)),(8,.cells 218 ((sc.enc++eS p++v.enc).map .val++[.lst 41])),(41,.lst 33 1 (c.map eS))] m h})] [] [] false
noncomputable abbrev MP:dj:=nT Value.nilFunc
noncomputable abbrev nC(a:Nat):Value:=Value.func (Fn.func a) vG vG
attribute [push_cast] MP nC
def KN(op:Int)(m:MH)(h:PH)(K:dk):Prop:=
  ∀(b:Nat)(e:MH),aT (dZ m h b) (bL m e b (a8 Value.nilFunc Value.nilFunc (a8 Value.nilFunc Value.nilFunc (a8 Value.nilFunc Value.nilFunc (a8 Value.nilFunc Value.nilFunc (a8 Value.nilFunc Value.nilFunc MP))))) 273) (gE (λc E=>aA (sK e b (fC c E 0)) (11<=c.size) (∀(d:MH),bL e d b (a8 Value.nilFunc (nC 225) (a8 (nC 226) (nC 227) (a8 (nC 228) (nC 229) (a8 (nC 230) (nC 230) (a8 (nC 230) (nC 231) (jC (nC 232) 11 c)))))) E->aR op 0 (K (CV.val Value.nilFunc) d h) (fY op 11 (K (CV.val Value.nilFunc) d h) (aA (cC op) (op<11) (∃(y:Option Nat),aK d h b (cF 0 op 1) (nT (a0X y))/\K (CV.val (a0X y)) d h))))))
abbrev wC(a:Nat×dq×PH)(b:bW)(c:Sl)(d:QV)(e:Sl->dj)(g:NV->CV)(i:Query->Prop)(j:PH->(dm×Int)->Prop):Prop:=bU (fI a) 1 (pV a) (λx t=>∃(u:NV),Dn (λf y o z=>aA (DZ (pN (a8 (fB b.version) (fF b.tables) (a8 (fF c) (fB d.op) (a8 (fB d.table) (fB d.where_.op) (a8 (fB d.where_.cmp) (qZ (mZ d)) (e x))))))=DZ (g u)) (Ao t f y o z u) (aA (rK f) (i o) (∀(A:dm×Int),fin A=Ar f y o z->j t A))))
noncomputable abbrev wJ(a:QV)(b:dj):dj:=a8 (rA (mZ a)) (kM (mZ a)) (a8 (lZ (mZ a)) (kZ (mZ a)) (a8 (qZ (gV a)) (rA (gV a)) (a8 (fB (lG (gV a))) (lZ (gV a)) b)))
abbrev v7(a:PH)(b:dm×Int)(c:dk)(d:MH):Prop:=E5 a b (λx e=>cH (b.2 !=0) (c (CV.tup (bA nK b.2)) d e) (decide (aH x>12)) (c (CV.tup (bA nK 2)) d e) (c (CV.tup (bA (fD x) 0)) d e))
attribute [push_cast] wC wJ v7
def UG(N:Nat)(sc:bW)(p:Sl)(v:QV)(m:MH)(h:PH)(K:dk):Prop:=
  I8 (λI x=>aA (I x) (aG p) (aA cA dC (aA eZ (aG v.args) (aA (rP v) (aY x.1) (aA (bM sc) (cG v) (aA (eQ (oQ 218 (eO (Io sc) (Im sc) (eO (xG p) (iG v.op) (tF v::qU v (uV (rZ v) v.on v (uY v) (eO (xN v) (xG v.args) (vH (At.lst 41))))))))) (kN 33 1 (Cy 33 1 x.2.1)) (bE (m=m) h (fI x)))))))) (λI f x=>I x->aR (↑x.1:Int) (aH v.args) (bT (λb o=>aA (bX v.args.a b o) (0<=(↑x.1:Int)) ((↑x.1:Int)<aH v.args/\∃(y:QV),aK m (fI x) b (bC o x.1 21) y.enc/\Ix sc p y (fI x) (λg s e q=>aA (bR (fI x) q g) (lX q N) (E5 (fI x) (bZ s e q) (λj c=>fW (bZ s e q).2 0 (K (CV.tup (bJ nK (CV.val (fB (bZ s e q).2)))) m c) (Mz x (λd=>aA (I d) (f d<f x) (aA
 (aG p) cA (aA dC eZ (aA (aG v.args) (rP v) (aA (aU (aW x.1 1) d.1) (bM sc) (aA (cG v) (eQ (oQ 218 (eO (Io sc) (Im sc) (eO (xG p) (iG v.op) (tF v::qU v (uV (rZ v) v.on v (uY v) (eO (xN v) (xG v.args) (vH (At.lst 41))))))))) (bG (cD 33 1 (dY (pV x) (aM j))=Cy 33 1 d.2.1) (m=m) (c=fI d))))))))))))))) (yF v.op (λo=>cH (o==1) (wC x sc p v (λs=>wJ v (Ad (gV v) v v.on s)) (λn=>gY n (gZ n (gX n))) (λq=>q.op=1) (λc r=>v7 c r K m)) (o==2) (wC x sc p v (λs=>wJ v (Ad (gV v) v v.on s)) (λn=>gY n (gZ n (gX n))) (λq=>q.op=2) (λc r=>v7 c r K m)) (cH (o==3) (wC x sc p v (λs=>wJ v (Ad (gV v) v v.on s)) (λn=>gY n
 (gZ n (gX n))) (λq=>q.op=3) (λc r=>v7 c r K m)) (o==4) (wC x sc p v (λs=>wJ v (Ad (gV v) v v.on s)) (λn=>gY n (gZ n (gX n))) (λq=>q.op=4) (λc r=>v7 c r K m)) (cH (o==5) (wC x sc p v (λs=>wJ v (Ad (gV v) v v.on s)) (λn=>gY n (gZ n (gX n))) (λq=>q.op=5) (λc r=>v7 c r K m)) (o==6) (wC x sc p v (λs=>wJ v (Ad (gV v) v v.on s)) (λn=>gY n (gZ n (gX n))) (λq=>q.op=6\/q.op=7\/q.op=8) (λc r=>v7 c r K m)) (cH (o==7) (wC x sc p v (λs=>wJ v (Ad (gV v) v v.on s)) (λn=>gY n (gZ n (gX n))) (λq=>q.op=6\/q.op=7\/q.op=8) (λc r=>v7 c r K m)) (o==8) (wC x sc p v (λs=>wJ v (Ad (gV v) v v.on s)) (λn=>
 gY n (gZ n (gX n))) (λq=>q.op=6\/q.op=7\/q.op=8) (λc r=>v7 c r K m)) (cH (o==9) (wC x sc p v (λs=>wJ v (Ad (gV v) v v.on s)) (λn=>gY n (gZ n (gX n))) (λq=>q.op=9) (λc r=>v7 c r K m)) (o==10) (wC x sc p v (λs=>wJ v (Ad (gV v) v v.on s)) (λn=>gY n (gZ n (gX n))) (λq=>q.op=10) (λc r=>v7 c r K m)) (K (CV.tup (bA nK 100)) m (fI x)))))))))
theorem XY:di 174 RW:=by
 refine Ht func174 ?_;rintro u m h K ⟨op,rfl,f⟩;refine⟨vM [] [] [] [] [273] [] false,rfl,aF,KN op m h (lQ h K),bu,?_⟩;show KN op m h (lQ h K);dsimp only[KN,push_cast];intro b L t g;refine⟨_,_,⟨g.at_⟩,bz,λy j=>?_⟩;have c:Sub m y:=((Sub.refl m).upd t.m_ g.other).upd t.m_ j.other;have e:=j.at_
 have d:∀k,¬(1<=op/\op<=10)->op=k->K (.val .nilFunc) m h:=λk M _=>by
  have:(op==1)=false/\(op==2)=false/\(op==3)=false/\(op==4)=false/\(op==5)=false/\(op==6)=false/\(op==7)=false/\(op==8)=false/\(op==9)=false/\(op==10)=false:=by
   grind
  obtain⟨z,A,B,C,D,E,F,G,H,o⟩:=this;rw[z,A,B,C,D,E,F,G,H,o]at f;exact f
 refine aE (λI=>.sub c (d _ aC rfl)) (λI=>aE (λJ=>.sub c (d _ aC rfl)) (λJ=>⟨aC,aC,?_⟩));have:op=0\/op=1\/op=2\/op=3\/op=4\/op=5\/op=6\/op=7\/op=8\/op=9\/op=10:=by omega
 rcases this with rfl|rfl|rfl|rfl|rfl|rfl|rfl|rfl|rfl|rfl|rfl
 .exact⟨none,.lent _ _ _ e rfl,.sub c (d 0 aC rfl)⟩
 .exact⟨some 225,.lent _ _ _ e rfl,.sub c f⟩
 .exact⟨some 226,.lent _ _ _ e rfl,.sub c f⟩
 .exact⟨some 227,.lent _ _ _ e rfl,.sub c f⟩
 .exact⟨some 228,.lent _ _ _ e rfl,.sub c f⟩
 .exact⟨some 229,.lent _ _ _ e rfl,.sub c f⟩
 .exact⟨some 230,.lent _ _ _ e rfl,.sub c f⟩
 .exact⟨some 230,.lent _ _ _ e rfl,.sub c f⟩
 .exact⟨some 230,.lent _ _ _ e rfl,.sub c f⟩
 .exact⟨some 231,.lent _ _ _ e rfl,.sub c f⟩
 .exact⟨some 232,.lent _ _ _ e rfl,.sub c f⟩
theorem Xw:di 225 (As (· =1)):=by
 refine gO func225 ?_;rintro d m h K ⟨n,s,ps,q,ks,rfl,e,f,c,g⟩;obtain⟨op,ta,w,co,on,gr,od,li,args⟩:=q;refine⟨dG [(265,Co),(139,zT)] [] [] [] false,rfl,(aD vA (aD OD aF)),GM n m h K,bu,?_⟩;dsimp only[GM,push_cast];cases (show op=1 from c);exact bvQ e f ⟨g⟩
theorem Xv:di 226 (As (· =2)):=by
 refine gO func226 ?_;rintro d m h K ⟨n,s,ps,q,ks,rfl,e,g,c,f⟩;obtain⟨op,ta,w,co,on,gr,od,li,args⟩:=q;refine⟨dG [(265,Co),(156,vC)] [] [] [] false,rfl,(aD vA (aD OB aF)),GL n m h K,bu,?_⟩;dsimp only[GL,push_cast];cases (show op=2 from c);exact buJ e ⟨f⟩
theorem Xu:di 227 (As (· =3)):=by
 refine gO func227 ?_;rintro d m h K ⟨n,s,ps,q,ks,rfl,e,g,c,f⟩;obtain⟨op,ta,w,co,on,gr,od,li,args⟩:=q;refine⟨aNX n m h,rfl,(aD vA aF),GK n m h K,bu,?_⟩;dsimp only[GK,push_cast];cases (show op=3 from c);exact buZ e ⟨f⟩
theorem Xt(c:di 164 M7):di 228 (As (· =4)):=by
 refine gO func228 ?_;rintro e m h K ⟨n,s,ps,q,ks,rfl,f,j,d,g⟩;obtain⟨op,ta,w,co,on,gr,od,li,args⟩:=q;refine⟨dG [(266,O1),(164,M7)] [] [] [] false,rfl,(aD Oq (aD c aF)),GJ n m h K,bu,?_⟩;dsimp only[GJ,push_cast];cases (show op=4 from d);exact buX f ⟨g⟩
theorem Xs:di 229 (As (· =5)):=by
 refine gO func229 ?_;rintro d m h K ⟨n,s,ps,q,ks,rfl,e,g,c,f⟩;obtain⟨op,ta,w,co,on,gr,od,li,args⟩:=q;refine⟨dG [(266,O1)] [] [] [] false,rfl,(aD Oq aF),GI n m h K,bu,?_⟩;dsimp only[GI,push_cast];cases (show op=5 from c);exact buQ e ⟨f⟩
theorem Xr:di 230 (As (λop=>op=6\/op=7\/op=8)):=by
 refine gO func230 ?_;rintro d m h K ⟨n,s,ps,q,ks,rfl,e,g,c,f⟩;obtain⟨op,ta,w,co,on,gr,od,li,args⟩:=q;refine⟨dG [(265,Co),(162,C0)] [] [] [] false,rfl,(aD vA (aD Hx aF)),KI n m h K,bu,?_⟩;exact btJ c e ⟨f⟩
theorem Xq:di 231 (As (· =9)):=by
 refine gO func231 ?_;rintro d m h K ⟨n,s,ps,q,ks,rfl,e,g,c,f⟩;obtain⟨op,ta,w,co,on,gr,od,li,args⟩:=q;refine⟨dG [(265,Co),(267,OY),(268,OZ)] [] [] [] false,rfl,(aD vA (aD Oo (aD On aF))),GH n m h K,bu,?_⟩;dsimp only[GH,push_cast];cases (show op=9 from c);exact btZ e ⟨f⟩
theorem Xp:di 232 (As (· =10)):=by
 refine gO func232 ?_;rintro d m h K ⟨n,s,ps,q,ks,rfl,e,g,c,f⟩;obtain⟨op,ta,w,co,on,gr,od,li,args⟩:=q;refine⟨dG [(265,Co),(162,C0),(267,OY),(268,OZ)] [] [] [] false,rfl,(aD vA (aD Hx (aD Oo (aD On aF)))),GG n m h K,bu,?_⟩;dsimp only[GG,push_cast];cases (show op=10 from c);exact btX e ⟨f⟩
theorem Ze(F:di 164 M7):∀N,di 98 (A3 N)
 |0=>by
  refine eC (fn:=Tryz.f98) (c:=cL Tryz.f98) func98 rfl bz ?_;rintro S m h K ⟨sc,p,v,s,ps,q,rfl,_,_,_,_,hN,_⟩;omega
 |N+1=>by
  refine gO func98 ?_;rintro S m h K ⟨sc,p,v,s,ps,q,rfl,hs,C,hp,hq,hN,B⟩;refine⟨blJ N sc p v m,rfl,(aD (Ze F N) (aD XY (aD Xw (aD Xv (aD Xu (aD (Xt F) (aD Xs (aD Xr (aD Xq (aD Xp aF)))))))))),UG N sc p v m h K,bu,?_⟩;dsimp only[UG,push_cast];have T:=@tQ q;have U:=hq;obtain⟨op,ta,w,co,on,gr,od,li,args⟩:=q;have x:=hq.parts;have D:=x.op_;have hl:=x.args_.slen;have a':=x.args_.len;simp only[Query.args]at T;simp only[bZ]at B;refine⟨λ⟨i,G,L⟩=>i<=args.length/\PH.le h L/\∃ks,Slices L G ks/\(args.take i).map (bZ s ps)=ks.map (λk=>(k,0)),λ⟨i,_,_⟩=>args.length-i,⟨(0,[],h),⟨aC,.refl _,[],⟨rfl,λj s k V=>by simp at V⟩,bx⟩,MT⟩,?_⟩;rintro⟨i,G,L⟩ ⟨hi,y,ks,P,A⟩;have W:ks.length=i:=by have:=congrArg List.length A;grind
  have X:G.length=i:=by rw[P.1,W]
  dsimp only;refine aE (λH=>?_) (λa0=>?_)
  .obtain⟨Q,I⟩:=eN hl H;obtain⟨b1,o1,u,Y,r1,Z⟩:=(x.args_.mono y).at I;refine⟨b1,o1,Y,aC,H,u,.imm r1,sc,p,u,s,ps,Q,rfl,hs.mono y,C,hp.mono y,Z,?_,λg h' d E=>aB (λV=>?_) (λV=>?_)⟩
   .grind
   .have he:(bZ s ps Q).2≠0:=cg
    rw[Fk he A I rfl]at B;exact B.err (y.trans d) (if_neg he)
   .have he:(bZ s ps Q).2=0:=cg
    refine⟨ce,ce,(i+1,G++[g],h'),⟨aC,y.trans d,ks++[(bZ s ps Q).1],(P.mono d).snoc E,?_⟩,aC,?_⟩
    .rw[iI I,A,cv]
     grind
    .rw[cv];exact MT
  .rw[cu aC]at A;rw[Bt A]at B;simp only[if_true]at B;have B:KR K m h (Ar s ps (.mk op ta w co on gr od li args) ks):=B
   have o:∀(g:Sl)(h':PH),PH.le L h'->bN h' g 1 (G.map eS)->Ao h' s ps (.mk op ta w co on gr od li args) ks ⟨sc,p,v,g⟩:=λg h' d f=>by
    refine⟨(hs.mono y).mono d,(hp.mono y).mono d,(U.mono y).mono d,⟨⟨G,f,P.1.symm,λj k hk=>?_⟩,aC⟩,λk hk=>?_⟩
    .have hj:j<G.length:=cg
     exact⟨G[j],cq hj,(P.2 j _ _ (cq hj) hk).mono d⟩
    .obtain⟨j,hj⟩:=mem_iff_getElem?.1 hk;have:=Kg A j
     grind
   have t:∀(h':PH),PH.le L h'->∀r,fin r=Ar s ps (.mk op ta w co on gr od li args) ks->∀(g:Sl)(z:PH),PH.le h' z->Ints z g r.1->
    branch (r.2 !=0) (K (.tup [.val (.slice none 0 0),.val (.int .i64 r.2)]) m z) (branch (decide ((g.len:Int)>12)) (K (.tup [.val (.slice none 0 0),.val (.int .i64 2)]) m z) (K (.tup [.val (.slice g.a g.len g.cap),.val (.int .i64 0)]) m z)):=by
    intro h' d r hr g z M E;have J:PH.le h z:=(y.trans d).trans M;rw[<-hr]at B;have X:=E.slen;refine aB (λR=>?_) (λR=>aE (λd2=>?_) (λd2=>?_))
    .have R:r.2≠0:=cg
     exact B.err J (by unfold fin;grind)
    .have R:r.2=0:=cg
     exact B.big (l:=r.1) J (by unfold fin;grind) aC
    .have R:r.2=0:=cg
     exact B.ok (l:=r.1) J (by unfold fin;grind) aC E.row
   refine⟨v.op,rfl,?_⟩;rw[D];refine aB (λc1 g h' d f=>⟨⟨sc,p,v,g⟩,s,ps,_,ks,by rw[<-D],o g h' d f,C,beq_iff_eq.1 c1,t h' d⟩) (λc1=>?_);refine aB (λc2 g h' d f=>⟨⟨sc,p,v,g⟩,s,ps,_,ks,by rw[<-D],o g h' d f,C,beq_iff_eq.1 c2,t h' d⟩) (λc2=>?_);refine aB (λc3 g h' d f=>⟨⟨sc,p,v,g⟩,s,ps,_,ks,by rw[<-D],o g h' d f,C,beq_iff_eq.1 c3,t h' d⟩) (λc3=>?_);refine aB (λc4 g h' d f=>⟨⟨sc,p,v,g⟩,s,ps,_,ks,by rw[<-D],o g h' d f,C,beq_iff_eq.1 c4,t h' d⟩) (λc4=>?_);refine aB (λc5 g h' d f=>⟨⟨sc,p,v,g⟩,s,ps,_,ks,by rw[<-D],o g h' d f,C,beq_iff_eq.1 c5,t h' d⟩) (λc5=>?_);refine aB (λc6 g h' d f=>⟨⟨sc,p,v,g⟩,s,ps,_,ks,by rw[<-D],o g h' d f,C,.inl (beq_iff_eq.1 c6),t h' d⟩) (λc6=>?_);refine aB (λc7 g h' d f=>⟨⟨sc,p,v,g⟩,s,ps,_,ks,by rw[<-D],o g h' d f,C,.inr (.inl (beq_iff_eq.1 c7)),t h' d⟩) (λc7=>?_);refine aB (λc8 g h' d f=>⟨⟨sc,p,v,g⟩,s,ps,_,ks,by rw[<-D],o g h' d f,C,.inr (.inr (beq_iff_eq.1 c8)),t h' d⟩) (λc8=>?_);refine aB (λc9 g h' d f=>⟨⟨sc,p,v,g⟩,s,ps,_,ks,by rw[<-D],o g h' d f,C,beq_iff_eq.1 c9,t h' d⟩) (λc9=>?_);refine aB (λO g h' d f=>⟨⟨sc,p,v,g⟩,s,ps,_,ks,by rw[<-D],o g h' d f,C,beq_iff_eq.1 O,t h' d⟩) (λO=>B.err y ?_);refine w7 λe=>?_;have:arity op= -1:=by simp only[arity];grind
   have:=e.1;simp only[Query.op]at this;omega
def hZ:PV:=⟨0,0,dL,dL,⟨none,0,0⟩⟩
theorem H7(l:dp):cT 2 (l.map mJ):=by
 constructor
 .intro e c;obtain⟨x,_,rfl⟩:=mem_map.1 c;rfl
 .intro e c u d;obtain⟨x,_,rfl⟩:=mem_map.1 c;simp[mJ]at d;rcases d with rfl|rfl<;>rfl
theorem H6(l:dr):cT 2 (l.map pO):=by
 constructor
 .intro e c;obtain⟨x,_,rfl⟩:=mem_map.1 c;rfl
 .intro e c u d;obtain⟨x,_,rfl⟩:=mem_map.1 c;simp[pO]at d;rcases d with rfl|rfl<;>rfl
end Go.Ps
