/- Own work. -/
import Derived.Test.YtjpjambjoceofaaGreatDoorEb
set_option linter.unusedVariables false
set_option linter.unusedSimpArgs false
namespace Go.Ps
open Go Go.Vc Go.Proofs List Tryz
variable{K:bz}{m:MH}{h:PH}{s:jE}{ps:ca}{cb:Nat}{sc:cE}{v:QV}{p:Pred}{l:ca}{i:Nat}{N:Nat}{m':MH}{h':PH}{co:ca}{gr:ca}{od:cg}{ta:Int}{li:Int}{xs:List bx}{sz:Nat}{ks:List ca}{rs:ca}{r:Sl}{a:ca}{b:Nat}
theorem TQ:Tryz.prog.underlying 9=some .string:=bd
theorem Cf:KeyLaw Tryz.prog 9 (λv=>∃s,v= .string s):=by
 refine⟨⟨_,TQ⟩,?_,?_,?_⟩
 .rintro _ w b ⟨s,rfl⟩
  have e:∀n:Nat,(Instr.checkKey b (n+1) 9 (.string s)).run Tryz.prog w= .ok () w:=λn=>by
   unfold Instr.checkKey;simp only[Sem.run_bind,run_underlying TQ,Result.andThen];simp
  exact e 9999
 .rintro _ _ w ⟨s,rfl⟩ ⟨t,rfl⟩;refine⟨_,run_equalIn_string w 9999 9 s t TQ,?_⟩;rw[beq_iff_eq];exact⟨λe=>by rw[Cd e],λe=>bk⟩
 .rintro d _ _ r c ⟨s,rfl⟩ ⟨t,rfl⟩ h;rw[TQ]at c;cases c;simp only[Instr.sameNow,Option.some.injEq]at h;subst h;rw[beq_toListBytes,beq_iff_eq];exact⟨λe=>by rw[Cd e],λe=>bk⟩
def fI{α:Type}(T:List α->α->Prop)(l:List α)(i:Nat):Prop:=∀j x,j<i->l[j]? =some x->T (l.take j) x
def Good{α:Type}(T:List α->α->Prop)(l:List α):Prop:=∀(j:Nat) x,l[j]? =some x->T (l.take j) x
theorem fI.zero{α:Type}{T:List α->α->Prop}{l:List α}:fI T l 0:=λ_ _ h=>by omega
theorem fI.succ{α:Type}{T:List α->α->Prop}{l:List α}{x:α}(h:fI T l i)(d:l[i]? =some x)(t:T (l.take i) x):fI T l (i+1):=by
 intro j y f c;by_cases e:j=i
 .grind
 .exact h j y aD c
theorem fI.all{α:Type}{T:List α->α->Prop}{l:List α}(h:fI T l i)(d:l.length<=i):Good T l:=λj x c=>h j x bk c
theorem Good.not{α:Type}{T:List α->α->Prop}{l:List α}{x:α}(c:l[i]? =some x)(t:¬T (l.take i) x):¬Good T l:=λh=>t (h i x c)
def XD(d:List rF)(c:rF):Prop:=pL c.name=true/\dJ c.kind=true/\c.name∉d.map rF.name
def D7(c:List Dr)(t:Dr):Prop:=pL t.name=true/\1<=t.key/\t.key<=t.columns.length/\t.name∉c.map Dr.name/\Good XD t.columns
def jR(s:jE)(t:Int):ca:=if t<0 then[]else match s.tables[t.toNat]? with|none=>[]|some t=>t.columns.map rF.kind
def CB(s:jE)(t:Int):Bool:=decide (0<=t)&&decide (t<s.tables.length)
def aS(v:cE):CV:=.val (.agg ⟨v.enc⟩)
def mM(s:jE):Prop:=∀t∈s.tables,t.columns.length<=8
def cwQ:Vc.Spec:=λc m h K=>∃v s t,c=[aS v,cI t]/\gZ h s v/\K (cB (CB s t)) m h
def zI:Vc.Spec:=λc m h K=>∃v s t,c=[aS v,cI t]/\gZ h s v/\mM s/\∀d h',PH.le h h'->Ints h' d (jR s t)->K (cS d) m h'
noncomputable def Ut(m:MH)(h:PH):Ctx:=
 dA [] [(5,{A:=Nat×Sl×ca,st:=λx=>bQ 35 37 [(5,.at (.lst 32)),(22,sv x.2.1),(23,iv x.2.1.len),(24,iv x.1)] [(32,.lst 3 1 (x.2.2.map eI))] m h})] [] [] false
noncomputable def bsJ(m:MH)(h:PH):Ctx:=
 dA [(175,cwQ)] [(5,{A:=Nat×Sl×ca,st:=λx=>bQ 38 40 [(5,.at (.lst 19)),(25,sv x.2.1),(26,iv x.2.1.len),(27,iv x.1)] [(19,.lst 3 1 (x.2.2.map eI))] m h})] [] [] false
noncomputable abbrev mD(a:cE):Int:=aH a.tables
attribute [push_cast] mD
def Sz(v:cE)(t:Int)(m:MH)(h:PH)(K:bz):Prop:=
  gM t 0 (K (Bc (decide (t<mD v))) m h) (K aX m h)
abbrev eK(a:Option Addr)(b:Int)(c:Sl)(d:Nat->Nat->Sl->Prop):Prop:=bJ (λx e=>aA (bM a x e) (0<=b) (b<aH c/\∃(f:Sl),d x e f))
noncomputable abbrev yI(a:cE):Option Addr:=a.tables.a
noncomputable abbrev bA(a:Sl):bx:=oK (fK a)
abbrev N5(a:cE)(b:Int)(c:MH)(d:PH)(e g:Nat->Nat)(i:Nat)(j:Sl->Sl)(k:Sl->(Nat×Sl×ca->Prop)->(Nat×Sl×ca)->Prop)(l:(Nat×Sl×ca->Prop)->(Nat×Sl×ca->Nat)->(Nat×Sl×ca)->Prop):Prop:=eK (yI a) b a.tables (λx t n=>aU c d (e x) (fU (g t) b 5+i) (bA (j n))/\∃(o:Nat×Sl×ca->Prop)(u:Nat×Sl×ca->Nat),(∃(f:Nat×Sl×ca),k n o f)/\∀(f:Nat×Sl×ca),l o u f)
abbrev bS(a b:Sl):Prop:=sQs a=sQs b
noncomputable abbrev oI(a:Nat×Sl×ca):Sl:=a.2.1
abbrev cG(a b:Sl):Prop:=bD (FP a.len) b.len
abbrev qZ(a b:Nat)(c:List bx):Prop:=Option.some (Own.lst a b [])=Option.some (Own.lst a b c)
abbrev tL(a:List bx):Prop:=qZ 3 1 a
noncomputable abbrev cZ(a:ca):List bx:=List.map eI a
abbrev fC(a:Nat):Prop:=a<=140737488355328
noncomputable abbrev iY(a:List bx)(b:Nat):Nat:=a.length+b
abbrev jQ(a:List bx):Prop:=a.length<140737488355328
abbrev N4(a:Prop)(b:Nat×Sl×ca)(c:Int)(d:Nat->Nat->rF->Prop)(e:rF->(Nat×Sl×ca)->Prop)(g:Prop):Prop:=a->aZ (↑b.1:Int) (aH (oI b)) (bJ (λx f=>aA (bM (oI b).a x f) (c<=(↑b.1:Int)) ((↑b.1:Int)<aH (oI b)/\∃(j:rF),aA (d x f j) (fC (iY (cZ b.2.2) 1*8)) (jQ (cZ b.2.2)/\∃(n:Nat×Sl×ca),e j n)))) g
noncomputable abbrev rX(a:ByteArray)(b:Int):bx:=jK (Value.string a) (eF b)
abbrev jV(a:List bx)(b:ca):Prop:=Option.some (Own.lst 3 1 a)=Option.some (Own.lst 3 1 (cZ b))
noncomputable abbrev kP(a:bx):List bx:=[a]
noncomputable abbrev eN(a:List bx)(b:bx):List bx:=a++kP b
abbrev iR(a:Sl->PH->Prop):Prop:=∀(x:Sl)(c:PH),a x c
abbrev cC(a:Nat->Nat->Option Value)(b:PH)(c d:Prop):Prop:=PH.le a b->c->d
abbrev bO(a:PH)(b:Nat)(c:List bx)(d:Sl->PH->Prop):Prop:=iR (λx e=>cC a e (cD e x b c) (d x e))
attribute [push_cast] eK yI bA N5 bS oI cG qZ tL cZ fC iY jQ N4 rX jV kP eN iR cC bO
def Wt(v:cE)(t:Int)(m:MH)(h:PH)(K:bz):Prop:=
  aZ t 0 (K j8 m h) (gM t (mD v) (K j8 m h) (N5 v t m h (λb=>b) (λo=>o) 1 (λy=>y) (λy I x=>aA (I x) (eL 32) (aA (bS y (oI x)) (cG y (oI x)) (aA (bB x.1) (tL (cZ x.2.2)) (aA (m=m) (h=h) True)))) (λI d x=>N4 (I x) x 0 (λb o y=>aU m h b (bK o x.1 2) (rX y.name y.kind)) (λy c=>aA (I c) (d c<d x) (aA (eL 32) (bS (oI x) (oI c)) (aA (cG (oI x) (oI c)) (bD (fZ (bE x.1 1)) c.1) (aA (jV (eN (cZ x.2.2) (bG y.kind)) c.2.2) (m=m) (bN h h))))) (bO h 1 (cZ x.2.2) (λs e=>K (fJ s) m e)))))
abbrev xG(a:cE->jE->Prop):Prop:=∃(x:cE)(c:jE),a x c
noncomputable abbrev wF(a:cE):Value:=eF a.version
noncomputable abbrev wE(a:cE):Value:=fK a.tables
noncomputable abbrev cJ(a:cE):CV:=lS (jK (wF a) (wE a))
abbrev vW(a:Int):Prop:=a<=281474976710656
abbrev vA(a:Sl)(b:Int):Prop:=vW (aH a*b)
attribute [push_cast] xG wF wE cJ vW vA
def S8(v:cE)(t:Int)(m:MH)(h:PH)(K:bz):Prop:=
  xG (λg s=>∃(j:Int),aA (aW (cJ v) t=aW (cJ g) j) (gZ h s g) (iM (CB s j) (K j8 m h) (eK (yI v) t v.tables (λb o y=>aA (aU m h b (fU o t 5+1) (bA y)) (bZ 0) (aA (bZ (aH y)) (vA y 8) (vW (aH y)/\N5 v t m h (λe=>e) (λf=>f) 1 (λc=>c) (λc I x=>aA (I x) (eL 19) (aA (bS c (oI x)) (cG c (oI x)) (aA (bB x.1) (tL (cZ x.2.2)) (aA (m=m) (h=h) True)))) (λI n x=>N4 (I x) x 0 (λe f c=>aU m h e (bK f x.1 2) (rX c.name c.kind)) (λc d=>aA (I d) (n d<n x) (aA (eL 19) (bS (oI x) (oI d)) (aA (cG (oI x) (oI d)) (bD (fZ (bE x.1 1)) d.1) (aA (jV (eN (cZ x.2.2) (bG c.kind)) d.2.2) (m=m) (bN h h))))) (bO h 1 (cZ x.2.2) (λu
 z=>K (fJ u) m z)))))))))
theorem bL.part{o:Nat}{l:bx}(r:bL h b o l)(k n:Nat):bL h b (o+k) ((l.drop k).take n):=
 ⟨λi v e=>by
  have:l[k+i]? =some v:=by
   grind
  have:=r.rd (k+i) v this
  grind⟩
theorem FW.at{s:Sl}{l:List rF}(r:FW h s l){x:rF}(c:l[i]? =some x):∃b o,s.a=some ⟨b,o,none⟩/\bL h b (o+i*2) (rF.enc x):=by
 obtain⟨b,o,v,e,k,rfl⟩:=bY.at r c
 grind
theorem Gn{t:Int}(h:¬(0<=t/\t<s.tables.length)):jR s t=[]:=by
 unfold jR
 grind
theorem Ng{t:Int}{x:Dr}(h:0<=t)(c:s.tables[t.toNat]? =some x):jR s t=x.columns.map rF.kind:=by
 unfold jR
 grind
theorem gZ.table{v:cE}(c:gZ h s v){t:Int}(f:0<=t)(g:t<(v.tables.len:Int)):∃x b o w,s.tables[t.toNat]? =some x/\v.tables.a=some ⟨b,o,none⟩/\bL h b (o+t.toNat*5) (cK.enc w)/\Qy h x w:=by
 have j:=c.tables.slen;have d:s.tables[t.toNat]? =some (s.tables[t.toNat]'(by omega)):=getElem?_eq_getElem _;obtain⟨b,o,w,e,r,k⟩:=c.tables.at d
 grind
theorem iX{α β:Type}{f:α->β}{l:List α}{x:α}(c:l[i]? =some x):(l.take (i+1)).map f=(l.take i).map f++[f x]:=by
 rw[take_add_one,c];simp
theorem P5:bu 175 cwQ:=by
 refine hU func175 ?_;rintro e m h K ⟨v,s,t,rfl,f,d⟩;refine⟨dA [] [] [] [] false,rfl,aG,Sz v t m h K,bd,?_⟩;dsimp only[Sz,push_cast];have g:=f.tables.slen;refine aF (λc=>jM d ?_) (λc=>jM d ?_)
 .have c:0<=t:=c;simp only[CB,g,decide_eq_true c,Bool.true_and]
 .have c:¬0<=t:=by omega
  simp only[CB,decide_eq_false c,Bool.false_and]
theorem L4:bu 46 zI:=by
 refine hU func46 ?_;rintro D m h K ⟨v,s,t,rfl,A,E,n⟩;refine⟨Ut m h,rfl,aG,Wt v t m h K,bd,?_⟩;dsimp only[Wt,push_cast];have M:=A.tables.slen;have d:jR s t=[]->K (.val (.slice none 0 0)) m h:=λe=>n ⟨none,0,0⟩ h (.refl _) (by rw[e];exact⟨.nil _ _,bf⟩);refine aF (λF=>d (Gn aD)) (λF=>aF (λG=>d (Gn aD)) (λG=>?_));obtain⟨x,b,o,w,B,H,I,f⟩:=A.table (t:=t) aD aD;have J:=E x (mem_of_getElem? B);have u:=bY.slen f.columns;rw[Ng aD B]at n;refine⟨b,o,H,aD,aD,w.columns,.imm (bL.part I 1 1),λ⟨i,y,l⟩=>y=w.columns/\i<=x.columns.length/\l=(x.columns.take i).map rF.kind,λ⟨i,_,_⟩=>x.columns.length-i,⟨(0,w.columns,[]),⟨rfl,bf,bf⟩,MT⟩,?_⟩;rintro⟨i,_,_⟩ ⟨rfl,O,rfl⟩;dsimp only;refine aF (λj=>?_) (λL y h' z g=>?_)
 .obtain⟨c,C⟩:=eT u j;obtain⟨b,o,e,r⟩:=FW.at f.columns C;refine⟨b,o,e,aD,j,c,.imm r,?_,?_,(i+1,w.columns,(x.columns.take (i+1)).map rF.kind),⟨rfl,aD,rfl⟩,aD,?_⟩
  .simp;omega
  .simp;omega
  .rw[iX C,map_append];exact MT
 .rw[take_of_length_le aD]at g;exact n y h' z ⟨g,bj⟩
theorem Fw:bu 139 zI:=by
 refine hU func139 ?_;rintro G m h K ⟨v,s,t,rfl,n,H,u⟩;refine⟨bsJ m h,rfl,aE P5 aG,S8 v t m h K,bd,?_⟩;dsimp only[S8,push_cast];have L:=n.tables.slen;have g:jR s t=[]->K (.val (.slice none 0 0)) m h:=λe=>u ⟨none,0,0⟩ h (.refl _) (by rw[e];exact⟨.nil _ _,bf⟩);refine⟨v,s,t,rfl,n,aC (λy=>g (Gn ?_)) (λy=>?_)⟩
 .simp only[CB,Bool.not_eq_true',Bool.and_eq_false_iff,decide_eq_false_iff_not]at y;omega
 simp only[CB,Bool.not_eq_false',Bool.and_eq_true,decide_eq_true_eq]at y;obtain⟨x,b,o,w,C,D,E,d⟩:=n.table (t:=t) aD aD;have I:=H x (mem_of_getElem? C);have z:=bY.slen d.columns;rw[Ng aD C]at u;refine⟨b,o,D,aD,aD,w.columns,.imm (bL.part E 1 1),aD,aD,aD,aD,b,o,D,aD,aD,w.columns,.imm (bL.part E 1 1),λ⟨i,A,l⟩=>A=w.columns/\i<=x.columns.length/\l=(x.columns.take i).map rF.kind,λ⟨i,_,_⟩=>x.columns.length-i,⟨(0,w.columns,[]),⟨rfl,bf,bf⟩,MT⟩,?_⟩;rintro⟨i,_,_⟩ ⟨rfl,M,rfl⟩;dsimp only;refine aF (λj=>?_) (λJ A h' B f=>?_)
 .obtain⟨c,F⟩:=eT z j;obtain⟨b,o,e,r⟩:=FW.at d.columns F;refine⟨b,o,e,aD,j,c,.imm r,?_,?_,(i+1,w.columns,(x.columns.take (i+1)).map rF.kind),⟨rfl,aD,rfl⟩,aD,?_⟩
  .simp;omega
  .simp;omega
  .rw[iX F,map_append];exact MT
 .rw[take_of_length_le aD]at f;exact u A h' B ⟨f,bj⟩
def Sub(m m':MH):Prop:=∀b o,m b=some o->m' b=some o
theorem Sub.refl(m:MH):Sub m m:=λ_ _ e=>e
theorem Sub.free(h:Sub m m')(c:m' b=none):m b=none:=by
 cases e:m b with
 |none=>rfl
 |some o=>rw[h b o e]at c;cases c
theorem Sub.upd{f:MH}(h:Sub m f)(j:m b=none)(g:∀c,c≠b->m' c=f c):Sub m m':=λc o e=>by
 have d:c≠b:=λn=>bk
 rw[g c d,h c o e]
def MI(m:MH)(b:Nat)(c:dk):Prop:=xS m b (c.map λn=>(.string n,.bool true))
theorem MI.other{d:Nat}{e:dk}(h:MI m b e)(f:b≠d)(o:∀c,c≠d->m' c=m c):MI m' b e:=by
 obtain⟨g,j,t,n⟩:=h.ex;exact⟨g,j,bk,n⟩
def bFZ:Vc.Spec:=λc m h K=>∃v s,c=[aS v]/\gZ h s v/\∀r:Bool,(r=true↔Good D7 s.tables)->K (cB r) m h
def bAJ:Vc.Spec:=λc m h K=>∃v s t,∃i:Nat,c=[aS v,cI i]/\gZ h s v/\s.tables[i]? =some t/\∀r:Bool,(r=true↔D7 (s.tables.take i) t)->K (cB r) m h
noncomputable def bpJ(v:cE)(h:PH):Ctx:=
 dA [(217,axJ)] [(3,{A:=Nat×Nat×MH,st:=λ⟨i,c,d⟩=>bQ 79 80 [(3,vv (.map (some c))),(11,sv v.tables),(12,iv v.tables.len),(13,iv i)] [] d h}),
  (10,{A:=Nat×Nat×Nat×Nat×Sl×MH,st:=λ⟨i,k,c,f,e,d⟩=>bQ 79 80 [(3,vv (.map (some c))),(6,vv (.map (some f))),(11,sv v.tables),(12,iv v.tables.len),(13,iv i),(45,sv e),(46,iv e.len),(47,iv k)] [] d h})] [] [] false
noncomputable def bqJ(v:cE)(i:Nat)(m:MH)(h:PH):Ctx:=
 dA [(216,axJ),(151,bGJ)] [(5,{A:=Nat×cK,st:=λ⟨k,w⟩=>bQ 94 96 [(1,iv i),(2,.at (.ptr 2 0)),(5,.at (.ptr 5 0)),(6,iv k)] [(2,.cells 43 (v.enc.map .val)),(5,.cells 87 (w.enc.map .val))] m h}),
  (10,{A:=Nat×cK,st:=λ⟨k,w⟩=>bQ 94 96 [(5,.at (.ptr 5 0)),(53,iv w.columns.len),(54,iv k)] [(5,.cells 87 (w.enc.map .val))] m h}),
  (15,{A:=Nat×Nat×cK,st:=λ⟨k,j,w⟩=>bQ 94 96 [(5,.at (.ptr 5 0)),(7,iv k),(8,iv j),(53,iv w.columns.len),(54,iv k)] [(5,.cells 87 (w.enc.map .val))] m h})] [] [] false
abbrev CO(a:MH)(b:PH)(c:Nat->MH->Prop):Prop:=jY a b (λx d=>iL a d x (Obj.map (Array.mk []) 0)) (λx d=>c x d)
abbrev j5(a b:Nat):Prop:=SV.at (At.val (Value.map (Option.some a)))=SV.at (At.val (Value.map (Option.some b)))
abbrev tH(a:cE):Prop:=aI a.tables
abbrev kJ(a:cE):Prop:=bI a.tables
abbrev GZ(a:Prop)(b:Nat)(c:cE)(d:Nat->Nat->cK->Prop)(e:Prop):Prop:=a->aZ (↑b:Int) (aH c.tables) (bJ (λx f=>aA (bM (yI c) x f) (0<=(↑b:Int)) ((↑b:Int)<aH c.tables/\∃(g:cK),d x f g))) e
noncomputable abbrev Ax(a:cK):bx:=aM (Value.string a.name) (fK a.columns) (aM (eF a.key) (fK a.references) (bA a.checks))
noncomputable abbrev kL(a:ByteArray):CV:=CV.val (Value.string a)
abbrev pO(a:bz)(b:Nat×Nat×MH)(c:PH):Prop:=a aX (gT b) c
abbrev Fh(a:Value->Prop):Prop:=KeyLaw Proofs.Tryz.prog 9 a
abbrev JW(a:MH)(b:Nat)(c:(Value->Prop)->Prop)(d:(Value×Bool)->Prop)(e:Prop)(g:(List (Value×Bool))->Bool->Prop):Prop:=∃(x:List (Value×Bool))(j:Value->Prop),aA (xS a b (List.map (fun(f:Value×Bool)=>(f.1,Value.bool f.2)) x)) (Fh j) (aA (c j) (∀(f:Value×Bool),List.Mem f x->j f.1) (((∀(f:Value×Bool),List.Mem f x->d f->False)->e)/\∀(f:Bool),g x f))
noncomputable abbrev AF(a:cK):Value:=Value.string a.name
noncomputable abbrev AJ(a:cK):Int:=aH a.columns
abbrev X6(a:cm->(Value->Prop)->Prop):Prop:=∃(x:cm)(c:Value->Prop),a x c
abbrev Kr(a:Nat->Option Obj)(b:Nat)(c:(Value->Prop)->Prop)(d:cm->cm)(e:(Value×Value)->Value×Value)(g:Value)(i:cm->Prop):Prop:=X6 (λx j=>aA (xS a b x) (Fh j) (aA (c j) (∀(f:Value×Value),List.Mem f x->j f.1) ((∀(f:Value×Value),List.Mem f (d x)->(e f).1=g->False)/\i x)))
noncomputable abbrev DB(a b:Value):cm:=[(a,b)]
noncomputable abbrev Bk:Value:=Value.bool true
noncomputable abbrev DE(a:Nat×Nat×Nat×Nat×Sl×MH):Nat:=a.2.2.2.1
abbrev cM(a b:Nat):Prop:=bD (FP a) b
noncomputable abbrev xF(a:Nat×Nat×Nat×Nat×Sl×MH):Sl:=a.2.2.2.2.1
noncomputable abbrev vU(a:Nat×Nat×Nat×Nat×Sl×MH):Nat->Option Obj:=a.2.2.2.2.2
noncomputable abbrev Dy(a:rF):Value:=Value.string a.name
abbrev JK(a:Nat×Nat×Nat×Nat×Sl×MH)(b:rF)(c:MH->Prop):Prop:=Kr (vU a) (DE a) (λx=>x (Dy b)) (λx=>x) (λx=>x) (Dy b) (λx=>∀(d:MH),rM (vU a) d (DE a)->xS d (DE a) (x++DB (Dy b) Bk)->c d)
abbrev uZ(a:rF)(b:Int)(c:Prop)(d:Nat×Nat×Nat×Nat×Sl×MH->Prop)(e:Nat×Nat×Nat×Nat×Sl×MH->Nat)(g:Nat×Nat×Nat×Nat×Sl×MH)(i:cE)(j:(Nat×Nat×Nat×Nat×Sl×MH)->Prop):Prop:=branch (a.kind !=b) c (∃(x:Nat×Nat×Nat×Nat×Sl×MH),aA (d x) (e x<e g) (aA (j5 g.2.2.1 x.2.2.1) (j5 (DE g) (DE x)) (aA (aI i.tables) (kJ i) (aA (cM g.1 x.1) (bS (xF g) (xF x)) (j x)))))
abbrev u6(a b:Nat×Nat×Nat×Nat×Sl×MH)(c:MH)(d:PH):Prop:=tI (cG (xF a) (xF b)) (bD (fZ (bE a.2.1 1)) b.2.1) (c=vU b) d d
attribute [push_cast] CO j5 tH kJ GZ Ax kL pO Fh JW AF AJ X6 Kr DB Bk DE cM xF vU Dy JK uZ u6
def Ml(v:cE)(m:MH)(h:PH)(K:bz):Prop:=
  CO m h (λb G=>∃(I:Nat×Nat×MH->Prop)(C:Nat×Nat×MH->Nat),Oj (λx=>aA (I x) (j5 b (iP x)) (aA (tH v) (kJ v) (bP (bB x.1) (G=gT x) (h=h)))) (λx=>GZ (I x) x.1 v (λH o y=>aU (gT x) h H (bK o x.1 5) (Ax y)/\∃(s:ByteArray),qF (kL y.name) (kL s) (iM (pL s) (pO K x h) (JW (gT x) (iP x) (λO=>O (AF y)) (λe=>e.1=AF y) (aZ y.key 1 (pO K x h) (fA y.key (AJ y) (pO K x h) (Kr (gT x) (iP x) (λO=>O (AF y)) (λk=>k) (λe=>e) (AF y) (λk=>∀(t:MH),rM (gT x) t (iP x)->xS t (iP x) (k++DB (AF y) Bk)->CO t h (λD E=>∃(I1:Nat×Nat×Nat×Nat×Sl×MH->Prop)(n:Nat×Nat×Nat×Nat×Sl×MH->Nat),(∃(c:Nat×Nat×
 Nat×Nat×Sl×MH),aA (I1 c) (j5 (iP x) c.2.2.1) (aA (j5 D (DE c)) (tH v) (aA (kJ v) (cM x.1 c.1) (aA (bS y.columns (xF c)) (cG y.columns (xF c)) (bP (bB c.2.1) (E=vU c) (h=h))))))/\∀(c:Nat×Nat×Nat×Nat×Sl×MH),I1 c->aZ (↑c.2.1:Int) (aH (xF c)) (bJ (λu z=>aA (bM (xF c).a u z) (0<=(↑c.2.1:Int)) ((↑c.2.1:Int)<aH (xF c)/\∃(g:rF),aU (vU c) h u (bK z c.2.1 2) (rX g.name g.kind)/\∃(A:ByteArray),qF (kL g.name) (kL A) (iM (pL A) (K aX (vU c) h) (JW (vU c) (DE c) (λO=>O (Dy g)) (λe=>e.1=Dy g) (JK c g (λf=>uZ g 3 (uZ g 4 (uZ g 5 (K aX f h) I1 n c v (λd=>u6 c d f h)) I1 n c v (λd=>u6
 c d f h)) I1 n c v (λd=>u6 c d f h))) (λB j=>iU (List.Mem (Dy g,j) B) j (K aX (vU c) h) (JK c g (λf=>uZ g 3 (uZ g 4 (uZ g 5 (K aX f h) I1 n c v (λd=>u6 c d f h)) I1 n c v (λd=>u6 c d f h)) I1 n c v (λd=>u6 c d f h))))))))) (∃(d:Nat×Nat×MH),aA (I d) (C d<C x) (aA (j5 c.2.2.1 (iP d)) (tH v) (aA (kJ v) (bD (fZ (bE c.1 1)) d.1) (aA (vU c=gT d) (h=h) True))))))))) (λk g=>iU (List.Mem (AF y,g) k) g (pO K x h) (aZ y.key 1 (pO K x h) (fA y.key (AJ y) (pO K x h) (Kr (gT x) (iP x) (λO=>O (AF y)) (λB=>B) (λe=>e) (AF y) (λB=>∀(t:MH),rM (gT x) t (iP x)->xS t (iP x) (B++DB (AF y)
 Bk)->CO t h (λD E=>∃(I1:Nat×Nat×Nat×Nat×Sl×MH->Prop)(n:Nat×Nat×Nat×Nat×Sl×MH->Nat),(∃(c:Nat×Nat×Nat×Nat×Sl×MH),aA (I1 c) (j5 (iP x) c.2.2.1) (aA (j5 D (DE c)) (tH v) (aA (kJ v) (cM x.1 c.1) (aA (bS y.columns (xF c)) (cG y.columns (xF c)) (bP (bB c.2.1) (E=vU c) (h=h))))))/\∀(c:Nat×Nat×Nat×Nat×Sl×MH),I1 c->aZ (↑c.2.1:Int) (aH (xF c)) (bJ (λu z=>aA (bM (xF c).a u z) (0<=(↑c.2.1:Int)) ((↑c.2.1:Int)<aH (xF c)/\∃(j:rF),aU (vU c) h u (bK z c.2.1 2) (rX j.name j.kind)/\∃(A:ByteArray),qF (kL j.name) (kL A) (iM (pL A) (K aX (vU c) h) (JW (vU c) (DE c) (λO=>O (Dy j)) (λe=>e.1=Dy j)
 (JK c j (λf=>uZ j 3 (uZ j 4 (uZ j 5 (K aX f h) I1 n c v (λd=>u6 c d f h)) I1 n c v (λd=>u6 c d f h)) I1 n c v (λd=>u6 c d f h))) (λJ F=>iU (List.Mem (Dy j,F) J) F (K aX (vU c) h) (JK c j (λf=>uZ j 3 (uZ j 4 (uZ j 5 (K aX f h) I1 n c v (λd=>u6 c d f h)) I1 n c v (λd=>u6 c d f h)) I1 n c v (λd=>u6 c d f h))))))))) (∃(d:Nat×Nat×MH),aA (I d) (C d<C x) (aA (j5 c.2.2.1 (iP d)) (tH v) (aA (kJ v) (bD (fZ (bE c.1 1)) d.1) (aA (vU c=gT d) (h=h) True))))))))))))) (gK K (gT x) h)))
abbrev NX(a:(Nat×cK->Prop)->(Nat×cK)->Prop)(b:(Nat×cK->Prop)->(Nat×cK->Nat)->(Nat×cK)->Prop):Prop:=∃(x:Nat×cK->Prop)(d:Nat×cK->Nat),(∃(c:Nat×cK),a x c)/\∀(c:Nat×cK),b x d c
noncomputable abbrev LK(a:cE):cw:=lV (gC a.version) (vK a.tables)
abbrev cL(a:cE):Prop:=eQ (oQ 43 (LK a))
noncomputable abbrev oD(a:At):cw:=[a]
noncomputable abbrev gX(a:cK):cw:=cO (UH a.name) (vK a.columns) (cO (gC a.key) (vK a.references) (oD (vK a.checks)))
abbrev EL(a:cK)(b:Nat×cK):Prop:=oQ 87 (gX a)=oQ 87 (gX b.2)
abbrev Oi(a:Option Addr)(b:Int)(c:Nat)(d:Sl)(e:Nat->Nat->ByteArray->Prop):Prop:=bJ (λx f=>aA (bM a x f) (b<=(↑c:Int)) ((↑c:Int)<aH d/\∃(g:ByteArray),e x f g))
noncomputable abbrev tT(a:Nat×Nat×cK):Nat:=a.2.1
noncomputable abbrev mE(a:Nat×Nat×cK):cK:=a.2.2
attribute [push_cast] NX LK cL oD gX EL Oi tT mE
def SX(v:cE)(i:Nat)(m:MH)(h:PH)(K:bz):Prop:=
  bJ (λb o=>aA (bM (yI v) b o) (0<=(↑i:Int)) ((↑i:Int)<aH v.tables/\∃(y:cK),aU m h b (bK o i 5) (Ax y)/\∃(s:ByteArray),qF (kL y.name) (kL s) (cW (!(pL s)) (K aX m h) (AJ y==0) (K aX m h) (aZ y.key 1 (K aX m h) (fA y.key (AJ y) (K aX m h) (NX (λI x=>aA (I x) (eQ (FP i)) (aA dQ dR (aA (bB x.1) (cL v) (aA (EL y x) (m=m) (bN h h))))) (λI n x=>I x->aZ (↑x.1:Int) (↑i:Int) (Oi (yI v) 0 x.1 v.tables (λg j f=>aU m h g (bK j x.1 5+0) (oK (Value.string f))/\branch (f.toList==x.2.name.toList) (K aX m h) (∃(c:Nat×cK),aA (I c) (n c<n x) (aA (eQ (FP i)) dQ (aA dR (bD (fZ (bE x.1 1)) c.1) (aA (cL v) (EL x.2 c) (aA (m=m) (h=h) True))))))) (NX (fun
 I1 c=>aA (I1 c) dR (aA (cG x.2.columns c.2.columns) (bB c.1) (bP (EL x.2 c) (m=m) (h=h)))) (λI1 t c=>I1 c->aZ (↑c.1:Int) (aH c.2.columns) (bJ (λg j=>aA (bM c.2.columns.a g j) (0<=(↑c.1:Int)) ((↑c.1:Int)<aH c.2.columns/\∃(f:ByteArray),aU m h g (bK j c.1 2+0) (oK (Value.string f))/\∃(u:ByteArray),qF (kL f) (kL u) (iM (pL u) (K aX m h) (bJ (λz A=>aA (bM c.2.columns.a z A) (0<=(↑c.1:Int)) ((↑c.1:Int)<aH c.2.columns/\∃(B:Int),aU m h z (bK A c.1 2+1) (bG B)/\lA B (λk=>iM (dJ k) (K aX m h) (∃(I2:Nat×Nat×cK->Prop)(C:Nat×Nat×cK->Nat),(∃(d:Nat×Nat×cK),aA (I2 d) dR (aA (cM c.1 d.1) (bB (tT d)) (aA (cG c.2.columns
 (mE d).columns) (cM c.1 d.1) (aA (oQ 87 (gX c.2)=oQ 87 (gX (mE d))) (m=m) (bN h h)))))/\∀(d:Nat×Nat×cK),I2 d->aZ (↑(tT d):Int) (↑d.1:Int) (Oi (mE d).columns.a 0 (tT d) (mE d).columns (λF G D=>aU m h F (bK G (tT d) 2+0) (oK (Value.string D))/\Oi (mE d).columns.a 0 d.1 (mE d).columns (λH J E=>aU m h H (bK J d.1 2+0) (oK (Value.string E))/\branch (D.toList==E.toList) (K aX m h) (∃(e:Nat×Nat×cK),aA (I2 e) (C e<C d) (aA dR (cM d.1 e.1) (aA (bD (fZ (bE (tT d) 1)) (tT e)) (cG (mE d).columns (mE e).columns) (aA (cM d.1 e.1) (oQ 87 (gX (mE d))=oQ 87 (gX (mE e))) (aA (m=m) (h=h) True)))))))) (∃(e:Nat×cK),aA (I1 e) (t e<t c)
 (aA dR (cG (mE d).columns e.2.columns) (aA (bD (fZ (bE d.1 1)) e.1) (EL (mE d) e) (aA (m=m) (h=h) True))))))))))))) (gK K m h))))))))))
theorem MI.snoc{c:dk}{n:ByteArray}(h:xS m b ((c.map λn=>(Value.string n,Value.bool true))++[(.string n,.bool true)])):MI m b (c++[n]):=by
 unfold MI;grind
theorem MI.look{c:dk}(h:MI m b c):xS m b (List.map (λp:Value×Bool=>(p.fst,Value.bool p.snd)) (c.map λn=>(Value.string n,true))):=by
 rw[map_map];exact h
theorem JG{β:Type}{c:dk}{x:β}:∀e:Value×β,e∈(c.map λn=>(Value.string n,x))->∃s,e.fst= .string s:=λe d=>by
 grind
theorem VP{β:Type}{c:dk}{x:β}{n:ByteArray}(h:n∉c):∀e:Value×β,e∈(c.map λn=>(Value.string n,x))->e.fst= .string n->False:=λe d h'=>by
 grind
theorem GY{β:Type}{c:dk}{x:β}{n:ByteArray}(h:∀e:Value×β,e∈(c.map λn=>(Value.string n,x))->e.fst= .string n->False):n∉c:=λd=>h (.string n,x) (mem_map.2 ⟨n,d,rfl⟩) rfl
theorem VQ{β:Type}{c:dk}{x y:β}{n:ByteArray}(h:(Value.string n,y)∈(c.map λn=>(Value.string n,x))):n∈c/\y=x:=by
 grind
theorem Zz:bu 154 bFZ:=by
 refine FR func154 ?_;rintro a9 m h K ⟨v,s,rfl,hs,hK⟩;refine⟨bpJ v h,rfl,aE Y0 aG,Ml v m h (lE h K),bd,?_⟩;show Ml v m h (lE h K);dsimp only[Ml,push_cast];have hl:=hs.tables.slen;have a7:=hs.tables.len;have hf:¬Good D7 s.tables->K (cB false) m h:=λh=>hK false ⟨λe=>(by cases e),λe=>(h e).elim⟩;intro b m1 hb R;refine⟨λ⟨i,B,mx⟩=>i<=s.tables.length/\Sub m mx/\m B=none/\MI mx B ((s.tables.take i).map Dr.name)/\fI D7 s.tables i,λ⟨i,_,_⟩=>s.tables.length-i,⟨(0,b,m1),⟨aD,(Sub.refl m).upd hb.m_ R.other,hb.m_,⟨_,_,R.at_,rfl⟩,.zero⟩,MT⟩,?_⟩;rintro⟨i,B,mx⟩ ⟨hi,n,S,D,u⟩;dsimp only;refine aF (λT=>?_) (λb'=>.sub n (hK true ⟨λ_=>u.all aD,λ_=>rfl⟩));obtain⟨t,U⟩:=eT hl T;obtain⟨bb,o,w,ea,hr,f⟩:=hs.tables.at U;have a2:=bY.slen f.columns;have b0:=bY.len f.columns;have V:=f.name;have b3:=f.key;have bad:¬D7 (s.tables.take i) t->lE h K (.val (.bool false)) mx h:=λhn=>.sub n (hf (Good.not U hn));have W:t.name∉(s.tables.take i).map Dr.name->pL w.name=true->1<=w.key->w.key<=w.columns.len->Good XD t.columns->D7 (s.tables.take i) t:=λh1 h2 h3 h4 h5=>⟨bk,aD,aD,h1,h5⟩
 refine⟨bb,o,ea,aD,T,w,.imm hr,w.name,rfl,aC (λh1=>bad λg=>?_) (λh1=>⟨_,_,D.look,Cf,⟨_,rfl⟩,JG,λX=>aF (λh2=>bad λg=>?_) (λh2=>aF (λh3=>bad λg=>?_) (λh3=>⟨_,_,D,Cf,⟨_,rfl⟩,JG,VP (GY X),λm2 a3 x Q m3 I J=>?_⟩)),λy hy=>?_⟩)⟩
 .have:=g.1;grind
 .have:=g.2.1;omega
 .have:=g.2.2.1;omega
 .have x:=MI.snoc x;have j:Sub m m2:=n.upd S a3.other;have L:Sub m m3:=j.upd (j.free I.m_) J.other
  have Y:B≠Q:=λe=>by
   obtain⟨es,cl,e1,_⟩:=x.ex;rw[e,I.m_]at e1;cases e1
  have Z:t.name∉(s.tables.take i).map Dr.name:=by rw[<-V];exact GY X
  rw[V, <-iX U]at x
  refine⟨λ⟨i',k,a4,a5,sl,M⟩=>i'=i/\a4=B/\a5=Q/\sl=w.columns/\k<=t.columns.length/\Sub m M/\MI M B ((s.tables.take (i+1)).map Dr.name)/\MI M Q ((t.columns.take k).map rF.name)/\fI XD t.columns k,λ⟨_,k,_,_,_,_⟩=>t.columns.length-k,
   ⟨(i,0,B,Q,w.columns,m3),⟨rfl,rfl,rfl,rfl,aD,L,x.other Y J.other,⟨_,_,J.at_,rfl⟩,.zero⟩,MT⟩,?_⟩
  rintro⟨i,k,B,Q,_,M⟩ ⟨rfl,rfl,rfl,rfl,hk,d,E,F,a'⟩;dsimp only;refine aF (λG=>?_) (λa8=>?_)
  .obtain⟨c,hc⟩:=eT a2 G;obtain⟨bc,oc,ec,rc⟩:=FW.at f.columns hc;have z:∀mz,Sub m mz->¬XD (t.columns.take k) c->lE h K (.val (.bool false)) mz h:=λmz hz hn=>.sub hz (hf (Good.not U (λg=>Good.not hc hn g.2.2.2.2)));refine⟨bc,oc,ec,aD,G,c,.imm rc,c.name,rfl,aC (λh4=>z M d λg=>?_) (λh4=>⟨_,_,F.look,Cf,⟨_,rfl⟩,JG,λH=>⟨_,_,F,Cf,⟨_,rfl⟩,JG,VP (GY H),λm4 a0 C=>?_⟩,λy hy=>?_⟩)⟩
   .rw[g.1]at h4;cases h4
   .have C:=MI.snoc C;rw[<-iX hc]at C;have A:Sub m m4:=d.upd (j.free I.m_) a0.other;have O:dJ c.kind=true->XD (t.columns.take k) c:=λe=>⟨bk,e,GY H⟩
    have P:dJ c.kind=false->¬XD (t.columns.take k) c:=λe g=>by rw[g.2.1]at e;cases e
    have a6:=E.other Y a0.other
    repeat' (first|(refine aC (λ_=>?_) (λ_=>?_))|(refine z m4 A (P ?_);simp_all [dJ];done)|exact⟨(i,k+1,B,Q,w.columns,m4),⟨rfl,rfl,rfl,rfl,br,A,a6,C,a'.succ hc (O (by simp_all [dJ]))⟩,bo,MT⟩)
   .obtain⟨a1,rfl⟩:=VQ hy;exact aC (λ_=>z M d λg=>g.2.2 a1) (λe=>by cases e)
  .refine⟨(i+1,B,M),⟨aD,d,S,E,u.succ U (W Z bk aD aD (a'.all aD))⟩,?_,MT⟩;omega
 .obtain⟨a1,rfl⟩:=VQ hy;exact aC (λ_=>bad λg=>g.2.2.2.1 bk) (λe=>by cases e)
theorem O4{α:Type}{f:α->ByteArray}{l:List α}{x:α}{n:ByteArray}(c:l[i]? =some x)(h:n∉(l.take i).map f)(d:f x≠n):n∉(l.take (i+1)).map f:=by
 rw[iX c,mem_append]
 grind
theorem cdQ{α:Type}{f:α->ByteArray}{l:List α}{k:Nat}{x:α}{n:ByteArray}(d:l[i]? =some x)(e:i<k)(c:f x=n):n∈(l.take k).map f:=
 mem_map.2 ⟨x,mem_of_getElem? (i:=i) bk,c⟩
theorem ZB:bu 149 bAJ:=by
 refine hU func149 ?_;rintro a2 m h K ⟨v,s,t,i,rfl,F,U,V⟩;refine⟨bqJ v i m h,rfl,aE Y1 (aE P8 aG),SX v i m h K,bd,?_⟩;dsimp only[SX,push_cast];have hl:=F.tables.slen;have W:=F.tables.len;have a3:i<s.tables.length:=(List.getElem?_eq_some_iff.1 U).1;have bad:¬D7 (s.tables.take i) t->K (.val (.bool false)) m h:=λh=>V false ⟨λe=>(by cases e),λe=>(h e).elim⟩;obtain⟨bb,o,w,ea,hr,d⟩:=F.tables.at U;have G:=bY.slen d.columns;have a4:=bY.len d.columns;have D:=d.name;have a5:=d.key;refine⟨bb,o,ea,aD,aD,w,.imm hr,w.name,rfl,aC (λh1=>bad λf=>?_) (λh1=>aC (λh2=>bad λf=>?_) (λh2=>aF (λh3=>bad λf=>?_) (λh3=>aF (λh4=>bad λf=>?_) (λh4=>?_))))⟩
 .have:=f.1;grind
 .have:=f.2.1;have:=f.2.2.1;grind
 .have:=f.2.1;omega
 .have:=f.2.2.1;omega
 refine⟨λ⟨k,A⟩=>A=w/\k<=i/\t.name∉(s.tables.take k).map Dr.name,λ⟨k,_⟩=>i-k,⟨(0,w),⟨rfl,aD,bf⟩,MT⟩,?_⟩;rintro⟨k,w⟩ ⟨rfl,hk,E⟩;dsimp only;refine aF (λg=>?_) (λa6=>?_)
 .obtain⟨X,B⟩:∃X,s.tables[k]? =some X:=⟨s.tables[k]'(by omega),getElem?_eq_getElem _⟩
  obtain⟨b',o',A,H,I,n⟩:=F.tables.at B;refine⟨b',o',H,aD,aD,A.name,.imm (bL.part I 0 1),aC (λe=>bad λf=>?_) (λe=>?_)⟩
  .refine f.2.2.2.1 (cdQ B aD ?_);rw[<-n.name, <-D];exact Cd (bt e)
  .refine⟨(k+1,w),⟨rfl,aD,O4 B E λY=>?_⟩,aD,MT⟩;rw[<-n.name, <-D]at Y
   grind
 .have J:k=i:=by omega
  subst J;refine⟨λ⟨k,A⟩=>A=w/\k<=t.columns.length/\fI XD t.columns k,λ⟨k,_⟩=>t.columns.length-k,⟨(0,w),⟨rfl,aD,.zero⟩,MT⟩,?_⟩;rintro⟨c,w⟩ ⟨rfl,hc,Z⟩;dsimp only;refine aF (λg=>?_) (λa'=>V true ⟨λ_=>⟨bk,aD,aD,E,Z.all aD⟩,λ_=>rfl⟩);obtain⟨x,C⟩:=eT G g;obtain⟨L,M,O,P⟩:=FW.at d.columns C;have u:¬XD (t.columns.take c) x->K (.val (.bool false)) m h:=λhn=>bad λf=>Good.not C hn f.2.2.2.2;refine⟨L,M,O,aD,g,x.name,.imm (bL.part P 0 1),x.name,rfl,aC (λQ=>u λf=>?_) (λQ=>⟨L,M,O,aD,g,x.kind,.imm (bL.part P 1 1),x.kind,rfl,aC (λR=>u λf=>?_) (λR=>?_)⟩)⟩
  .rw[f.1]at Q;cases Q
  .rw[f.2.1]at R;cases R
  refine⟨λ⟨c',j,A⟩=>A=w/\c'=c/\j<=c/\x.name∉(t.columns.take j).map rF.name,λ⟨_,j,_⟩=>c-j,⟨(c,0,w),⟨rfl,rfl,aD,bf⟩,MT⟩,?_⟩;rintro⟨c,j,w⟩ ⟨rfl,rfl,hj,z⟩;dsimp only;refine aF (λa0=>?_) (λa1=>?_)
  .obtain⟨y,S⟩:∃y,t.columns[j]? =some y:=⟨t.columns[j]'(by omega),getElem?_eq_getElem _⟩
   obtain⟨T,oy,ey,ry⟩:=FW.at d.columns S;refine⟨T,oy,ey,aD,aD,y.name,.imm (bL.part ry 0 1),L,M,O,aD,g,x.name,.imm (bL.part P 0 1),aC (λe=>u λf=>?_) (λe=>?_)⟩
   .exact f.2.2 (cdQ S aD (Cd (bt e)))
   .refine⟨(c,j+1,w),⟨rfl,rfl,bk,O4 S z λY=>?_⟩,bk,MT⟩
    grind
  .have:j=c:=by omega
   subst this;exact⟨(j+1,w),⟨rfl,aD,Z.succ C ⟨bk,bk,z⟩⟩,aD,MT⟩
def Jb(t g:Dr)(k:Nat)(c:Int):Prop:=0<=c/\c<t.columns.length/\∃x y,t.columns[c.toNat]? =some x/\g.columns[k]? =some y/\x.kind=y.kind
def bDZ(tabs:List Dr)(t:Dr)(_:List Ref)(r:Ref):Prop:=0<=r.table/\r.table<tabs.length/\∃g,tabs[r.table.toNat]? =some g/\(r.columns.length:Int)=g.key/\Good (λd c=>Jb t g d.length c) r.columns
def FN(tabs:List Dr)(_:List Dr)(t:Dr):Prop:=Good (bDZ tabs t) t.refs
def bDX:Vc.Spec:=λc m h K=>∃v s,c=[aS v]/\gZ h s v/\Good D7 s.tables/\∀r:Bool,(r=true↔Good (FN s.tables) s.tables)->K (cB r) m h
def avZ:Vc.Spec:=λc m h K=>∃v s t,∃i:Nat,c=[aS v,cI i]/\gZ h s v/\Good D7 s.tables/\s.tables[i]? =some t/\∀r:Bool,(r=true↔FN s.tables [] t)->K (cB r) m h
noncomputable def bpZ(v:cE)(m:MH)(h:PH):Ctx:=
 dA [] [(2,{A:=Nat,st:=λi=>bQ 82 83 [(1,.at (.ptr 1 0)),(11,sv v.tables),(12,iv v.tables.len),(13,iv i)] [(1,.cells 43 (v.enc.map .val))] m h}),
  (5,{A:=Nat×Nat×cK,st:=λ⟨i,k,w⟩=>bQ 82 83 [(1,.at (.ptr 1 0)),(4,.at (.ptr 4 0)),(11,sv v.tables),(12,iv v.tables.len),(13,iv i),(18,sv w.references),(19,iv w.references.len),(20,iv k)] [(1,.cells 43 (v.enc.map .val)),(4,.cells 87 (w.enc.map .val))] m h}),
  (13,{A:=Nat×Nat×Nat×cK×cK×Sl,st:=λ⟨i,k,j,w,g,c⟩=>bQ 82 83 [(1,.at (.ptr 1 0)),(4,.at (.ptr 4 0)),(7,.at (.ptr 7 0)),(11,sv v.tables),(12,iv v.tables.len),(13,iv i),(18,sv w.references),(19,iv w.references.len),(20,iv k),(48,sv c),(49,iv c.len),(50,iv j)] [(1,.cells 43 (v.enc.map .val)),(4,.cells 87 (w.enc.map .val)),(7,.cells 87 (g.enc.map .val))] m h})] [] [] false
noncomputable def bqZ(v:cE)(m:MH)(h:PH):Ctx:=
 dA [] [(3,{A:=Nat×cK,st:=λ⟨k,w⟩=>bQ 85 87 [(2,.at (.ptr 2 0)),(5,.at (.ptr 5 0)),(16,sv w.references),(17,iv w.references.len),(18,iv k)] [(2,.cells 43 (v.enc.map .val)),(5,.cells 87 (w.enc.map .val))] m h}),
  (8,{A:=Nat×Nat×cK×FV,st:=λ⟨k,j,w,r⟩=>bQ 85 87 [(2,.at (.ptr 2 0)),(5,.at (.ptr 5 0)),(7,.at (.ptr 7 0)),(16,sv w.references),(17,iv w.references.len),(18,iv k),(47,sv r.columns),(48,iv r.columns.len),(49,iv j)] [(2,.cells 43 (v.enc.map .val)),(5,.cells 87 (w.enc.map .val)),(7,.cells 146 (r.enc.map .val))] m h})] [] [] false
abbrev sZ(a:(Nat->Prop)->Nat->Prop)(b:(Nat->Prop)->(Nat->Nat)->Nat->Prop):Prop:=∃(x:Nat->Prop)(d:Nat->Nat),p7 (∃(c:Nat),a x c) (λc=>b x d c)
abbrev eM:Prop:=eP 1
abbrev i6:Prop:=eP 4
abbrev Ep(a b:cK):Prop:=bS a.references b.references
abbrev Er(a b:cK):Prop:=cG a.references b.references
abbrev G0(a:cE)(b:Int)(c:Nat->Nat->Prop):Prop:=bJ (λx d=>aA (bM (yI a) x d) (0<=b) (b<aH a.tables/\c x d))
noncomputable abbrev vS(a:Nat×Nat×Nat×cK×cK×Sl):cK:=a.2.2.2.1
noncomputable abbrev Aj(a:Nat×Nat×Nat×cK×cK×Sl):Sl:=a.2.2.2.2.2
noncomputable abbrev yP(a:Nat×Nat×Nat×cK×cK×Sl):Nat:=a.2.2.1
noncomputable abbrev HG(a:Nat×Nat×Nat×cK×cK×Sl):cK:=a.2.2.2.2.1
attribute [push_cast] sZ eM i6 Ep Er G0 vS Aj yP HG
def Mk(v:cE)(m:MH)(h:PH)(K:bz):Prop:=
  sZ (λI x=>aA (I x) eM (aA (tH v) (kJ v) (aA (bB x) (cL v) (aA (m=m) (h=h) True)))) (λI n x=>GZ (I x) x v (λb o y=>aU m h b (bK o x 5) (Ax y)/\∃(I1:Nat×Nat×cK->Prop)(t:Nat×Nat×cK->Nat),(∃(d:Nat×Nat×cK),aA (I1 d) eM (aA i6 (tH v) (aA (kJ v) (cM x d.1) (aA (Ep y (mE d)) (Er y (mE d)) (aA (bB (tT d)) (cL v) (aA (oQ 87 (gX y)=oQ 87 (gX (mE d))) (m=m) (bN h h)))))))/\∀(d:Nat×Nat×cK),I1 d->aZ (↑(tT d):Int) (aH (mE d).references) (bJ (λu z=>aA (bM (mE d).references.a u z) (0<=(↑(tT d):Int)) ((↑(tT d):Int)<aH (mE d).references/\∃(f:FV),aU m h u (bK z (tT d) 2) (jK (fK f.columns) (eF f.table))/\
 aZ f.table 0 (K aX m h) (gM f.table (mD v) (K aX m h) (G0 v f.table (λL M=>∃(j:cK),aU m h L (fU M f.table 5) (Ax j)/\eC (aH f.columns) j.key (K aX m h) (∃(I2:Nat×Nat×Nat×cK×cK×Sl->Prop)(A:Nat×Nat×Nat×cK×cK×Sl->Nat),(∃(c:Nat×Nat×Nat×cK×cK×Sl),aA (I2 c) eM (aA i6 (eP 7) (aA (tH v) (kJ v) (aA (cM d.1 c.1) (Ep (mE d) (vS c)) (aA (Er (mE d) (vS c)) (cM (tT d) c.2.1) (aA (bS f.columns (Aj c)) (cG f.columns (Aj c)) (aA (bB (yP c)) (cL v) (aA (oQ 87 (gX (mE d))=oQ 87 (gX (vS c))) (oQ 87 (gX j)=oQ 87 (gX (HG c))) (aA (m=m) (h=h) True)))))))))/\∀(c:Nat×Nat×Nat×cK×cK×Sl),I2 c->aZ (↑(yP c):
 Int) (aH (Aj c)) (bJ (λB C=>aA (bM (Aj c).a B C) (0<=(↑(yP c):Int)) ((↑(yP c):Int)<aH (Aj c)/\∃(g:Int),aU m h B (bK C (yP c) 1) (bG g)/\aZ g 0 (K aX m h) (gM g (AJ (vS c)) (K aX m h) (bJ (λD E=>aA (bM (vS c).columns.a D E) (0<=g) (g<aH (vS c).columns/\∃(F:Int),aU m h D (fU E g 2+1) (bG F)/\bJ (λG H=>aA (bM (HG c).columns.a G H) (0<=(↑(yP c):Int)) ((↑(yP c):Int)<aH (HG c).columns/\∃(J:Int),aU m h G (bK H (yP c) 2+1) (bG J)/\eC F J (K aX m h) (∃(e:Nat×Nat×Nat×cK×cK×Sl),aA (I2 e) (A e<A c) (aA eM i6 (aA (eP 7) (tH v) (aA (kJ v) (cM c.1 e.1) (aA (Ep (vS c) (vS
 e)) (Er (vS c) (vS e)) (aA (cM c.2.1 e.2.1) (bS (Aj c) (Aj e)) (aA (cG (Aj c) (Aj e)) (bD (fZ (bE (yP c) 1)) (yP e)) (aA (cL v) (oQ 87 (gX (vS c))=oQ 87 (gX (vS e))) (bP (oQ 87 (gX (HG c))=oQ 87 (gX (HG e))) (m=m) (h=h))))))))))))))))))) (∃(e:Nat×Nat×cK),aA (I1 e) (t e<t d) (aA eM i6 (aA (aI v.tables) (kJ v) (aA (cM c.1 e.1) (Ep (vS c) (mE e)) (aA (Er (vS c) (mE e)) (bD (fZ (bE c.2.1 1)) (tT e)) (aA (cL v) (oQ 87 (gX (vS c))=oQ 87 (gX (mE e))) (aA (m=m) (h=h) True)))))))))))))) (∃(c:Nat),aA (I c) (n c<n x) (aA eM (tH v) (aA (kJ v) (bD (fZ (bE d.1 1)) c) (aA (cL v) (m=m) (bN h h))))))
 (gK K m h))
noncomputable abbrev vT(a:Nat×Nat×cK×FV):cK:=a.2.2.1
noncomputable abbrev u7(a:Nat×Nat×cK×FV):Sl:=a.2.2.2.columns
noncomputable abbrev Hw(a:Nat×Nat×cK×FV):Int:=a.2.2.2.table
attribute [push_cast] vT u7 Hw
def Mm(v:cE)(i:Nat)(m:MH)(h:PH)(K:bz):Prop:=
  bJ (λb o=>aA (bM (yI v) b o) (0<=(↑i:Int)) ((↑i:Int)<aH v.tables/\∃(y:cK),aU m h b (bK o i 5) (Ax y)/\NX (λI x=>aA (I x) dQ (aA dR (Ep y x.2) (aA (Er y x.2) (bB x.1) (aA (cL v) (EL y x) (aA (m=m) (h=h) True))))) (λI j x=>I x->aZ (↑x.1:Int) (aH x.2.references) (bJ (λn t=>aA (bM x.2.references.a n t) (0<=(↑x.1:Int)) ((↑x.1:Int)<aH x.2.references/\∃(e:FV),aU m h n (bK t x.1 2) (jK (fK e.columns) (eF e.table))/\aZ e.table 0 (K aX m h) (gM e.table (mD v) (K aX m h) (bJ (λu z=>aA (bM (yI v) u z) (0<=e.table) (e.table<aH v.tables/\∃(A:Int),aU m h u (fU z e.table 5+2) (bG A)/\eC (aH e.columns) A (K aX m h) (∃(I1:Nat×Nat×cK×FV->
 Prop)(B:Nat×Nat×cK×FV->Nat),(∃(c:Nat×Nat×cK×FV),aA (I1 c) dQ (aA dR (eP 7) (aA (Ep x.2 (vT c)) (Er x.2 (vT c)) (aA (cM x.1 c.1) (bS e.columns (u7 c)) (aA (cG e.columns (u7 c)) (bB c.2.1) (aA (cL v) (oQ 87 (gX x.2)=oQ 87 (gX (vT c))) (bP (oQ 146 (lV (vK e.columns) (gC e.table))=oQ 146 (lV (vK (u7 c)) (gC (Hw c)))) (m=m) (h=h))))))))/\∀(c:Nat×Nat×cK×FV),I1 c->aZ (↑c.2.1:Int) (aH (u7 c)) (bJ (λC D=>aA (bM (u7 c).a C D) (0<=(↑c.2.1:Int)) ((↑c.2.1:Int)<aH (u7 c)/\∃(f:Int),aU m h C (bK D c.2.1 1) (bG f)/\aZ f 0 (K aX m h) (gM f (AJ (vT c)) (K aX m h) (bJ (λE F=>aA (bM (vT c).columns.a E F) (0<=f)
 (f<aH (vT c).columns/\∃(G:Int),aU m h E (fU F f 2+1) (bG G)/\eK (yI v) (Hw c) v.tables (λM O g=>aU m h M (fU O (Hw c) 5+1) (bA g)/\bJ (λH J=>aA (bM g.a H J) (0<=(↑c.2.1:Int)) ((↑c.2.1:Int)<aH g/\∃(L:Int),aU m h H (bK J c.2.1 2+1) (bG L)/\eC G L (K aX m h) (∃(d:Nat×Nat×cK×FV),aA (I1 d) (B d<B c) (aA dQ dR (aA (eP 7) (Ep (vT c) (vT d)) (aA (Er (vT c) (vT d)) (cM c.1 d.1) (aA (bS (u7 c) (u7 d)) (cG (u7 c) (u7 d)) (aA (bD (fZ (bE c.2.1 1)) d.2.1) (cL v) (aA (oQ 87 (gX (vT c))=oQ 87 (gX (vT d))) (oQ 146 (lV (vK (u7 c)) (gC (Hw c)))=oQ 146 (lV (vK (u7 d)) (gC (Hw d)))) (aA (m
 =m) (h=h) True)))))))))))))))))) (∃(d:Nat×cK),aA (I d) (j d<j x) (aA dQ dR (aA (Ep (vT c) d.2) (Er (vT c) d.2) (aA (bD (fZ (bE c.1 1)) d.1) (cL v) (bP (EL (vT c) d) (m=m) (h=h)))))))))))))) (gK K m h))))
theorem Ints.at'{s:Sl}(r:Ints h s l){x:Int}(c:l[i]? =some x):∃b o,s.a=some ⟨b,o,none⟩/\bL h b (o+i*1) [.int .i64 x]:=by
 obtain⟨b,o,e,k⟩:=r.at c
 grind
theorem Va{α:Type}{l:List α}{x:α}(h:l[i]? =some x):(l.take i).length=i:=by
 grind
theorem Good.key_le{tabs:List Dr}(h:Good D7 tabs){g:Dr}(c:tabs[i]? =some g):g.key<=g.columns.length:=(h i g c).2.2.1
theorem b5X{v:cE}(P:gZ h s v)(C:Good D7 s.tables)(hK:∀r:Bool,(r=true↔Good (FN s.tables) s.tables)->K (cB r) m h):Mk v m h K:=by
 dsimp only[Mk,push_cast];have hl:=P.tables.slen;have a8:=P.tables.len;have hf:¬Good (FN s.tables) s.tables->K (.val (.bool false)) m h:=λh=>hK false ⟨λe=>(by cases e),λe=>(h e).elim⟩;refine⟨λi=>i<=s.tables.length/\fI (FN s.tables) s.tables i,λi=>s.tables.length-i,⟨0,⟨aD,.zero⟩,MT⟩,λi⟨hi,hg⟩=>aF (λH=>?_) (λb1=>hK true ⟨λ_=>hg.all aD,λ_=>rfl⟩)⟩;obtain⟨t,R⟩:=eT hl H;obtain⟨b,o,w,ea,hr,f⟩:=P.tables.at R;have b7:=bY.slen f.columns;have S:=bY.slen f.refs;have b8:=bY.len f.refs;refine⟨b,o,ea,aD,H,w,.imm hr,λ⟨T,k,U⟩=>T=i/\U=w/\k<=t.refs.length/\fI (bDZ s.tables t) t.refs k,λ⟨_,k,_⟩=>t.refs.length-k,⟨(i,0,w),⟨rfl,rfl,aD,.zero⟩,MT⟩,?_⟩;rintro⟨i,k,w⟩ ⟨rfl,rfl,hk,I⟩;dsimp only;refine aF (λA=>?_) (λa9=>⟨i+1,⟨aD,hg.succ R (I.all aD)⟩,aD,MT⟩);obtain⟨r,D⟩:=eT S A;obtain⟨b2,o2,F,V,W,d⟩:=f.refs.at D;have X:=d.columns.slen;have b9:=d.columns.len;have rt:=d.table;have bad:¬bDZ s.tables t (t.refs.take k) r->K (.val (.bool false)) m h:=λhn=>hf (Good.not R (Good.not D hn));refine⟨b2,o2,V,aD,A,F,.imm W,aF (λh1=>bad λu=>?_) (λh1=>aF (λh2=>bad λu=>?_) (λh2=>?_))⟩
 .have:=u.1;omega
 .have:=u.2.1;omega
 obtain⟨g,b3,o3,G,J,Y,Z,n⟩:=P.table (t:=F.table) aD aD;have c':=bY.slen n.columns;have b':=C.key_le J;have gk:=n.key;refine⟨b3,o3,Y,aD,aD,G,.imm Z,aC (λh3=>bad λu=>?_) (λh3=>?_)⟩
 .obtain⟨_,_,g',E,c0,_⟩:=u
  grind
 have h3:(F.columns.len:Int)=G.key:=bk
 refine⟨λ⟨T,k',j,U,g',sl⟩=>T=i/\k'=k/\U=w/\g'=G/\sl=F.columns/\j<=r.columns.length/\fI (λa' c=>Jb t g a'.length c) r.columns j,λ⟨_,_,j,_,_,_⟩=>r.columns.length-j,⟨(i,k,0,w,G,F.columns),⟨rfl,rfl,rfl,rfl,rfl,aD,.zero⟩,MT⟩,?_⟩;rintro⟨i,k,j,w,G,_⟩ ⟨rfl,rfl,rfl,rfl,rfl,hj,L⟩;dsimp only;refine aF (λB=>?_) (λb0=>⟨(i,k+1,w),⟨rfl,rfl,bk,I.succ D ⟨aD,aD,g,bk,aD,L.all aD⟩⟩,bk,MT⟩);obtain⟨c,Q⟩:=eT X B;obtain⟨b4,o4,a0,a1⟩:=d.columns.at' Q;have a2:=Va Q
 have z:¬Jb t g j c->K (.val (.bool false)) m h:=λhn=>bad λu=>by
  obtain⟨_,_,g',E,_,a3⟩:=u;rw[<-rt,J]at E;cases E;have:=a3 j c Q
  grind
 refine⟨b4,o4,a0,aD,B,c,.imm a1,aF (λh5=>z λu=>?_) (λh5=>aF (λh6=>z λu=>?_) (λh6=>?_))⟩
 .have:=u.1;omega
 .have:=u.2.1;omega
 obtain⟨x,M⟩:∃x,t.columns[c.toNat]? =some x:=⟨t.columns[c.toNat]'(by omega),getElem?_eq_getElem _⟩
 obtain⟨y,O⟩:∃y,g.columns[j]? =some y:=⟨g.columns[j]'(by omega),getElem?_eq_getElem _⟩
 obtain⟨b5,o5,a4,a5⟩:=FW.at f.columns M;obtain⟨b6,o6,a6,a7⟩:=FW.at n.columns O;refine⟨b5,o5,a4,aD,aD,x.kind,.imm (bL.part a5 1 1),b6,o6,a6,aD,aD,y.kind,.imm (bL.part a7 1 1),aC (λh7=>z λu=>?_) (λh7=>?_)⟩
 .obtain⟨_,_,x',y',e1,e2,e3⟩:=u
  grind
 .exact⟨(i,k,j+1,w,G,F.columns),⟨rfl,rfl,rfl,rfl,rfl,bk,L.succ Q (by show Jb t g (List.take j r.columns).length c;rw[a2];exact⟨aD,aD,x,y,M,O,bk⟩)⟩,bk,MT⟩
theorem Zy:bu 155 bDX:=by
 refine hU func155 ?_;rintro c m h K ⟨v,s,rfl,d,e,f⟩;refine⟨bpZ v m h,rfl,aG,Mk v m h K,bd,?_⟩;exact b5X d e f
theorem b5Z{v:cE}{t:Dr}(P:gZ h s v)(C:Good D7 s.tables)(hx:s.tables[i]? =some t)(hK:∀r:Bool,(r=true↔FN s.tables [] t)->K (cB r) m h):Mm v i m h K:=by
 dsimp only[Mm,push_cast];have hl:=P.tables.slen;have a5:=P.tables.len;have a9:i<s.tables.length:=(List.getElem?_eq_some_iff.1 hx).1;have hf:¬FN s.tables [] t->K (.val (.bool false)) m h:=λh=>hK false ⟨λe=>(by cases e),λe=>(h e).elim⟩;obtain⟨b,o,w,ea,hr,f⟩:=P.tables.at hx;have b':=bY.slen f.columns;have R:=bY.slen f.refs;have b0:=bY.len f.refs;refine⟨b,o,ea,aD,aD,w,.imm hr,λ⟨k,S⟩=>S=w/\k<=t.refs.length/\fI (bDZ s.tables t) t.refs k,λ⟨k,_⟩=>t.refs.length-k,⟨(0,w),⟨rfl,aD,.zero⟩,MT⟩,?_⟩;rintro⟨k,w⟩ ⟨rfl,hk,G⟩;dsimp only;refine aF (λA=>?_) (λa6=>hK true ⟨λ_=>G.all aD,λ_=>rfl⟩);obtain⟨r,D⟩:=eT R A;obtain⟨b2,o2,E,T,U,d⟩:=f.refs.at D;have V:=d.columns.slen;have b1:=d.columns.len;have rt:=d.table;have bad:¬bDZ s.tables t (t.refs.take k) r->K (.val (.bool false)) m h:=λhn=>hf (Good.not D hn);refine⟨b2,o2,T,aD,A,E,.imm U,aF (λh1=>bad λu=>?_) (λh1=>aF (λh2=>bad λu=>?_) (λh2=>?_))⟩
 .have:=u.1;omega
 .have:=u.2.1;omega
 obtain⟨g,b3,o3,W,H,I,J,n⟩:=P.table (t:=E.table) aD aD;have b7:=bY.slen n.columns;have a7:=C.key_le H;have gk:=n.key;refine⟨b3,o3,I,aD,aD,W.key,.imm (bL.part J 2 1),aC (λh3=>bad λu=>?_) (λh3=>?_)⟩
 .obtain⟨_,_,g',F,b8,_⟩:=u
  grind
 have h3:(E.columns.len:Int)=W.key:=bk
 refine⟨λ⟨k',j,S,r'⟩=>k'=k/\S=w/\r'=E/\j<=r.columns.length/\fI (λX c=>Jb t g X.length c) r.columns j,λ⟨_,j,_,_⟩=>r.columns.length-j,⟨(k,0,w,E),⟨rfl,rfl,rfl,aD,.zero⟩,MT⟩,?_⟩;rintro⟨k,j,w,E⟩ ⟨rfl,rfl,rfl,hj,L⟩;dsimp only;refine aF (λB=>?_) (λa8=>⟨(k+1,w),⟨rfl,aD,G.succ D ⟨aD,aD,g,bk,aD,L.all aD⟩⟩,aD,MT⟩);obtain⟨c,Q⟩:=eT V B;obtain⟨b4,o4,Y,Z⟩:=d.columns.at' Q;have a':=Va Q
 have z:¬Jb t g j c->K (.val (.bool false)) m h:=λhn=>bad λu=>by
  obtain⟨_,_,g',F,_,a0⟩:=u;rw[<-rt,H]at F;cases F;have:=a0 j c Q
  grind
 refine⟨b4,o4,Y,aD,B,c,.imm Z,aF (λh5=>z λu=>?_) (λh5=>aF (λh6=>z λu=>?_) (λh6=>?_))⟩
 .have:=u.1;omega
 .have:=u.2.1;omega
 obtain⟨x,M⟩:∃x,t.columns[c.toNat]? =some x:=⟨t.columns[c.toNat]'(by omega),getElem?_eq_getElem _⟩
 obtain⟨y,O⟩:∃y,g.columns[j]? =some y:=⟨g.columns[j]'(by omega),getElem?_eq_getElem _⟩
 obtain⟨b5,o5,a1,a2⟩:=FW.at f.columns M;obtain⟨b6,o6,a3,a4⟩:=FW.at n.columns O;refine⟨b5,o5,a1,aD,aD,x.kind,.imm (bL.part a2 1 1),b3,o3,I,aD,aD,W.columns,.imm (bL.part J 1 1),b6,o6,a3,aD,aD,y.kind,.imm (bL.part a4 1 1),aC (λh7=>z λu=>?_) (λh7=>?_)⟩
 .obtain⟨_,_,x',y',e1,e2,e3⟩:=u
  grind
 .exact⟨(k,j+1,w,E),⟨rfl,rfl,rfl,bk,L.succ Q (by show Jb t g (List.take j r.columns).length c;rw[a'];exact⟨aD,aD,x,y,M,O,bk⟩)⟩,bk,MT⟩
theorem ZA:bu 150 avZ:=by
 refine hU func150 ?_;rintro c m h K ⟨v,s,t,i,rfl,d,e,f,g⟩;refine⟨bqZ v m h,rfl,aG,Mm v i m h K,bd,?_⟩;exact b5Z d e f g
def Qv(t:Dr):Prop:=t.columns.length<=8/\t.refs.length<=4/\t.checks.length<=4
def DK(s:jE):Prop:=s.tables.length<=8/\Good (λ_ t=>Qv t) s.tables
def Lj(s:jE):Prop:=0<=s.version/\s.version<=1000/\Good D7 s.tables/\Good (FN s.tables) s.tables
def wK:ca->Int
 |[]=>0
 |e::r=>if e=0 then wK r else e
def xZ(s:jE)(i:Nat):ca:=match s.tables[i]? with|some t=>t.checks.map (gH (jR s i) [])|none=>[]
theorem Bo(a b:ca)(h:∀e∈a,e=0):wK (a++b)=wK b:=by
 induction a with
 |nil=>rfl
 |cons x a c=>
  simp only[cons_append,wK];rw[if_pos (h x bf),c λe d=>h e (by simp[d])]
theorem DI(a:ca)(h:∀e∈a,e=0):wK a=0:=by
 have:=Bo a [] h;simpa[wK]using this
theorem Nq{n k:Nat}{f:Nat->ca}{e:Int}(o:i<n)(t:∀j<i,∀x∈f j,x=0)(c:∀x∈(f i).take k,x=0)(d:(f i)[k]? =some e)(g:e≠0):wK ((List.range n).flatMap f)=e:=by
 obtain⟨r,rfl⟩:∃r,n=i+(1+r):=⟨n-i-1,aD⟩
 rw[range_add,flatMap_append,Bo]
 .rw[show(List.range (1+r)).map (i+ ·)=i::(range' (i+1) r)from ?_,flatMap_cons, <-take_append_drop k (f i),append_assoc,Bo _ _ c,drop_cons d]
  .simp[wK,g]
  .rw[Nat.add_comm 1 r,range_succ_eq_map];simp[range'_eq_map_range,Nat.add_assoc,Nat.add_comm 1]
 grind
open Classical in
noncomputable def dK(s:jE):Int:=if DK s then(if Lj s then wK ((List.range s.tables.length).flatMap (xZ s))else 70)else 2
def z6:Vc.Spec:=λc m h K=>∃v s,c=[aS v]/\gZ h s v/\K (cI (dK s)) m h
noncomputable def bTX(v:cE)(m:MH)(h:PH):Ctx:=
 dA [(154,bFZ),(155,bDX),(139,zI),(156,uR)] [(4,{A:=Nat,st:=λi=>bQ 83 84 [(1,.at (.ptr 1 0)),(16,sv v.tables),(17,iv v.tables.len),(18,iv i)] [(1,.cells 43 (v.enc.map .val))] m h}),
  (12,{A:=Nat×PH,st:=λ⟨i,c⟩=>bQ 83 84 [(1,.at (.ptr 1 0)),(58,sv v.tables),(59,iv v.tables.len),(60,iv i)] [(1,.cells 43 (v.enc.map .val))] m c}),
  (16,{A:=Nat×Nat×Sl×Sl×PH,st:=λ⟨i,k,ks,d,c⟩=>bQ 83 84 [(1,.at (.ptr 1 0)),(7,sv ks),(58,sv v.tables),(59,iv v.tables.len),(60,iv i),(69,sv d),(70,iv d.len),(71,iv k)] [(1,.cells 43 (v.enc.map .val))] m c})] [] [] false
noncomputable def bUQ(v:cE)(m:MH)(h:PH):Ctx:=
 dA [(149,bAJ),(150,avZ),(46,zI),(94,uR)] [(4,{A:=Nat,st:=λi=>bQ 96 97 [(1,.at (.ptr 1 0)),(16,sv v.tables),(17,iv v.tables.len),(18,iv i)] [(1,.cells 43 (v.enc.map .val))] m h}),
  (12,{A:=Nat,st:=λi=>bQ 96 97 [(1,.at (.ptr 1 0)),(49,iv v.tables.len),(50,iv i)] [(1,.cells 43 (v.enc.map .val))] m h}),
  (18,{A:=Nat,st:=λi=>bQ 96 97 [(1,.at (.ptr 1 0)),(60,iv v.tables.len),(61,iv i)] [(1,.cells 43 (v.enc.map .val))] m h}),
  (24,{A:=Nat×PH,st:=λ⟨i,c⟩=>bQ 96 97 [(1,.at (.ptr 1 0)),(71,iv v.tables.len),(72,iv i)] [(1,.cells 43 (v.enc.map .val))] m c}),
  (27,{A:=Nat×Nat×Sl×PH,st:=λ⟨i,k,d,c⟩=>bQ 96 97 [(1,.at (.ptr 1 0)),(7,iv i),(71,iv v.tables.len),(72,iv i),(80,sv d),(81,iv d.len),(82,iv k)] [(1,.cells 43 (v.enc.map .val))] m c})] [] [] false
abbrev CQ(a:cz)(b:PH)(c:Sl->PH->Prop):Prop:=xG (λx d=>∃(f:Int),aA (a=aW (cJ x) f) (gZ b d x) (mM d/\iR (λg e=>cC b e (Ints e g (jR d f)) (c g e))))
noncomputable abbrev Ak(a:Nat×Nat×Sl×Sl×PH):Sl:=a.2.2.2.1
noncomputable abbrev C9(a:Nat×Nat×Sl×Sl×PH):Nat->Nat->Option Value:=a.2.2.2.2
abbrev II(a:ca->ca->Prop):Prop:=∃(x c:ca),a x c
abbrev ED(a:cz)(b:PH)(c:ca->ca->Pred->Prop):Prop:=pW (λx d=>∃(e:PV),II (λf g=>∃(j:Pred),aA (a=fJ x::fF d (cQ e)) (Ints b x f) (aA (Ints b d g) (dD b j e) (c f g j))))
attribute [push_cast] CQ Ak C9 II ED
def PF(v:cE)(m:MH)(h:PH)(K:bz):Prop:=
  fA (mD v) 8 (K (fX 2) m h) (sZ (λI x=>aA (I x) eM (aA (tH v) (kJ v) (aA (bB x) (cL v) (aA (m=m) (h=h) True)))) (λI j x=>GZ (I x) x v (λb o y=>aU m h b (bK o x 5) (Ax y)/\nK (decide (AJ y>8)) (K (fX 2) m h) (aH y.references) 4 (K (fX 2) m h) (fA (aH y.checks) 4 (K (fX 2) m h) (∃(e:Nat),aA (I e) (j e<j x) (aA eM (tH v) (aA (kJ v) (bD (fZ (bE x 1)) e) (aA (cL v) (m=m) (bN h h))))))) (aZ v.version 0 (K (fX 70) m h) (fA v.version 1000 (K (fX 70) m h) (xG (λn s=>aA (oB (cJ v)=oB (cJ n)) (gZ h s n) (∀(r:Bool),iU (fV r↔Good D7 s.tables) (!r) (K (fX 70) m h) (xG (λt g=>mC (oB (cJ v)) (oB (cJ t)) (gZ h g t) (Good D7 g.tables) (λu=>iU (fV u↔Good
 (FN g.tables) g.tables) (!u) (K (fX 70) m h) (∃(I1:Nat×PH->Prop)(z:Nat×PH->Nat),(∃(e:Nat×PH),aA (I1 e) eM (aA (tH v) (kJ v) (aA (bB e.1) (cL v) (aA (m=m) (h=e.2) True))))/\∀(e:Nat×PH),GZ (I1 e) e.1 v (λb o y=>aU m e.2 b (bK o e.1 5) (Ax y)/\CQ (aW (cJ v) (↑e.1:Int)) e.2 (λF G=>∃(I2:Nat×Nat×Sl×Sl×PH->Prop)(A:Nat×Nat×Sl×Sl×PH->Nat),(∃(d:Nat×Nat×Sl×Sl×PH),aA (I2 d) eM (aA (bS F d.2.2.1) (tH v) (aA (kJ v) (cM e.1 d.1) (aA (bS y.checks (Ak d)) (cG y.checks (Ak d)) (tI (bB d.2.1) (cL v) (m=m) G (C9 d))))))/\∀(d:Nat×Nat×Sl×Sl×PH),I2 d->aZ (↑d.2.1:Int) (aH (Ak d)) (bJ (λB C=>aA (bM (Ak d).a B C) (0<=(↑d.2.1:
 Int)) ((↑d.2.1:Int)<aH (Ak d)/\∃(D:PV),aU m (C9 d) B (bK C d.2.1 13) D.enc/\ED (fJ d.2.2.1::cV j8 (cQ D)) (C9 d) (λc p E=>eC (gH c p E) 0 (K (fX (gH c p E)) m (C9 d)) (∃(f:Nat×Nat×Sl×Sl×PH),aA (I2 f) (A f<A d) (aA eM (bS d.2.2.1 f.2.2.1) (aA (aI v.tables) (kJ v) (aA (cM d.1 f.1) (bS (Ak d) (Ak f)) (aA (cG (Ak d) (Ak f)) (bD (fZ (bE d.2.1 1)) f.2.1) (aA (cL v) (m=m) (bN (C9 d) (C9 f)))))))))))) (∃(f:Nat×PH),aA (I1 f) (z f<z e) (aA eM (tH v) (aA (kJ v) (bD (fZ (bE d.1 1)) f.1) (aA (cL v) (m=m) (bN (C9 d) f.2))))))) (K (fX 0) m e.2))))))))))))
noncomputable abbrev Al(a:Nat×Nat×Sl×PH):Sl:=a.2.2.1
attribute [push_cast] Al
def PG(v:cE)(m:MH)(h:PH)(K:bz):Prop:=
  fA (mD v) 8 (K (fX 2) m h) (sZ (λI x=>aA (I x) eM (aA (tH v) (kJ v) (aA (bB x) (cL v) (aA (m=m) (h=h) True)))) (λI z x=>GZ (I x) x v (λb o y=>aU m h b (bK o x 5) (Ax y)/\nK (decide (AJ y>8)) (K (fX 2) m h) (aH y.references) 4 (K (fX 2) m h) (fA (aH y.checks) 4 (K (fX 2) m h) (∃(g:Nat),aA (I g) (z g<z x) (aA eM (tH v) (aA (kJ v) (bD (fZ (bE x 1)) g) (aA (cL v) (m=m) (bN h h))))))) (aZ v.version 0 (K (fX 70) m h) (fA v.version 1000 (K (fX 70) m h) (sZ (λI1 g=>aA (I1 g) eM (aA (kJ v) (bB g) (bP (cL v) (m=m) (h=h)))) (λI1 A g=>I1 g->aZ (↑g:Int) (aH v.tables) (xG (λn s=>∃(t:Dr)(i:Nat),mC (aW (cJ v) (↑g:Int)) (aW (cJ n) (↑i:Int)) (gZ h
 s n) (s.tables[i]? =Option.some t) (λr=>(fV r↔D7 (List.take i s.tables) t)->iV (!r) (K (fX 70) m h) (λj=>aA (I1 j) (A j<A g) (aA eM (kJ v) (aA (bD (fZ (bE g 1)) j) (cL v) (aA (m=m) (h=h) True))))))) (sZ (λI2 j=>aA (I2 j) eM (aA (kJ v) (bB j) (bP (cL v) (m=m) (h=h)))) (λI2 B j=>I2 j->aZ (↑j:Int) (aH v.tables) (xG (λn s=>∃(t:Dr)(i:Nat),aA (aW (cJ v) (↑j:Int)=aW (cJ n) (↑i:Int)) (gZ h s n) (aA (Good D7 s.tables) (s.tables[i]? =Option.some t) (∀(r:Bool),(fV r↔FN s.tables [] t)->iV (!r) (K (fX 70) m h) (λe=>aA (I2 e) (B e<B j) (aA eM (kJ v) (aA (bD (fZ (bE j 1)) e) (cL v) (aA (m=m) (h=h) True)))))))) (∃(I3:Nat×PH->Prop)(C:Nat×PH->Nat),(∃(e
 :Nat×PH),aA (I3 e) eM (aA (kJ v) (bB e.1) (bP (cL v) (m=m) (h=e.2))))/\∀(e:Nat×PH),I3 e->aZ (↑e.1:Int) (aH v.tables) (eK (yI v) (↑e.1:Int) v.tables (λb o y=>aU m e.2 b (bK o e.1 5+4) (bA y)/\∃(I4:Nat×Nat×Sl×PH->Prop)(D:Nat×Nat×Sl×PH->Nat),(∃(d:Nat×Nat×Sl×PH),aA (I4 d) eM (aA (cM e.1 d.1) (kJ v) (aA (cM e.1 d.1) (bS y (Al d)) (aA (cG y (Al d)) (bB d.2.1) (bP (cL v) (m=m) (e.2=d.2.2.2))))))/\∀(d:Nat×Nat×Sl×PH),I4 d->aZ (↑d.2.1:Int) (aH (Al d)) (bJ (λE F=>aA (bM (Al d).a E F) (0<=(↑d.2.1:Int)) ((↑d.2.1:Int)<aH (Al d)/\∃(G:PV),aU m d.2.2.2 E (bK F d.2.1 13) G.enc/\CQ (aW (cJ v) (↑d.1:Int)) d.2.2.2 (fun
 s u=>ED (fJ s::cV j8 (cQ G)) u (λc p H=>eC (gH c p H) 0 (K (fX (gH c p H)) m u) (∃(f:Nat×Nat×Sl×PH),aA (I4 f) (D f<D d) (aA eM (cM d.1 f.1) (aA (kJ v) (cM d.1 f.1) (aA (bS (Al d) (Al f)) (cG (Al d) (Al f)) (tI (bD (fZ (bE d.2.1 1)) f.2.1) (cL v) (m=m) u f.2.2.2)))))))))) (∃(f:Nat×PH),aA (I3 f) (C f<C e) (aA eM (kJ v) (aA (bD (fZ (bE d.1 1)) f.1) (cL v) (aA (m=m) (d.2.2.2=f.2) True)))))) (K (fX 0) m e.2))))))))))
theorem lE.out{d:PH}{r:CV}(e:Sub m m')(c:PH.le h d)(f:K r m h):lE h K r m' d:=⟨m,h,e,.refl _,c,f⟩
theorem wZ(h:¬DK s):dK s=2:=by unfold dK;rw[if_neg h]
theorem OP(h:DK s)(h':¬Lj s):dK s=70:=by unfold dK;grind
theorem Lx(h:DK s)(h':Lj s):dK s=wK ((List.range s.tables.length).flatMap (xZ s)):=by unfold dK;grind
theorem Ed{k:Nat}{t:Dr}(c:s.tables[i]? =some t)(d:t.checks[k]? =some p):(xZ s i)[k]? =some (gH (jR s i) [] p):=by
 unfold xZ;grind
theorem MS{t:Dr}(c:s.tables[i]? =some t):(xZ s i).length=t.checks.length:=by
 unfold xZ;rw[c];simp
theorem Rf{k:Nat}{e:Int}(c:l[k]? =some e)(h:∀x∈l.take k,x=0)(f:e=0):∀x∈l.take (k+1),x=0:=by
 intro x d;rw[take_add_one,c,mem_append]at d
 grind
theorem UZ{f:Nat->ca}{k:Nat}(h:∀j<i,∀x∈f j,x=0)(d:(f i).length<=k)(c:∀x∈(f i).take k,x=0):∀j<i+1,∀x∈f j,x=0:=by
 intro j n x g;by_cases e:j=i
 .subst e;rw[take_of_length_le d]at c;exact c x g
 grind
theorem HK:bu 90 z6:=by
 refine FR func90 ?_;rintro a0 m h K ⟨v,s,rfl,y,hK⟩;refine⟨bTX v m h,rfl,aE Zz (aE Zy (aE Fw (aE IT aG))),PF v m h (lE h K),bd,?_⟩;show PF v m h (lE h K);dsimp only[PF,push_cast];have W:=y.tables.slen;have X:=y.tables.len;have Y:=y.version;have out:∀(f:PH)(x:Int),PH.le h f->dK s=x->lE h K (.val (.int .i64 x)) m f:=λf x g e=>.out (Sub.refl m) g (by rw[<-e];exact hK);refine aF (λh1=>out h _ (.refl _) (wZ λe=>by have:=e.1;omega)) (λh1=>?_);refine⟨λi=>i<=s.tables.length/\fI (λ_ t=>Qv t) s.tables i,λi=>s.tables.length-i,⟨0,⟨aD,.zero⟩,MT⟩,λi⟨hi,Z⟩=>aF (λn=>?_) (λO=>?_)⟩
 .obtain⟨t,f⟩:=eT W n;obtain⟨b,o,w,P,B,c⟩:=y.tables.at f;have e1:=bY.slen c.columns;have e2:=bY.slen c.refs;have e3:=bY.slen c.checks;have bad:¬Qv t->lE h K (.val (.int .i64 2)) m h:=λQ=>out h _ (.refl _) (wZ λe=>Good.not f Q e.2);refine⟨b,o,P,aD,n,w,.imm B,aF (λR=>bad λe=>?_) (λR=>aF (λS=>bad λe=>?_) (λS=>aF (λI=>bad λe=>?_) (λI=>⟨i+1,⟨aD,Z.succ f ⟨aD,aD,aD⟩⟩,bk,MT⟩)))⟩
  .have:=e.1;omega
  .have:=e.2.1;omega
  .have:=e.2.2;omega
 have C:DK s:=⟨aD,Z.all aD⟩
 have h8:mM s:=λt H=>by
  obtain⟨j,hj⟩:=mem_iff_getElem?.1 H;exact(C.2 j t hj).1
 have bad:¬Lj s->lE h K (.val (.int .i64 70)) m h:=λQ=>out h _ (.refl _) (OP C Q);refine aF (λR=>bad λe=>?_) (λR=>aF (λS=>bad λe=>?_) (λS=>⟨v,s,rfl,y,λr B=>aC (λI=>bad λe=>?_) (λI=>⟨v,s,rfl,y,B.1 bk,λr2 J=>aC (λT=>bad λe=>?_) (λT=>?_)⟩)⟩))
 .have:=e.1;omega
 .have:=e.2.1;omega
 .rw[B.2 e.2.2.1]at I;cases I
 .rw[J.2 e.2.2.2]at T;cases T
 have ok:Lj s:=⟨aD,aD,B.1 bk,J.1 bk⟩
 rw[Lx C ok]at out;refine⟨λ⟨i,f⟩=>i<=s.tables.length/\PH.le h f/\∀j<i,∀x∈xZ s j,x=0,λ⟨i,_⟩=>s.tables.length-i,⟨(0,h),⟨aD,.refl _,λj hj=>by omega⟩,MT⟩,?_⟩;rintro⟨i,f⟩ ⟨hi,g,hz⟩;dsimp only;refine aF (λn=>?_) (λO=>out f _ g (DI _ λe he=>?_))
 .obtain⟨t,H⟩:=eT W n;obtain⟨b,o,w,P,B,c⟩:=(y.mono g).tables.at H;have cl:=bY.slen c.checks;have cb:=bY.len c.checks;refine⟨b,o,P,aD,n,w,.imm B,v,s,i,rfl,y.mono g,h8,λsl h' z D=>?_⟩;refine⟨λ⟨i',k,ks,cs,E⟩=>i'=i/\cs=w.checks/\k<=t.checks.length/\PH.le h' E/\Ints E ks (jR s i)/\∀x∈(xZ s i).take k,x=0,λ⟨_,k,_,_,_⟩=>t.checks.length-k,⟨(i,0,sl,w.checks,h'),⟨rfl,rfl,aD,.refl _,D,λx f=>by simp at f⟩,MT⟩,?_⟩;rintro⟨i,k,ks,_,E⟩ ⟨rfl,rfl,hk,u,d,F⟩;dsimp only;have L:PH.le h E:=(g.trans z).trans u;refine aF (λA=>?_) (λa'=>⟨(i+1,E),⟨aD,L,UZ hz (k:=k) (by rw[MS H];omega) F⟩,aD,MT⟩);obtain⟨p,U⟩:=eT cl A;obtain⟨b2,o2,pv,V,M,G⟩:=((c.checks.mono z).mono u).at U;refine⟨b2,o2,V,aD,A,pv,.imm M,ks,⟨none,0,0⟩,pv,jR s i,[],p,rfl,d,⟨.nil _ _,bf⟩,G,aC (λh6=>?_) (λh6=>?_)⟩
  .exact out E _ L (Nq aD hz F (Ed H U) bk)
  .exact⟨(i,k+1,ks,w.checks,E),⟨rfl,rfl,bk,u,d,Rf (Ed H U) F bk⟩,bk,MT⟩
 .grind
theorem aLZ:bu 86 z6:=by
 refine FR func86 ?_;rintro a0 m h K ⟨v,s,rfl,C,hK⟩;refine⟨bUQ v m h,rfl,aE ZB (aE ZA (aE L4 (aE LZ aG))),PG v m h (lE h K),bd,?_⟩;show PG v m h (lE h K);dsimp only[PG,push_cast];have Q:=C.tables.slen;have Y:=C.tables.len;have Z:=C.version;have out:∀(c:PH)(x:Int),PH.le h c->dK s=x->lE h K (.val (.int .i64 x)) m c:=λc x n e=>.out (Sub.refl m) n (by rw[<-e];exact hK);refine aF (λh1=>out h _ (.refl _) (wZ λe=>by have:=e.1;omega)) (λh1=>?_);refine⟨λi=>i<=s.tables.length/\fI (λ_ t=>Qv t) s.tables i,λi=>s.tables.length-i,⟨0,⟨aD,.zero⟩,MT⟩,λi⟨M,u⟩=>aF (λf=>?_) (λg=>?_)⟩
 .obtain⟨t,c⟩:=eT Q f;obtain⟨b,o,w,S,A,d⟩:=C.tables.at c;have e1:=bY.slen d.columns;have e2:=bY.slen d.refs;have e3:=bY.slen d.checks;have bad:¬Qv t->lE h K (.val (.int .i64 2)) m h:=λT=>out h _ (.refl _) (wZ λe=>Good.not c T e.2);refine⟨b,o,S,aD,f,w,.imm A,aF (λU=>bad λe=>?_) (λU=>aF (λV=>bad λe=>?_) (λV=>aF (λB=>bad λe=>?_) (λB=>⟨i+1,⟨aD,u.succ c ⟨aD,aD,aD⟩⟩,bk,MT⟩)))⟩
  .have:=e.1;omega
  .have:=e.2.1;omega
  .have:=e.2.2;omega
 have F:DK s:=⟨aD,u.all aD⟩
 have h8:mM s:=λt O=>by
  obtain⟨j,hj⟩:=mem_iff_getElem?.1 O;exact(F.2 j t hj).1
 have bad:¬Lj s->lE h K (.val (.int .i64 70)) m h:=λT=>out h _ (.refl _) (OP F T);refine aF (λU=>bad λe=>?_) (λU=>aF (λV=>bad λe=>?_) (λV=>?_))
 .have:=e.1;omega
 .have:=e.2.1;omega
 clear M u g;refine⟨λi=>i<=s.tables.length/\fI D7 s.tables i,λi=>s.tables.length-i,⟨0,⟨aD,.zero⟩,MT⟩,λi⟨M,u⟩=>aF (λf=>?_) (λg=>?_)⟩
 .obtain⟨t,c⟩:=eT Q f;refine⟨v,s,t,i,rfl,C,c,λr A=>aC (λB=>bad λe=>?_) (λB=>⟨i+1,⟨aD,u.succ c (A.1 bk)⟩,bk,MT⟩)⟩;rw[A.2 (e.2.2.1 i t c)]at B;cases B
 have D:=u.all aD;clear M u g;refine⟨λi=>i<=s.tables.length/\fI (FN s.tables) s.tables i,λi=>s.tables.length-i,⟨0,⟨aD,.zero⟩,MT⟩,λi⟨M,u⟩=>aF (λf=>?_) (λg=>?_)⟩
 .obtain⟨t,c⟩:=eT Q f;refine⟨v,s,t,i,rfl,C,D,c,λr A=>aC (λB=>bad λe=>?_) (λB=>⟨i+1,⟨aD,u.succ c (A.1 bk)⟩,bk,MT⟩)⟩;rw[A.2 (e.2.2.2 i t c)]at B;cases B
 have G:=u.all aD;clear M u g;have ok:Lj s:=⟨aD,aD,D,G⟩
 rw[Lx F ok]at out;refine⟨λ⟨i,c⟩=>i<=s.tables.length/\PH.le h c/\∀j<i,∀x∈xZ s j,x=0,λ⟨i,_⟩=>s.tables.length-i,⟨(0,h),⟨aD,.refl _,λj hj=>by omega⟩,MT⟩,?_⟩;rintro⟨i,c⟩ ⟨M,n,hz⟩;dsimp only;refine aF (λf=>?_) (λg=>out c _ n (DI _ λe he=>?_))
 .obtain⟨t,O⟩:=eT Q f;obtain⟨b,o,w,S,A,d⟩:=(C.mono n).tables.at O;have cl:=bY.slen d.checks;have cb:=bY.len d.checks;refine⟨b,o,S,aD,f,w.checks,.imm (bL.part A 4 1),?_⟩;refine⟨λ⟨i',k,cs,R⟩=>i'=i/\cs=w.checks/\k<=t.checks.length/\PH.le c R/\∀x∈(xZ s i).take k,x=0,λ⟨_,k,_,_⟩=>t.checks.length-k,⟨(i,0,w.checks,c),⟨rfl,rfl,aD,.refl _,λx c=>by simp at c⟩,MT⟩,?_⟩;rintro⟨i,k,_,R⟩ ⟨rfl,rfl,hk,y,H⟩;dsimp only;have I:PH.le h R:=n.trans y;refine aF (λE=>?_) (λa'=>⟨(i+1,R),⟨aD,I,UZ hz (k:=k) (by rw[MS O];omega) H⟩,aD,MT⟩);obtain⟨p,W⟩:=eT cl E;obtain⟨b2,o2,pv,X,P,J⟩:=(d.checks.mono y).at W;refine⟨b2,o2,X,aD,E,pv,.imm P,v,s,i,rfl,C.mono I,h8,λsl h' z L=>⟨sl,⟨none,0,0⟩,pv,jR s i,[],p,rfl,L,⟨.nil _ _,bf⟩,J.mono z,aC (λh6=>?_) (λh6=>?_)⟩⟩
  .exact out h' _ (I.trans z) (Nq aD hz H (Ed O W) bk)
  .exact⟨(i,k+1,w.checks,h'),⟨rfl,rfl,bk,y.trans z,Rf (Ed O W) H bk⟩,bk,MT⟩
 .grind
mutual
def qO:Query->Int->Int
 |.mk _ _ _ _ _ _ _ _ args,n=>lG args (n+1)
def lG:ci->Int->Int
 |[],n=>n
 |p::ps,n=>if n<=24 then lG ps (qO p n)else n
end
mutual
def pI:Query->Nat->Bool
 |.mk _ _ _ _ _ _ _ _ _,0=>true
 |.mk _ _ _ _ _ _ _ _ args,n+1=>wM args n
def wM:ci->Nat->Bool
 |[],_=>false
 |p::ps,n=>pI p n||wM ps n
end
mutual
theorem Em:∀(p:Query)(n:Int),n<=24->n<qO p n/\qO p n<=25
 |.mk _ _ _ _ _ _ _ _ args,n,h=>by
  have:=Ii args (n+1) aD;simp only[qO];omega
theorem Ii:∀(ps:ci)(n:Int),n<=25->n<=lG ps n/\lG ps n<=25
 |[],n,h=>by simp only[lG];omega
 |p::ps,n,h=>by
  simp only[lG];split
  .rename_i c;have d:=Em p n c;have e:=Ii ps (qO p n) d.2;omega
  .omega
end
theorem T6(ps:ci){n:Int}(h:¬n<=24):lG ps n=n:=by
 cases ps
 .simp[lG]
 .simp only[lG,if_neg h]
theorem K5(n:Nat):∀ps:ci,wM ps n=ps.any (pI · n)
 |[]=>by simp[wM]
 |p::ps=>by simp[wM,K5 n ps]
theorem bU.args{p:Query}(r:bU h p v):FM h v.args p.args:=by
 cases p;exact r.parts.args_
def nC(q:Query):Bool:=decide (qO q 0<=24)&& !pI q 8
def arity(op:Int):Int:=
 if op==1 then 0 else if op==2||op==3||op==9 then 1 else if op==4||op==5||op==6||op==7||op==8||op==10 then 2 else-1
def UQ(N:Nat):Vc.Spec:=λc m h K=>∃v p k,c=[aQ v,cI k,cI 24]/\bU h p v/\SizeOf.sizeOf p<N/\0<=k/\k<=24/\K (cI (qO p k)) m h
def QS(N:Nat):Vc.Spec:=λc m h K=>∃v p,∃k:Nat,c=[aQ v,cI k]/\bU h p v/\SizeOf.sizeOf p<N/\k<=100/\K (cB (pI p k)) m h
def auJ:Vc.Spec:=λc m h K=>∃v p,c=[aQ v]/\bU h p v/\K (cB (nC p)) m h
def QY:Vc.Spec:=λc m h K=>∃op,c=[cI op]/\K (cI (arity op)) m h
def B9(l:ca)(n:Int):Bool:=decide (0<=n)&&decide (n<l.length)
def InS:Vc.Spec:=λc m h K=>∃s l n,c=[cS s,cI n]/\Ints h s l/\K (cB (B9 l n)) m h
noncomputable def bqX(N:Nat)(v:QV)(m:MH)(h:PH):Ctx:=
 dA [(152,UQ N)] [(3,{A:=Nat×Int,st:=λx=>bQ 31 34 [(1,iv x.2),(2,iv 24),(3,.at (.ptr 3 0)),(7,iv x.1)] [(3,.cells 38 (v.enc.map .val))] m h})] [] [] false
noncomputable def bqQ(N:Nat)(v:QV)(k:Nat)(m:MH)(h:PH):Ctx:=
 dA [(153,QS N)] [(4,{A:=Nat,st:=λi=>bQ 23 25 [(1,iv k),(2,.at (.ptr 2 0)),(10,iv v.args.len),(11,iv i)] [(2,.cells 38 (v.enc.map .val))] m h})] [] [] false
abbrev dM(a:QV):Prop:=eQ (nL 38 a.enc)
attribute [push_cast] dM
def SS(N:Nat)(v:QV)(k:Int)(m:MH)(h:PH)(K:bz):Prop:=
  ∃(I:Nat×Int->Prop)(e:Nat×Int->Nat),(∃(x:Nat×Int),aA (I x) (dW (fH (k+1)) x.2) (aA (gY 24) bV (aA (bB x.1) (dM v) (aA (m=m) (h=h) True))))/\∀(x:Nat×Int),I x->aZ (↑x.1:Int) (aH v.args) (Ge x.2 24 (Oh v.args.a x.1 v.args (λb o y=>aU m h b (bK o x.1 21) y.enc/\mU (λf p=>∃(c:Int),aA (cN y::aW (fX x.2) 24=cN f::aW (fX c) 24) (bU h p f) (aA (vV p N) (bZ c) (c<=24/\∃(d:Nat×Int),aA (I d) (e d<e x) (aA (dW (qO p c) d.2) (gY 24) (aA bV (bD (fZ (bE x.1 1)) d.1) (aA (dM v) (m=m) (bN h h))))))))) (K (fX x.2) m h)) (K (fX x.2) m h)
abbrev qV(a:QV):Prop:=bI a.args
attribute [push_cast] qV
def SR(N:Nat)(v:QV)(k:Nat)(m:MH)(h:PH)(K:bz):Prop:=
  eO (↑k:Int) 0 (gK K m h) (sZ (λI x=>aA (I x) (eQ (FP k)) (aA dQ (qV v) (aA (bB x) (dM v) (aA (m=m) (h=h) True)))) (λI e x=>I x->aZ (↑x:Int) (aH v.args) (bJ (λb o=>aA (bM v.args.a b o) (0<=(↑x:Int)) ((↑x:Int)<aH v.args/\∃(y:QV),aU m h b (bK o x 21) y.enc/\mU (λf p=>∃(c:Nat),aA (aW (cN y) (fH ((↑k:Int)-1))=aW (cN f) (↑c:Int)) (bU h p f) (aA (vV p N) (c<=100) (iV (pI p c) (gK K m h) (λd=>aA (I d) (e d<e x) (aA (eQ (FP k)) dQ (aA (qV v) (bD (fZ (bE x 1)) d) (aA (dM v) (m=m) (bN h h))))))))))) (K aX m h)))
def Wh(N:Nat)(v:QV)(m:MH)(h:PH)(K:bz):Prop:=
  mU (λe p=>∃(k:Int),aA (cN v::aW (fX 0) 24=cN e::aW (fX k) 24) (bU h p e) (aA (vV p N) (bZ k) (k<=24/\Ge (qO p k) 24 (mU (λf c=>∃(d:Nat),aA (aW (cN v) 8=aW (cN f) (↑d:Int)) (bU h c f) (aA (vV c N) (d<=100) (K (CV.val (Value.bool (!(pI c d)))) m h)))) (K aX m h))))
def Ta(op:Int)(m:MH)(h:PH)(K:bz):Prop:=
  cW (op==1) (K (fX 0) m h) (op==2) (K (fX 1) m h) (cW (op==3) (K (fX 1) m h) (op==9) (K (fX 1) m h) (cW (op==4) (K (fX 2) m h) (op==5) (K (fX 2) m h) (cW (op==6) (K (fX 2) m h) (op==7) (K (fX 2) m h) (cW (op==8) (K (fX 2) m h) (op==10) (K (fX 2) m h) (K (fX (Int.negSucc 0)) m h)))))
def Sq(s:Sl)(n:Int)(m:MH)(h:PH)(K:bz):Prop:=
  gM n 0 (K (Bc (decide (n<aH s))) m h) (K aX m h)
theorem WU:∀N,bu 152 (UQ N)
 |0=>by
  refine dU (fn:=Tryz.f152) (c:=bW Tryz.f152) func152 rfl bg ?_;rintro y m h K ⟨v,p,k,rfl,D,F,_⟩;omega
 |N+1=>by
  refine hU func152 ?_;rintro y m h K ⟨v,p,k,rfl,D,F,J,L,E⟩;refine⟨bqX N v m h,rfl,aE (WU N) aG,SS N v k m h K,bd,?_⟩;dsimp only[SS,push_cast];have d:=D.args;have e:=d.slen;have M:=d.len;refine⟨λx=>x.1<=p.args.length/\0<=x.2/\x.2<=25/\lG (p.args.drop x.1) x.2=qO p k,λx=>p.args.length-x.1,⟨(0,k+1),⟨bf,bj,bj,?_⟩,?_⟩,?_⟩
  .cases p;simp[qO,Query.args]
  .rw[eH aD aD];exact MT
  rintro⟨i,n⟩ ⟨G,f,z,g⟩;dsimp only at G f z g⊢
  refine aF (λj=>aF (λt=>?_) (λt=>AU E ?_)) (λH=>AU E ?_)
  .obtain⟨q,A⟩:=eT e j;obtain⟨b,o,u,I,B,C⟩:=d.at A;have O:=Em q n t;rw[drop_cons A,lG,if_pos t]at g;refine⟨b,o,I,aD,j,u,.imm B,u,q,n,rfl,C,?_,f,t,(i+1,qO q n),⟨aD,aD,aD,g⟩,aD,MT⟩;have:=sL (mem_of_getElem? A);omega
  .rw[<-g,T6 _ t]
  .rw[<-g,drop_of_length_le aD];simp[lG]
theorem WT:∀N,bu 153 (QS N)
 |0=>by
  refine dU (fn:=Tryz.f153) (c:=bW Tryz.f153) func153 rfl bg ?_;rintro j m h K ⟨v,p,k,rfl,z,C,_⟩;omega
 |N+1=>by
  refine hU func153 ?_;rintro j m h K ⟨v,p,k,rfl,z,C,H,g⟩;refine⟨bqQ N v k m h,rfl,aE (WT N) aG,SR N v k m h K,bd,?_⟩;dsimp only[SR,push_cast];have d:=z.args;have e:=d.slen;have I:=d.len;refine aC (λA=>jM g ?_) (λA=>?_)
  .have:k=0:=bk
   subst this;cases p;simp[pI]
  .have A:k≠0:=bk
   have n:pI p k=p.args.any (pI · (k-1)):=by
    obtain⟨B,rfl⟩:∃B,k=B+1:=⟨k-1,aD⟩
    cases p;simp[pI,K5,Query.args]
   rw[n]at g;refine⟨λi=>i<=p.args.length/\(p.args.take i).any (pI · (k-1))=false,λi=>p.args.length-i,⟨0,⟨aD,bf⟩,MT⟩,λi D=>aF (λf=>?_) (λE=>jM g ?_)⟩
   .obtain⟨q,t⟩:=eT e f;obtain⟨b,o,u,F,x,y⟩:=d.at t;refine⟨b,o,F,aD,f,u,.imm x,u,q,k-1,?_,y,?_,aD,aC (λG=>jM g ?_) (λG=>?_)⟩
    .rw[eH aD aD,show((k-1:Nat):Int)=(k:Int)-1 by omega]
    .have:=sL (mem_of_getElem? t);omega
    .grind
    .refine⟨i+1,⟨aD,?_⟩,bk,MT⟩;rw[take_add_one,any_append,D.2,t];grind
   grind
theorem aLX:bu 88 auJ:=by
 refine hU func88 ?_;rintro f m h K ⟨v,p,rfl,d,e⟩;refine⟨dA [(152,UQ (SizeOf.sizeOf p+1)),(153,QS (SizeOf.sizeOf p+1))] [] [] [] false,rfl,aE (WU _) (aE (WT _) aG),Wh (SizeOf.sizeOf p+1) v m h K,bd,?_⟩;dsimp only[Wh,push_cast];refine⟨v,p,0,rfl,d,aD,aD,aD,aC (λc=>⟨v,p,8,rfl,d,aD,aD,jM e ?_⟩) (λc=>jM e ?_)⟩
 .simp only[nC,c,Bool.true_and]
 .simp only[nC,c,Bool.false_and]
theorem Qc:bu 128 QY:=by
 refine hU func128 ?_;rintro d m h K ⟨op,rfl,c⟩;refine⟨dA [] [] [] [] false,rfl,aG,Ta op m h K,bd,?_⟩;dsimp only[Ta,push_cast]
 repeat' (first|(refine aC (λ_=>?_) (λ_=>?_))|(refine AU c ?_;simp only[arity];simp only[*,Bool.or_false,Bool.false_or,Bool.or_true,Bool.true_or,Bool.and_true,Bool.true_and,Bool.and_false,Bool.false_and,Bool.not_true,Bool.not_false,Bool.false_eq_true,if_true,if_false, ↓reduceIte];done)|(refine AU c ?_;simp only[arity];grind))
theorem IQ:bu 197 InS:=by
 refine hU func197 ?_;rintro e m h K ⟨s,l,n,rfl,f,d⟩;refine⟨dA [] [] [] [] false,rfl,aG,Sq s n m h K,bd,?_⟩;dsimp only[Sq,push_cast];have g:=f.slen;refine aF (λc=>jM d ?_) (λc=>jM d ?_)
 .have c:0<=n:=c;simp only[B9,g,decide_eq_true c,Bool.true_and]
 .have c:¬0<=n:=by omega
  simp only[B9,decide_eq_false c,Bool.false_and]
def lX(a b:ca)(c:ce)(p:Int×Int):Prop:=B9 a p.1=true/\B9 b p.2=true/\a.getD p.1.toNat 0=b.getD p.2.toNat 0/\∀q∈c,q.1≠p.1/\q.2≠p.2
def FE(a:ca)(d:ca)(c:Int):Prop:=B9 a c=true/\c∉d
def I9(a:ca)(_:cg)(o:Int×Bool):Prop:=B9 a o.1=true
structure lR(a:ca)(group:ca)(order:cg)(limit:Int):Prop where
 group_:Good (FE a) group
 order_:Good (I9 a) order
 len_:order.length<=12
 low:0<=limit
 high:limit<=100
def awZ:Vc.Spec:=λc m h K=>∃s t u on a b,c=[cS s,cS t,cS u]/\iF h s on/\Ints h t a/\Ints h u b/\∀r:Bool,(r=true↔Good (lX a b) on)->K (cB r) m h
def avJ:Vc.Spec:=λc m h K=>∃v t g o a,c=[aQ v,cS t]/\Ints h v.group g/\jT h v.order o/\Ints h t a/\∀r:Bool,(r=true↔lR a g o v.limit)->K (cB r) m h
noncomputable def bkJ(s t u:Sl)(m:MH)(h:PH):Ctx:=
 dA [(197,InS)] [(2,{A:=Nat,st:=λi=>bQ 66 69 [(0,sv s),(1,sv t),(2,sv u),(10,sv s),(11,iv s.len),(12,iv i)] [] m h}),
  (7,{A:=Nat×Nat×(Int×Int),st:=λ⟨i,k,p⟩=>bQ 66 69 [(0,sv s),(1,sv t),(2,sv u),(7,iv i),(8,.at (.ptr 8 0)),(9,iv k),(10,sv s),(11,iv s.len),(12,iv i)] [(8,.cells 101 [.val (.int .i64 p.1),.val (.int .i64 p.2)])] m h})] [] [] false
noncomputable def bkZ(v:QV)(t:Sl)(m:MH)(h:PH):Ctx:=
 dA [(197,InS)] [(2,{A:=Nat,st:=λi=>bQ 62 64 [(1,sv t),(2,.at (.ptr 2 0)),(11,sv v.group),(12,iv v.group.len),(13,iv i)] [(2,.cells 38 (v.enc.map .val))] m h}),
  (7,{A:=Nat×Nat×Int,st:=λ⟨i,k,c⟩=>bQ 62 64 [(1,sv t),(2,.at (.ptr 2 0)),(5,iv i),(6,iv c),(7,iv k),(11,sv v.group),(12,iv v.group.len),(13,iv i)] [(2,.cells 38 (v.enc.map .val))] m h}),
  (13,{A:=Nat,st:=λi=>bQ 62 64 [(1,sv t),(2,.at (.ptr 2 0)),(36,sv v.order),(37,iv v.order.len),(38,iv i)] [(2,.cells 38 (v.enc.map .val))] m h})] [] [] false
noncomputable abbrev iO(a:Sl)(b:Int):cz:=aW (fJ a) b
abbrev G3(a:Sl)(b:Int)(c:Nat->Nat->Option Value)(d:ca->Int->Prop):Prop:=CM (λx e=>∃(f:Int),aA (iO a b=iO x f) (Ints c x e) (d e f))
abbrev eZ:Prop:=eP 8
abbrev EO(a b:cw):Prop:=oQ 101 a=oQ 101 b
noncomputable abbrev wT(a:Int×Int):cw:=lV (gC a.1) (gC a.2)
attribute [push_cast] iO G3 eZ EO wT
def Sp(s t u:Sl)(m:MH)(h:PH)(K:bz):Prop:=
  sZ (λI x=>aA (I x) (aI s) (aA (aI t) (aI u) (aA (aI s) (bI s) (aA (bB x) (m=m) (bN h h))))) (λI e x=>I x->aZ (↑x:Int) (aH s) (bJ (λb o=>aA (bM s.a b o) (0<=(↑x:Int)) ((↑x:Int)<aH s/\∃(y:Int×Int),aA (aU m h b (bK o x 2) (pB y)) ((0:Int)<=0) ((0:Int)<2/\G3 t y.1 h (λl n=>iM (B9 l n) (K aX m h) (aA (bZ 1) ((1:Int)<2) (G3 u y.2 h (λL M=>iM (B9 L M) (K aX m h) (aA (bZ 0) ((0:Int)<2) (bJ (λf g=>aA (bM t.a f g) (0<=y.1) (y.1<aH t/\∃(j:Int),aA (aU m h f (fU g y.1 1) (bG j)) ((0:Int)<=1) ((1:Int)<2/\bJ (λz A=>aA (bM u.a z A) (0<=y.2) (y.2<aH u/\∃(B:Int),aU m h z (fU A y.2 1) (bG B)/\eC j B (K aX m h) (∃(I1:Nat×Nat×
 Int×Int->Prop)(C:Nat×Nat×Int×Int->Nat),(∃(c:Nat×Nat×Int×Int),aA (I1 c) (aI s) (aA (aI t) (aI u) (aA (cM x c.1) eZ (aA (bB c.2.1) (aI s) (aA (bI s) (cM x c.1) (aA (EO (wT y) (wT c.2.2)) (m=m) (bN h h)))))))/\∀(c:Nat×Nat×Int×Int),I1 c->aZ (↑c.2.1:Int) (↑c.1:Int) (bJ (λD E=>aA (bM s.a D E) (bZ (↑c.2.1:Int)) (aA ((↑c.2.1:Int)<aH s) (bZ 0) ((0:Int)<2/\∃(F:Int),aA (aU m h D (bK E c.2.1 2+0) (bG F)) ((0:Int)<=0) ((0:Int)<2/\eO F c.2.2.1 (K aX m h) (bJ (λG H=>aA (bM s.a G H) (bZ (↑c.2.1:Int)) (aA ((↑c.2.1:Int)<aH s) (bZ 1) ((1:Int)<2/\∃(J:Int),aA (aU m h G (bK H c.2.1 2+1) (bG J)) ((0:Int)<=1) ((1:Int)<2/\eO J
 c.2.2.2 (K aX m h) (∃(d:Nat×Nat×Int×Int),aA (I1 d) (C d<C c) (aA (aI s) (aI t) (aA (aI u) (cM c.1 d.1) (aA eZ (bD (fZ (bE c.2.1 1)) d.2.1) (aA (aI s) (bI s) (aA (cM c.1 d.1) (EO (wT c.2.2) (wT d.2.2)) (aA (m=m) (h=h) True))))))))))))))))) (∃(d:Nat),aA (I d) (e d<e x) (aA (aI s) (aI t) (aA (aI u) (aI s) (aA (bI s) (bD (fZ (bE c.1 1)) d) (aA (m=m) (h=h) True))))))))))))))))))))) (gK K m h))
abbrev G9(a:(Nat->Prop)->Nat->Prop)(b:Sl)(c:MH)(d:PH)(e:(Nat->Prop)->(Nat->Nat)->Nat->Int->Prop)(g:Prop):Prop:=sZ (λx j=>a x j) (λx j f=>x f->aZ (↑f:Int) (aH b) (bJ (λn o=>aA (bM b.a n o) (0<=(↑f:Int)) ((↑f:Int)<aH b/\∃(t:Int),aU c d n (bK o f 1) (bG t)/\e x j f t))) g)
attribute [push_cast] G9
def Sn(v:QV)(t:Sl)(m:MH)(h:PH)(K:bz):Prop:=
  G9 (λI x=>aA (I x) (aI t) (aA dQ (aI v.group) (aA (bI v.group) (bB x) (aA (dM v) (m=m) (bN h h))))) v.group m h (λI e x y=>G3 t y h (λl n=>iM (B9 l n) (K aX m h) (∃(I1:Nat×Nat×Int->Prop)(f:Nat×Nat×Int->Nat),(∃(c:Nat×Nat×Int),aA (I1 c) (aI t) (aA dQ (cM x c.1) (aA (dW y c.2.2) (bB c.2.1) (aA (aI v.group) (bI v.group) (tI (cM x c.1) (dM v) (m=m) h h)))))/\∀(c:Nat×Nat×Int),I1 c->aZ (↑c.2.1:Int) (↑c.1:Int) (bJ (λb o=>aA (bM v.group.a b o) (0<=(↑c.2.1:Int)) ((↑c.2.1:Int)<aH v.group/\∃(g:Int),aU m h b (bK o c.2.1 1) (bG g)/\eO g c.2.2 (K aX m h) (∃(d:Nat×Nat×Int),aA (I1 d) (f d<f c) (aA (aI t) dQ (aA (cM c.1 d.1) (dW c.2.2 d.2.2)
 (aA (bD (fZ (bE c.2.1 1)) d.2.1) (aI v.group) (aA (bI v.group) (cM c.1 d.1) (aA (dM v) (m=m) (bN h h)))))))))) (∃(d:Nat),aA (I d) (e d<e x) (aA (aI t) dQ (aA (aI v.group) (bI v.group) (aA (bD (fZ (bE c.1 1)) d) (dM v) (aA (m=m) (h=h) True)))))))) (sZ (λI x=>aA (I x) (aI t) (aA dQ (aI v.order) (aA (bI v.order) (bB x) (aA (dM v) (m=m) (bN h h))))) (λI e x=>I x->aZ (↑x:Int) (aH v.order) (bJ (λb o=>aA (bM v.order.a b o) (0<=(↑x:Int)) ((↑x:Int)<aH v.order/\∃(y:Int×Bool),aU m h b (bK o x 2) (tS y)/\G3 t y.1 h (λl n=>iV (!(B9 l n)) (K aX m h) (λc=>aA (I c) (e c<e x) (aA (aI t) dQ (aA (aI v.order) (bI v.order) (aA (bD (fZ (bE x 1)) c) (dM v) (aA
 (m=m) (h=h) True))))))))) (Ge (aH v.order) 12 (gM v.limit 0 (K (Bc (decide (v.limit<=100))) m h) (K aX m h)) (K aX m h))))
theorem Pl{α:Type}{l:List α}{k:Nat}{x:α}(c:l[i]? =some x)(d:i<k):x∈l.take k:=mem_of_getElem? (i:=i) bk
theorem U9{α:Type}{l:List α}{x y:α}(c:l[i]? =some x)(d:y∈l.take (i+1)):y∈l.take i\/y=x:=by
 rw[take_add_one,c,mem_append]at d
 grind
theorem eJ{n:Int}:B9 l n=true↔0<=n/\n<l.length:=by simp[B9]
theorem Y5:bu 198 awZ:=by
 refine hU func198 ?_;rintro R m h K ⟨s,t,u,on,a,b,rfl,n,o,x,E⟩;refine⟨bkJ s t u m h,rfl,aE IQ aG,Sp s t u m h K,bd,?_⟩;dsimp only[Sp,push_cast];have S:=n.slen;have F:=n.len;have ta:=o.slen;have ub:=x.slen;refine⟨λi=>i<=on.length/\fI (lX a b) on i,λi=>on.length-i,⟨0,⟨aD,.zero⟩,MT⟩,λi⟨hi,G⟩=>aF (λf=>?_) (λT=>E true ⟨λ_=>G.all aD,λ_=>rfl⟩)⟩;obtain⟨p,y⟩:=eT S f;obtain⟨U,V,W,X⟩:=n.at y;have bad:¬lX a b (on.take i) p->K (.val (.bool false)) m h:=λY=>E false ⟨λe=>(by cases e),λe=>(Good.not y Y e).elim⟩;refine⟨U,V,W,aD,f,p,.imm X,aD,aD,t,a,p.1,rfl,o,aC (λz=>bad λc=>?_) (λz=>⟨aD,aD,u,b,p.2,rfl,x,aC (λA=>bad λc=>?_) (λA=>?_)⟩)⟩
 .rw[c.1]at z;cases z
 .rw[c.2.1]at A;cases A
 have H:B9 a p.1=true:=bk
 have I:B9 b p.2=true:=bk
 have g:=eJ.1 H;have j:=eJ.1 I;obtain⟨Z,o2,e2,r2⟩:=o.inb g.1 g.2;obtain⟨b3,o3,e3,r3⟩:=x.inb j.1 j.2;refine⟨aD,aD,Z,o2,e2,aD,aD,_,.imm r2,aD,aD,b3,o3,e3,aD,aD,_,.imm r3,aC (λB=>bad λc=>?_) (λB=>?_)⟩
 .rw[c.2.2.1]at B;simp at B
 refine⟨λ⟨i',k,p'⟩=>i'=i/\p'=p/\k<=i/\∀q∈on.take k,q.1≠p.1/\q.2≠p.2,λ⟨_,k,_⟩=>i-k,⟨(i,0,p),⟨rfl,rfl,aD,λq d=>by simp at d⟩,MT⟩,?_⟩;rintro⟨i,k,p⟩ ⟨rfl,rfl,hk,C⟩;dsimp only;refine aF (λJ=>?_) (λL=>?_)
 .obtain⟨q,d⟩:∃q,on[k]? =some q:=⟨on[k]'(by omega),getElem?_eq_getElem _⟩
  obtain⟨M,O,P,Q⟩:=n.at d;refine⟨M,O,P,aD,aD,aD,aD,q.1,.imm (bL.part Q 0 1),aD,aD,aC (λh4=>bad λc=>?_) (λh4=>⟨M,O,P,aD,aD,aD,aD,q.2,.imm (bL.part Q 1 1),aD,aD,aC (λh5=>bad λc=>?_) (λh5=>?_)⟩)⟩
  .exact(c.2.2.2 q (Pl d aD)).1 bk
  .exact(c.2.2.2 q (Pl d aD)).2 bk
  .refine⟨(i,k+1,p),⟨rfl,rfl,bk,λq' D=>?_⟩,bk,MT⟩;rcases U9 d D with e|rfl
   .grind
   grind
 .have:k=i:=by omega
  subst this;exact⟨k+1,⟨aD,G.succ y ⟨H,I,bk,C⟩⟩,aD,MT⟩
theorem Y4:bu 199 avJ:=by
 refine hU func199 ?_;rintro U m h K ⟨v,t,g,o,a,rfl,B,C,J,L⟩;refine⟨bkZ v t m h,rfl,aE IQ aG,Sn v t m h K,bd,?_⟩;dsimp only[Sn,push_cast];have V:=B.slen;have M:=B.len;have W:=C.slen;have O:=C.len;have bad:¬lR a g o v.limit->K (.val (.bool false)) m h:=λX=>L false ⟨λe=>(by cases e),λe=>(X e).elim⟩;refine⟨λi=>i<=g.length/\fI (FE a) g i,λi=>g.length-i,⟨0,⟨aD,.zero⟩,MT⟩,λi⟨P,u⟩=>aF (λd=>?_) (λx=>?_)⟩
 .obtain⟨c,n⟩:=eT V d;obtain⟨D,E,F,G⟩:=B.at' n;refine⟨D,E,F,aD,d,c,.imm G,t,a,c,rfl,J,aC (λf=>bad λj=>Good.not n (λy=>?_) j.group_) (λf=>?_)⟩
  .rw[y.1]at f;cases f
  refine⟨λ⟨Y,k,Z⟩=>Y=i/\Z=c/\k<=i/\c∉g.take k,λ⟨_,k,_⟩=>i-k,⟨(i,0,c),⟨rfl,rfl,aD,bf⟩,MT⟩,?_⟩;rintro⟨i,k,c⟩ ⟨rfl,rfl,hk,z⟩;dsimp only;refine aF (λQ=>?_) (λR=>?_)
  .obtain⟨q,H⟩:∃q,g[k]? =some q:=⟨g[k]'(by omega),getElem?_eq_getElem _⟩
   obtain⟨b4,o4,e4,r4⟩:=B.at' H;refine⟨b4,o4,e4,aD,aD,q,.imm r4,aC (λS=>bad λj=>Good.not n (λy=>?_) j.group_) (λS=>?_)⟩
   .refine y.2 ?_;have:q=c:=bk
    rw[<-this];exact Pl H aD
   .refine⟨(i,k+1,c),⟨rfl,rfl,bk,λI=>?_⟩,bk,MT⟩;rcases U9 H I with e|rfl
    .exact z e
    .simp at S
  .have:k=i:=by omega
   subst this;exact⟨k+1,⟨aD,u.succ n ⟨bk,z⟩⟩,aD,MT⟩
 have gg:=u.all aD;clear P u x;refine⟨λi=>i<=o.length/\fI (I9 a) o i,λi=>o.length-i,⟨0,⟨aD,.zero⟩,MT⟩,λi⟨P,A⟩=>aF (λd=>?_) (λx=>?_)⟩
 .obtain⟨c,n⟩:=eT W d;obtain⟨D,E,F,G⟩:=C.at n;refine⟨D,E,F,aD,d,c,.imm G,t,a,c.1,rfl,J,aC (λf=>bad λj=>Good.not n (λy=>?_) j.order_) (λf=>⟨i+1,⟨aD,A.succ n (by simpa[I9]using f)⟩,bk,MT⟩)⟩;rw[show B9 a c.1=true from y]at f;cases f
 have oo:=A.all aD;refine aF (λf=>aF (λT=>?_) (λT=>bad λj=>?_)) (λf=>bad λj=>?_)
 .refine L (decide (v.limit<=100)) ⟨λe=>⟨gg,oo,aD,T,bt e⟩,λe=>decide_eq_true e.high⟩
 .have:=j.low;omega
 .have:=j.len_;omega
def eW:Pred:=.mk 0 0 dH dH []
def cH:Query->Prop
 |.mk op ta w co on gr od li _=>(op=1\/ta=0)/\(op=2\/w=eW)/\(op=3\/co=[])/\(op=4\/op=5\/on=[])/\(op=9\/op=10\/(gr=[]/\od=[]/\li=0))
def lL(l:ca):ca×Int:=if l.length<=12 then(l,0)else([],2)
def dV(e:Int):ca×Int:=([],e)
open Classical in
noncomputable def dY(s:jE)(ps:ca)(q:Query)(a b:ca):ca×Int:=
 if arity (match q with|.mk op .. =>op)<0\/¬cH q then dV 100 else
 match q with
 |.mk op ta w co on gr od li _=>
  if op=1 then(if 0<=ta/\ta<s.tables.length then lL (jR s ta)else dV 100)
  else if op=2 then(if gH a ps w=0 then lL a else dV (gH a ps w))
  else if op=3 then(if co≠[]/\Good (λ_ c=>B9 a c=true) co then lL (co.map λc=>a.getD c.toNat 0)else dV 100)
  else if op=4 then(if Good (lX a b) on then lL (a++b)else dV 100)
  else if op=5 then(if Good (lX a b) on then lL a else dV 100)
  else if op=9 then(if lR a gr od li then lL a else dV 100)
  else if op=10 then(if a=b/\lR a gr od li then lL a else dV 100)
  else(if a=b then lL a else dV 100)
def auX:Vc.Spec:=λc m h K=>∃v q,c=[aQ v]/\bU h q v/\∀r:Bool,(r=true↔cH q)->K (cB r) m h
def KR(K:bz)(m:MH)(h:PH)(r:ca×Int):Prop:=∀c h',PH.le h h'->Ints h' c r.1->K (.tup [cS c,cI r.2]) m h'
def cfX:Vc.Spec:=λc m h K=>∃sc p v a b s ps q d e,c=[aS sc,cS p,aQ v,cS a,cS b]/\gZ h s sc/\mM s/\Ints h p ps/\bU h q v/\Ints h a d/\Ints h b e/\d.length<=12/\e.length<=12/\KR K m h (dY s ps q d e)
noncomputable def buX(m:MH):Ctx:=
 dA [(128,QY),(196,auX),(46,zI),(94,uR),(197,InS),(198,awZ),(199,avJ),(75,A8)] [(20,{A:=Nat×Sl×Sl×ca×PH,st:=λ⟨i,a,co,l,h⟩=>bQ 121 126 [(3,sv a),(12,.at (.lst 94)),(78,sv co),(79,iv co.len),(80,iv i)] [(94,.lst 3 1 (l.map eI))] m h})] [] [] false
noncomputable def blQ(v:QV)(m:MH)(h:PH):Ctx:=
 cHZ [(76,bJQ)] [] [(2,{A:=Bool,st:=λr=>bQ 78 79 [(1,.at (.ptr 1 0)),(3,bv r)] [(1,.cells 38 (v.enc.map .val))] m h})] [(2,[(9,{A:=Bool×Bool,st:=λx=>bQ 78 79 [(1,.at (.ptr 1 0)),(3,bv x.1),(20,bv x.2)] [(1,.cells 38 (v.enc.map .val))] m h}),
  (11,{A:=Bool×Bool,st:=λx=>bQ 78 79 [(1,.at (.ptr 1 0)),(3,bv x.1),(31,bv x.2)] [(1,.cells 38 (v.enc.map .val))] m h}),
  (11,{A:=Bool×Bool,st:=λx=>bQ 78 79 [(1,.at (.ptr 1 0)),(3,bv x.1),(42,bv x.2)] [(1,.cells 38 (v.enc.map .val))] m h}),
  (16,{A:=Bool×Bool,st:=λx=>bQ 78 79 [(1,.at (.ptr 1 0)),(3,bv x.1),(58,bv x.2)] [(1,.cells 38 (v.enc.map .val))] m h})])] [] false
abbrev lC(a b:Bool):Prop:=sQb a=sQb b
abbrev zT(a:Bool):Prop:=lC true a
abbrev J6(a:Prop)(b:(Bool×Bool->Prop)->Prop)(c:(Bool×Bool->Prop)->(Bool×Bool)->Prop):Prop:=a->∃(x:Bool×Bool->Prop),b x/\∀(d:Bool×Bool),c x d
noncomputable abbrev Fb(a:Value)(b:bx):bx:=aM a dE (aM dE dE (aM dE dE (aM XH dE (aM dE dE (aM dE XH b)))))
noncomputable abbrev iS:bx:=oK lF
abbrev G2(a:Bool×Bool->Prop)(b:Bool×Bool)(c:(Bool×Bool)->Prop)(d:QV)(e:MH)(g:PH):Prop:=∃(x:Bool×Bool),aA (a x) eM (aA (lC b.1 x.1) (c x) (bP (dM d) (e=e) (g=g)))
abbrev DA(a:Bool):Prop:=lC false a
noncomputable abbrev Dc(a:QV):Int:=aH a.columns
attribute [push_cast] lC zT J6 Fb iS G2 DA Dc
def Sr(v:QV)(m:MH)(h:PH)(K:bz):Prop:=
  ∃(I:Bool->Prop),eO v.op 9 (∃(x:Bool),aA (I x) eM (aA (zT x) (dM v) (aA (m=m) (h=h) True))) (∃(x:Bool),aA (I x) eM (aA (lC (v.op==10) x) (dM v) (aA (m=m) (h=h) True)))/\∀(x:Bool),J6 (I x) (λI1=>eO v.op 1 (∃(e:Bool×Bool),aA (I1 e) eM (aA (lC x e.1) (zT e.2) (bP (dM v) (m=m) (h=h)))) (∃(e:Bool×Bool),aA (I1 e) eM (aA (lC x e.1) (lC (v.table==0) e.2) (bP (dM v) (m=m) (h=h))))) (λI1 e=>J6 (I1 e) (λI2=>branch e.2 (eO v.op 2 (∃(d:Bool×Bool),aA (I2 d) eM (aA (lC e.1 d.1) (zT d.2) (bP (dM v) (m=m) (h=h)))) (Ht (λg w p q=>mC (cV (yG v) (lS (Fb dE iS))) (cV (cQ g) (cQ w)) (dD h p g) (dD h q w) (λr=>(fV r↔p=q)->G2
 I2 e (λd=>lC r d.2) v m h)))) (∃(d:Bool×Bool),aA (I2 d) eM (aA (lC e.1 d.1) (DA d.2) (bP (dM v) (m=m) (h=h))))) (λI2 d=>J6 (I2 d) (λI3=>branch d.2 (eO v.op 3 (∃(c:Bool×Bool),aA (I3 c) eM (aA (lC d.1 c.1) (zT c.2) (bP (dM v) (m=m) (h=h)))) (G2 I3 d (λc=>lC (Dc v==0) c.2) v m h)) (∃(c:Bool×Bool),aA (I3 c) eM (aA (lC d.1 c.1) (DA c.2) (bP (dM v) (m=m) (h=h))))) (λI3 c=>J6 (I3 c) (λI4=>branch c.2 (cW (v.op==4) (G2 I4 c (λf=>zT f.2) v m h) (v.op==5) (G2 I4 c (λf=>zT f.2) v m h) (G2 I4 c (λf=>lC (aH v.on==0) f.2) v m h)) (∃(f:Bool×Bool),aA (I4 f) eM (aA (lC c.1 f.1) (DA f.2) (bP (dM v) (m=m) (h=h)))))
 (λI4 f=>iU (I4 f) f.2 (cW f.1 (gK K m h) (aH v.group==0) (eO (aH v.order) 0 (K (Bc (v.limit==0)) m h) (K aX m h)) (K aX m h)) (K aX m h)))))
noncomputable abbrev kG(a:QV):cz:=oB (cN a)
abbrev j6(a:Nat)(b:List bx)(c d e g:Prop):Prop:=aA (jI a b) c (aA d e g)
noncomputable abbrev iA(a:Option Addr)(b:Sl):Sl:=Sl.mk a b.len b.cap
noncomputable abbrev jH(a:List bx):Int:=(↑a.length:Int)
abbrev yN(a:Nat->Nat->Option Value)(b:List bx)(c:bz)(d:Nat->Option Obj):Prop:=bO a 1 b (λx e=>c (CV.tup (aW (fJ x) 0)) d e)
noncomputable abbrev Am(a:Nat×Sl×Sl×ca×PH):Sl:=a.2.2.1
noncomputable abbrev CU(a:Nat×Sl×Sl×ca×PH):ca:=a.2.2.2.1
noncomputable abbrev An(a:Nat×Sl×Sl×ca×PH):Nat->Nat->Option Value:=a.2.2.2.2
abbrev LJ(a:Sl->ce->Prop):Prop:=∃(x:Sl)(c:ce),a x c
abbrev oL(a b:List bx)(c:Nat):Prop:=fC (iY a b.length*c)
abbrev oF(a b:List bx):Prop:=fC (iY a b.length)
abbrev Pf(a:Sl->ca->cg->Prop):Prop:=CM (λx c=>∃(d:cg),a x c d)
attribute [push_cast] kG j6 iA jH yN Am CU An LJ oL oF Pf
def Mp(sc:cE)(p:Sl)(v:QV)(a b:Sl)(m:MH)(h:PH)(K:bz):Prop:=
  lA v.op (λo=>aZ (arity o) 0 (K (CV.tup (aW j8 100)) m h) (mU (λD q=>aA (kG v=kG D) (bU h q D) (∀(r:Bool),iU (fV r↔cH q) (!r) (K (CV.tup (aW j8 100)) m h) (∃(y:List bx),j6 1 y (cD h (iA a.a a) 1 y) (fC (y.length*8)) (fC y.length) (cW (v.op==1) (aZ v.table 0 (K (CV.tup (aW j8 100)) m h) (gM v.table (mD sc) (K (CV.tup (aW j8 100)) m h) (CQ (aW (cJ sc) v.table) h (λs C=>fA (aH s) 12 (K (CV.tup (aW j8 2)) m C) (K (CV.tup (aW (fJ s) 0)) m C))))) (v.op==2) (ED (fJ a::fF p (yG v)) h (λc E F=>nK (gH c E F !=0) (K (CV.tup (aW j8 (gH c E F))) m h) (jH y) 12 (K (CV.tup (aW j8 2)) m h) (yN h y K m))) (cW (v.op==3) (eO (Dc v) 0 (K (CV.tup (aW j8 100)) m h) (∃(I:Nat×
 Sl×Sl×ca×PH->Prop)(G:Nat×Sl×Sl×ca×PH->Nat),(∃(x:Nat×Sl×Sl×ca×PH),aA (I x) (bS a x.2.1) (aA (eL 94) (bS v.columns (Am x)) (aA (cG v.columns (Am x)) (bB x.1) (aA (tL (cZ (CU x))) (m=m) (bN h (An x))))))/\∀(x:Nat×Sl×Sl×ca×PH),I x->aZ (↑x.1:Int) (aH (Am x)) (bJ (λf e=>aA (bM (Am x).a f e) (0<=(↑x.1:Int)) ((↑x.1:Int)<aH (Am x)/\∃(d:Int),aU m (An x) f (bK e x.1 1) (bG d)/\G3 x.2.1 d (An x) (λl n=>iM (B9 l n) (K (CV.tup (aW j8 100)) m (An x)) (bJ (λH J=>aA (bM x.2.1.a H J) (0<=d) (d<aH x.2.1/\∃(L:Int),aA (aU m (An x) H (fU J d 1) (bG L)) (fC (iY (cZ (CU x)) 1*8)) (jQ (cZ (CU x))/\
 ∃(B:Nat×Sl×Sl×ca×PH),aA (I B) (G B<G x) (aA (bS x.2.1 B.2.1) (eL 94) (aA (bS (Am x) (Am B)) (cG (Am x) (Am B)) (aA (bD (fZ (bE x.1 1)) B.1) (jV (eN (cZ (CU x)) (bG L)) (CU B)) (aA (m=m) (An x=An B) True)))))))))))) (fA (jH (cZ (CU x))) 12 (K (CV.tup (aW j8 2)) m (An x)) (bO (An x) 1 (cZ (CU x)) (λs C=>K (CV.tup (aW (fJ s) 0)) m C))))) (v.op==4) (pW (λs t=>LJ (λu e=>II (λj f=>aA (fJ v.on::fF a (fJ b)=fJ s::fF t (fJ u)) (iF h s e) (aA (Ints h t j) (Ints h u f) (∀(z:Bool),(fV z↔Good (lX j f) e)->cW (!z) (K (CV.tup (aW j8 100)) m h) (v.op==4) (∃(d:List bx),j6 1 d (cD h (iA b.a b) 1 d) (oL y d 8)
 (oF y d) (fA (jH (y++d)) 12 (K (CV.tup (aW j8 2)) m h) (yN h (y++d) K m))) (fA (jH y) 12 (K (CV.tup (aW j8 2)) m h) (yN h y K m)))))))) (cW (v.op==5) (pW (λs t=>LJ (λu e=>II (λj f=>aA (fJ v.on::fF a (fJ b)=fJ s::fF t (fJ u)) (iF h s e) (aA (Ints h t j) (Ints h u f) (∀(z:Bool),(fV z↔Good (lX j f) e)->cW (!z) (K (CV.tup (aW j8 100)) m h) (v.op==4) (∃(d:List bx),j6 1 d (cD h (iA b.a b) 1 d) (oL y d 8) (oF y d) (fA (jH (y++d)) 12 (K (CV.tup (aW j8 2)) m h) (yN h (y++d) K m))) (fA (jH y) 12 (K (CV.tup (aW j8 2)) m h) (yN h y K m)))))))) (v.op==9) (∃(A:QV),Pf (λt g e=>∃(j:ca),aA (cV (cN v) (fJ a)=cV (cN A) (fJ t)) (Ints h A.group g) (aA
 (jT h A.order e) (Ints h t j) (∀(z:Bool),(fV z↔lR j g e A.limit)->nK (!z) (K (CV.tup (aW j8 100)) m h) (jH y) 12 (K (CV.tup (aW j8 2)) m h) (yN h y K m))))) (∃(s:Sl),rA (λt j f=>mC (dT a b) (dT s t) (Ints h s j) (Ints h t f) (λz=>(fV z↔j=f)->cW (!z) (K (CV.tup (aW j8 100)) m h) (v.op==10) (∃(A:QV),Pf (λM g e=>∃(O:ca),aA (cV (cN v) (fJ a)=cV (cN A) (fJ M)) (Ints h A.group g) (aA (jT h A.order e) (Ints h M O) (∀(P:Bool),(fV P↔lR O g e A.limit)->nK (!P) (K (CV.tup (aW j8 100)) m h) (jH y) 12 (K (CV.tup (aW j8 2)) m h) (yN h y K m))))) (fA (jH y) 12 (K (CV.tup (aW j8 2)) m h) (yN h y K m)))))))))))))
theorem KG{α:Type}{n:Nat}{l:List α}(h:n=l.length):((n:Int)==0)=true↔l=[]:=by
 rw[beq_iff_eq,h, <-length_eq_zero_iff];omega
theorem Eh(h:PH):dD h eW ⟨0,0,dH,dH,⟨none,0,0⟩⟩:=dD.mk (v:=⟨0,0,dH,dH,⟨none,0,0⟩⟩) (.nil _ _ _ _)
theorem Y6:bu 196 auX:=by
 refine hU func196 ?_;rintro o m h K ⟨v,q,rfl,t,g⟩;refine⟨blQ v m h,rfl,aE RV aG,Sr v m h K,bd,?_⟩;dsimp only[Sr,push_cast];obtain⟨op,ta,w,co,on,gr,od,li,args⟩:=q;have a:=t.parts;have u:=a.op_;have y:=a.table_;have z:=a.limit_;have D:=KG a.columns_.slen;have E:=KG a.on_.slen;have F:=KG a.group_.slen;have G:=KG a.order_.slen;simp only[cH]at g;subst u y z;refine⟨λr=>(r=true↔v.op=9\/v.op=10),aC (λd=>⟨true,bk,MT⟩) (λd=>⟨_,?_,MT⟩),λr j=>?_⟩
 .grind
 refine⟨λx=>x.1=r/\(x.2=true↔(v.op=1\/v.table=0)),aC (λd=>⟨(r,true),⟨rfl,bk⟩,MT⟩) (λd=>⟨(r,_),⟨rfl,?_⟩,MT⟩),?_⟩
 .grind
 rintro⟨r,c⟩ ⟨rfl,e⟩;dsimp only at e j⊢
 refine⟨λx=>x.1=r/\(x.2=true↔(v.op=1\/v.table=0)/\(v.op=2\/w=eW)),aC (λd=>aC (λf=>⟨(r,true),⟨rfl,⟨λ_=>⟨e.1 d,.inl bk⟩,λ_=>rfl⟩⟩,MT⟩) (λf=>⟨v.where_,⟨0,0,dH,dH,⟨none,0,0⟩⟩,w,eW,rfl,a.where_,Eh h,λA B=>⟨(r,A),⟨rfl,?_⟩,MT⟩⟩)) (λd=>⟨(r,false),⟨rfl,?_⟩,MT⟩),?_⟩
 .grind
 .grind
 clear e c;rintro⟨r,c⟩ ⟨rfl,e⟩;dsimp only at e j⊢
 refine⟨λx=>x.1=r/\(x.2=true↔(v.op=1\/v.table=0)/\(v.op=2\/w=eW)/\(v.op=3\/co=[])),aC (λd=>aC (λf=>⟨(r,true),⟨rfl,⟨λ_=>⟨(e.1 d).1,(e.1 d).2,.inl bk⟩,λ_=>rfl⟩⟩,MT⟩) (λf=>⟨(r,_),⟨rfl,?_⟩,MT⟩)) (λd=>⟨(r,false),⟨rfl,?_⟩,MT⟩),?_⟩
 .grind
 .grind
 clear e c;rintro⟨r,c⟩ ⟨rfl,e⟩;dsimp only at e j⊢
 refine⟨λx=>x.1=r/\(x.2=true↔(v.op=1\/v.table=0)/\(v.op=2\/w=eW)/\(v.op=3\/co=[])/\(v.op=4\/v.op=5\/on=[])),aC (λd=>aC (λf=>⟨(r,true),⟨rfl,⟨λ_=>⟨(e.1 d).1,(e.1 d).2.1,(e.1 d).2.2,.inl bk⟩,λ_=>rfl⟩⟩,MT⟩) (λf=>aC (λn=>⟨(r,true),⟨rfl,⟨λ_=>⟨(e.1 d).1,(e.1 d).2.1,(e.1 d).2.2,.inr (.inl bk)⟩,λ_=>rfl⟩⟩,MT⟩) (λn=>⟨(r,_),⟨rfl,?_⟩,MT⟩))) (λd=>⟨(r,false),⟨rfl,?_⟩,MT⟩),?_⟩
 .grind
 .grind
 clear e c;rintro⟨r,c⟩ ⟨rfl,e⟩;dsimp only at e j⊢
 refine aC (λd=>aC (λf=>g true ⟨λ_=>?_,λ_=>rfl⟩) (λf=>aC (λn=>aC (λC=>g _ ?_) (λC=>g false ?_)) (λn=>g false ?_))) (λd=>g false ?_)
 .grind
 .grind
 .grind
 .grind
 .grind
theorem mW(l:ca):jI 1 (l.map eI):=by
 constructor
 .intro e c;obtain⟨x,_,rfl⟩:=mem_map.1 c;rfl
 .intro e c u d;obtain⟨x,_,rfl⟩:=mem_map.1 c;simp[eI]at d;subst d;rfl
theorem KR.err{r:ca×Int}{e:Int}(d:KR K m h r)(c:PH.le h h')(f:r=dV e):K (.tup [.val (.slice none 0 0),.val (.int .i64 e)]) m h':=by
 subst f;exact d ⟨none,0,0⟩ h' c ⟨.nil _ _,by simp[dV]⟩
theorem KR.big{r:ca×Int}(d:KR K m h r)(c:PH.le h h')(e:r=lL l)(f:12<l.length):K (.tup [.val (.slice none 0 0),.val (.int .i64 2)]) m h':=
 d.err c (by rw[e,lL,if_neg aD];rfl)
theorem KR.ok{r:ca×Int}{sl:Sl}(d:KR K m h r)(c:PH.le h h')(e:r=lL l)(f:l.length<=12)(g:cD h' sl 1 (l.map eI)):K (.tup [.val (.slice sl.a sl.len sl.cap),.val (.int .i64 0)]) m h':=by
 rw[e,lL,if_pos f]at d;exact d sl h' c ⟨g,bk⟩
theorem b7Q{p:Sl}{a b:Sl}{q:Query}{n C:ca}(W:gZ h s sc)(h8:mM s)(hp:Ints h p ps)(X:bU h q v)(B:Ints h a n)(L:Ints h b C)(Y:n.length<=12)(Z:C.length<=12)(d:KR K m h (dY s ps q n C)):Mp sc p v a b m h K:=by
 dsimp only[Mp,push_cast];have O:=X;obtain⟨op,ta,w,co,on,gr,od,li,args⟩:=q;have x:=X.parts;have e0:=x.op_;have e1:=x.table_;have e2:=x.limit_;have a0:=W.tables.slen;have a1:=B.slen;have H:=x.columns_.slen;have P:=x.columns_.len;subst e0 e1 e2;refine⟨v.op,rfl,aF (λQ=>d.err (.refl _) ?_) (λQ=>⟨v,_,rfl,O,λr z=>aC (λh2=>d.err (.refl _) ?_) (λh2=>?_)⟩)⟩
 .unfold dY;rw[if_pos (.inl Q)]
 .unfold dY;rw[if_pos (.inr λe=>bk)]
 have hu:cH (.mk v.op v.table w co on gr od v.limit args):=z.1 bk;unfold dY at d;rw[if_neg (λe=>e.elim Q (λe=>e hu))]at d;dsimp only at d;clear z h2;refine⟨n.map eI,mW _,B.row,bj,bj,aC (λo=>?_) (λo=>aC (λy=>?_) (λy=>aC (λA=>?_) (λA=>aC (λD=>?_) (λD=>aC (λE=>?_) (λE=>aC (λI=>?_) (λI=>?_))))))⟩
 .rw[beq_iff_eq]at o;rw[if_pos o]at d;refine aF (λu=>d.err (.refl _) (if_neg aD)) (λu=>aF (λt=>d.err (.refl _) (if_neg aD)) (λt=>⟨sc,s,v.table,rfl,W,h8,λF h' f j=>?_⟩));rw[if_pos aD]at d;have:=j.slen;exact aF (λg=>d.big f rfl aD) (λg=>d.ok f rfl aD j.row)
 .rw[beq_eq_false_iff_ne]at o;rw[beq_iff_eq]at y;rw[if_neg o,if_pos y]at d;refine⟨a,p,v.where_,n,ps,w,rfl,B,hp,x.where_,aC (λu=>d.err (.refl _) (if_neg bk)) (λu=>?_)⟩;rw[if_pos bk]at d;exact aF (λg=>d.big (.refl _) rfl bk) (λg F h' f j=>d.ok f rfl aD j)
 .rw[beq_eq_false_iff_ne]at o y;rw[beq_iff_eq]at A;rw[if_neg o,if_neg y,if_pos A]at d;refine aC (λu=>d.err (.refl _) (if_neg λe=>e.1 ((KG H).1 u))) (λu=>?_);have R:co≠[]:=λe=>bk
  refine⟨λ⟨i,a',S,l,hx⟩=>a'=a/\S=v.columns/\hx=h/\i<=co.length/\l=(co.take i).map (λc=>n.getD c.toNat 0)/\fI (λ_ c=>B9 n c=true) co i,λ⟨i,_,_,_,_⟩=>co.length-i,⟨(0,a,v.columns,[],h),⟨rfl,rfl,rfl,aD,bf,.zero⟩,MT⟩,?_⟩;rintro⟨i,a,_,l,h⟩ ⟨rfl,rfl,rfl,j,rfl,hg⟩;dsimp only;refine aF (λJ=>?_) (λa2=>?_)
  .obtain⟨c,M⟩:=eT H J;obtain⟨b1,o1,T,r1⟩:=x.columns_.at' M;refine⟨b1,o1,T,aD,J,c,.imm r1,a,n,c,rfl,B,aC (λt=>d.err (.refl _) (if_neg λe=>?_)) (λt=>?_)⟩
   .have:=e.2 i c M;grind
   have t:B9 n c=true:=bk
   have g:=eJ.1 t;obtain⟨b2,o2,U,r2⟩:=B.inb g.1 g.2;refine⟨b2,o2,U,aD,aD,_,.imm r2,?_,?_,(i+1,a,v.columns,(co.take (i+1)).map (λc=>n.getD c.toNat 0),h),⟨rfl,rfl,rfl,aD,rfl,hg.succ M t⟩,aD,?_⟩
   .simp;omega
   .simp;omega
   .rw[iX M,map_append];exact MT
  .rw[if_pos ⟨R,hg.all aD⟩]at d;rw[take_of_length_le aD];exact aF (λg=>d.big (.refl _) rfl bk) (λg F h' f j=>d.ok f rfl bk j)
 .rw[beq_eq_false_iff_ne]at o y A;have G:=beq_iff_eq.1 D;rw[if_neg o,if_neg y,if_neg A,if_pos G]at d;refine⟨v.on,a,b,on,n,C,rfl,x.on_,B,L,λr z=>aC (λu=>d.err (.refl _) (if_neg λe=>?_)) (λu=>aC (λ_=>⟨C.map eI,mW _,L.row,bj,bj,?_⟩) (λt=>?_))⟩
  .grind
  .rw[if_pos (z.1 bk)]at d;rw[<-map_append];exact aF (λg=>d.big (.refl _) rfl bk) (λg F h' f j=>d.ok f rfl bk j)
  grind
 .rw[beq_eq_false_iff_ne]at o y A;have G:=beq_eq_false_iff_ne.1 D;rw[beq_iff_eq]at E;rw[if_neg o,if_neg y,if_neg A,if_neg G,if_pos E]at d;refine⟨v.on,a,b,on,n,C,rfl,x.on_,B,L,λr z=>aC (λu=>d.err (.refl _) (if_neg λe=>?_)) (λu=>aC (λt=>?_) (λt=>?_))⟩
  .grind
  .grind
  .rw[if_pos (z.1 bk)]at d;exact aF (λg=>d.big (.refl _) rfl bk) (λg F h' f j=>d.ok f rfl aD j)
 .rw[beq_eq_false_iff_ne]at o y A D E;rw[beq_iff_eq]at I;rw[if_neg o,if_neg y,if_neg A,if_neg D,if_neg E,if_pos I]at d;refine⟨v,a,gr,od,n,rfl,x.group_,x.order_,B,λr z=>aC (λu=>d.err (.refl _) (if_neg λe=>?_)) (λu=>?_)⟩
  .grind
  rw[if_pos (z.1 bk)]at d;exact aF (λg=>d.big (.refl _) rfl bk) (λg F h' f j=>d.ok f rfl aD j)
 .rw[beq_eq_false_iff_ne]at o y A D E I;rw[if_neg o,if_neg y,if_neg A,if_neg D,if_neg E,if_neg I]at d;refine⟨a,b,n,C,rfl,B,L,λr z=>aC (λu=>d.err (.refl _) ?_) (λu=>aC (λt=>⟨v,a,gr,od,n,rfl,x.group_,x.order_,B,λr2 V=>aC (λd4=>d.err (.refl _) ?_) (λd4=>?_)⟩) (λt=>?_))⟩
  .grind
  .grind
  .rw[beq_iff_eq]at t;rw[if_pos t,if_pos ⟨z.1 bk,V.1 bk⟩]at d;exact aF (λg=>d.big (.refl _) rfl bk) (λg F h' f j=>d.ok f rfl aD j)
  .rw[beq_eq_false_iff_ne]at t;rw[if_neg t,if_pos (z.1 bk)]at d;exact aF (λg=>d.big (.refl _) rfl bk) (λg F h' f j=>d.ok f rfl aD j)
theorem ZQ:bu 130 cfX:=by
 refine hU func130 ?_;rintro c m h K ⟨sc,p,v,a,b,s,ps,q,x,y,rfl,d,e,f,g,j,n,o,t,u⟩;refine⟨buX m,rfl,aE Qc (aE Y6 (aE L4 (aE LZ (aE IQ (aE Y5 (aE Y4 (aE RW aG))))))),Mp sc p v a b m h K,bd,?_⟩;exact b7Q d e f g j n o t u
mutual
noncomputable def aJ(s:jE)(ps:ca):Query->ca×Int
 |.mk op ta w co on gr od li args=>
  match eX s ps args with
  |(ks,e)=>if e=0 then(if(ks.length:Int)=arity op then dY s ps (.mk op ta w co on gr od li args) (ks.getD 0 []) (ks.getD 1 [])else dV 100)else dV e
noncomputable def eX(s:jE)(ps:ca):ci->List ca×Int
 |[]=>([],0)
 |q::qs=>
  match aJ s ps q with
  |(k,e)=>if e=0 then(match eX s ps qs with|(ks,c)=>if c=0 then(k::ks,0)else([],c))else([],e)
end
theorem uL{s:jE}{ps:ca}:∀{c:ci}{ks:List ca},c.map (aJ s ps)=ks.map (λk=>(k,0))->eX s ps c=(ks,0)
 |[],[],_=>by simp[eX]
 |q::c,k::ks,h=>by
  simp only[map_cons,List.cons.injEq]at h;simp only[eX,h.1,uL h.2,if_true]
 |[],_::_,h=>by simp at h
 |_::_,[],h=>by simp at h
theorem Gp{s:jE}{ps:ca}{e:Int}(d:e≠0):∀{c:ci}{ks:List ca}{i:Nat}{q:Query},(c.take i).map (aJ s ps)=ks.map (λk=>(k,0))->c[i]? =some q->(aJ s ps q).2=e->eX s ps c=([],e)
 |[],_,_,_,_,h,_=>by simp at h
 |q::c,_,0,g,_,h,f=>by
  simp at h;subst h;simp only[eX,f,if_neg d]
 |q::c,[],i+1,_,h,_,_=>by simp at h
 |q::c,k::ks,i+1,g,h,j,f=>by
  simp only[take_succ_cons,map_cons,List.cons.injEq]at h;have:=Gp d h.2 bk f;simp only[eX,h.1,this,if_true,if_neg d]
theorem baZ(l:ca):(lL l).1.length<=12:=by unfold lL;grind
theorem aGX(s:jE)(ps:ca)(q:Query)(a b:ca):(dY s ps q a b).1.length<=12:=by
 obtain⟨op,ta,w,co,on,gr,od,li,args⟩:=q;unfold dY;dsimp only
 repeat' split
 all_goals first|exact baZ _|(simp[dV];done)
theorem kN(s:jE)(ps:ca)(q:Query):(aJ s ps q).1.length<=12:=by
 obtain⟨op,ta,w,co,on,gr,od,li,args⟩:=q;simp only[aJ]
 repeat' split
 all_goals first|exact aGX .. |simp[dV]
noncomputable def dZ(s:jE)(ps:ca)(q:Query):ca×Int:=
 if dK s=0 then(if ps.all dJ=true then(if nC q=true then aJ s ps q else dV 2)else dV 1)else dV (dK s)
def Slices(h:PH)(c:ck)(ks:List ca):Prop:=c.length=ks.length/\∀(j:Nat) s k,c[j]? =some s->ks[j]? =some k->Ints h s k
theorem Slices.mono{c:ck}(x:Slices h c ks)(le:PH.le h h'):Slices h' c ks:=⟨x.1,λj s k d e=>(x.2 j s k d e).mono le⟩
theorem Slices.snoc{c:ck}{s:Sl}{k:ca}(x:Slices h c ks)(o:Ints h s k):Slices h (c++[s]) (ks++[k]):=by
 refine⟨by simp[x.1],λj g n d e=>?_⟩;by_cases f:j<c.length
 .rw[getElem?_append_left f]at d;rw[getElem?_append_left (by rw[<-x.1];exact f)]at e;exact x.2 j g n d e
 .rw[getElem?_append_right aD]at d;rw[getElem?_append_right (by have:=x.1;omega), <-x.1]at e
  grind
def AQ(N:Nat):Vc.Spec:=λc m h K=>∃sc p v s ps q,c=[aS sc,cS p,aQ v]/\gZ h s sc/\mM s/\Ints h p ps/\bU h q v/\SizeOf.sizeOf q<N/\KR K m h (aJ s ps q)
def Ba:Vc.Spec:=λc m h K=>∃sc p v s ps q,c=[aS sc,cS p,aQ v]/\gZ h s sc/\Ints h p ps/\bU h q v/\KR K m h (dZ s ps q)
noncomputable def bTZ(N:Nat)(sc:cE)(p:Sl)(v:QV)(m:MH):Ctx:=
 dA [(89,AQ N),(128,QY),(130,cfX)] [(3,{A:=Nat×ck×PH,st:=λ⟨i,c,h⟩=>bQ 58 61 [(1,sv p),(3,.at (.ptr 3 0)),(5,.at (.ptr 5 0)),(8,.at (.lst 35)),(14,iv v.args.len),(15,iv i)] [(3,.cells 43 (sc.enc.map .val)),(5,.cells 38 (v.enc.map .val)),(35,.lst 33 1 (c.map eS))] m h})] [] [] false
abbrev N8(a:(Nat×ck×PH->Prop)->(Nat×ck×PH)->Prop)(b:(Nat×ck×PH->Prop)->(Nat×ck×PH->Nat)->(Nat×ck×PH)->Prop):Prop:=∃(x:Nat×ck×PH->Prop)(d:Nat×ck×PH->Nat),(∃(c:Nat×ck×PH),a x c)/\∀(c:Nat×ck×PH),b x d c
noncomputable abbrev nN(a:ck):List bx:=List.map eS a
noncomputable abbrev qY(a:Nat×ck×PH):List bx:=nN a.2.1
noncomputable abbrev mS(a:Nat×ck×PH):Nat->Nat->Option Value:=a.2.2
abbrev Ev(a:cE->Sl->Prop):Prop:=∃(x:cE)(c:Sl),a x c
abbrev Ik(a:jE->ca->Prop):Prop:=∃(x:jE)(c:ca),a x c
abbrev Ha(a:cE)(b:Sl)(c:QV)(d:PH)(e:Nat)(g:jE->ca->Query->Sl->PH->Prop):Prop:=Ev (λx t=>∃(u:QV),Ik (λf n=>∃(j:Query),aA (cJ a::fF b (cN c)=cJ x::fF t (cN u)) (gZ d f x) (aA (mM f) (Ints d t n) (aA (bU d j u) (vV j e) (iR (λy o=>cC d o (Ints o y (aJ f n j).1) (g f n j y o)))))))
abbrev nG(a:List bx)(b:Nat)(c:Prop):Prop:=aA (fC (iY a 1*b)) (jQ a) c
noncomputable abbrev j4(a b:bx):List bx:=a::kP b
noncomputable abbrev J7(a:Nat×ck×PH):List bx:=qY a++j4 iS iS
abbrev E9(a:Prop)(b c:Int)(d:List bx)(e:bx->Prop):Prop:=aA a (b<=c) (c<jH d/\∃(x:bx),e x)
abbrev qB(a:Nat)(b c:bx):Prop:=List.take a (List.drop 0 b)=c
attribute [push_cast] N8 nN qY mS Ev Ik Ha nG j4 J7 E9 qB
def Wg(N:Nat)(sc:cE)(p:Sl)(v:QV)(m:MH)(h:PH)(K:bz):Prop:=
  N8 (λI x=>aA (I x) (aI p) (aA bV dR (aA (eL 35) (qV v) (aA (bB x.1) (cL sc) (tI (dM v) (qZ 33 1 (qY x)) (m=m) h (mS x)))))) (λI t x=>I x->aZ (↑x.1:Int) (aH v.args) (bJ (λb o=>aA (bM v.args.a b o) (0<=(↑x.1:Int)) ((↑x.1:Int)<aH v.args/\∃(y:QV),aU m (mS x) b (bK o x.1 21) y.enc/\Ha sc p y (mS x) N (λs f q c d=>eC (aJ s f q).2 0 (K (CV.tup (cV j8 (CV.val (eF (aJ s f q).2)))) m d) (nG (qY x) 24 (∃(g:Nat×ck×PH),aA (I g) (t g<t x) (aA (aI p) bV (aA dR (eL 35) (aA (qV v) (bD (fZ (bE x.1 1)) g.1) (aA (cL sc) (dM v) (aA (Option.some (Own.lst 33 1 (eN (qY x) (bA c)))=Option.some (Own.lst 33 1 (qY g))) (m=m) (bN d (mS g))))))))))))) (lA v.op
 (λo=>eC (jH (qY x)) (arity o) (K (CV.tup (aW j8 100)) m (mS x)) (aA (fC (iY (qY x) 2*24)) (fC (iY (qY x) 2)) (aA (bZ 0) (0<jH (J7 x)) (∃(e:bx),(J7 x)[0]? =Option.some e/\∃(y:Sl),E9 (qB 1 e (bA y)) 0 1 (J7 x) (λu=>(J7 x)[1]? =Option.some u/\∃(z:Sl),qB 1 u (bA z)/\Ev (λs f=>∃(A:QV),pW (λa b=>Ik (λc n=>∃(q:Query),II (λl j=>aA (cJ sc::fJ p::cN v::fF y (fJ z)=cJ s::fJ f::cN A::fF a (fJ b)) (gZ (mS x) c s) (aA (mM c) (Ints (mS x) f n) (aA (bU (mS x) q A) (Ints (mS x) a l) (aA (Ints (mS x) b j) (l.length<=12) (j.length<=12/\iR (λB d=>cC (mS x) d (Ints d B (dY c n q l j).1) (K (CV.tup (fF B
 (CV.val (eF (dY c n q l j).2)))) m d)))))))))))))))))
abbrev JY(a:cE)(b:PH)(c:jE->Prop)(d:Prop):Prop:=xG (λx e=>aA (oB (cJ a)=oB (cJ x)) (gZ b e x) (eC (dK e) 0 (c e) d))
attribute [push_cast] JY
def Wz(N:Nat)(sc:cE)(p:Sl)(v:QV)(m:MH)(h:PH)(K:bz):Prop:=
  JY sc h (λs=>K (CV.tup (aW j8 (dK s))) m h) (wR p h (λl=>iM (DC l) (K (CV.tup (aW j8 1)) m h) (mU (λc d=>aA (kG v=kG c) (bU h d c) (iM (nC d) (K (CV.tup (aW j8 2)) m h) (Ha sc p v h N (λs e q f g=>K (CV.tup (fF f (CV.val (eF (aJ s e q).2)))) m g)))))))
theorem LO{c:ci}(h:c.map (aJ s ps)=ks.map (λk=>(k,0)))(j:Nat):(ks.getD j []).length<=12:=by
 rw[getD_eq_getElem?_getD];cases e:ks[j]? with
 |none=>simp
 |some k=>
  have d:(c.map (aJ s ps))[j]? =some (k,0):=bk
  rw[getElem?_map,Option.map_eq_some_iff]at d;obtain⟨q,_,f⟩:=d;have:=kN s ps q
  grind
theorem Slices.pick{c:ck}(x:Slices h c ks)(j:Nat)(f:j<c.length+2):∃y:Sl,(c.map eS++[[.slice none 0 0],[.slice none 0 0]])[j]? =some [.slice y.a y.len y.cap]/\Ints h y (ks.getD j []):=by
 by_cases d:j<c.length
 .refine⟨c[j],?_,?_⟩
  .rw[getElem?_append_left bk];simp[d,eS]
  .have e:j<ks.length:=by rw[<-x.1];exact d
   rw[getD_eq_getElem?_getD,getElem?_eq_getElem e];exact x.2 j _ _ (getElem?_eq_getElem d) (getElem?_eq_getElem e)
 .refine⟨⟨none,0,0⟩,?_,?_⟩
  .grind
  .rw[getD_eq_getElem?_getD,getElem?_eq_none (by have:=x.1;omega)];exact⟨.nil _ _,bf⟩
theorem apQ:∀N,bu 89 (AQ N)
 |0=>by
  refine dU (fn:=Tryz.f89) (c:=bW Tryz.f89) func89 rfl bg ?_;rintro C m h K ⟨sc,p,v,s,ps,q,rfl,_,_,_,_,Y,_⟩;omega
 |N+1=>by
  refine hU func89 ?_;rintro C m h K ⟨sc,p,v,s,ps,q,rfl,Q,R,S,T,Y,n⟩;refine⟨bTZ N sc p v m,rfl,aE (apQ N) (aE Qc (aE ZQ aG)),Wg N sc p v m h K,bd,?_⟩;dsimp only[Wg,push_cast];have D:=@sL q;have E:=T;obtain⟨op,ta,w,co,on,gr,od,li,args⟩:=q;have x:=T.parts;have e0:=x.op_;have Z:=x.args_.slen;have U:=x.args_.len;simp only[Query.args]at D;simp only[aJ]at n;refine⟨λ⟨i,z,F⟩=>i<=args.length/\PH.le h F/\∃ks,Slices F z ks/\(args.take i).map (aJ s ps)=ks.map (λk=>(k,0)),λ⟨i,_,_⟩=>args.length-i,⟨(0,[],h),⟨aD,.refl _,[],⟨rfl,λj s k y=>by simp at y⟩,bf⟩,MT⟩,?_⟩;rintro⟨i,z,F⟩ ⟨V,d,ks,A,g⟩;have G:ks.length=i:=by have:=congrArg List.length g;grind
  have a':z.length=i:=by rw[A.1,G]
  dsimp only;refine aF (λo=>?_) (λa0=>?_)
  .obtain⟨B,t⟩:=eT Z o;obtain⟨b1,o1,u,H,r1,I⟩:=(x.args_.mono d).at t;refine⟨b1,o1,H,aD,o,u,.imm r1,sc,p,u,s,ps,B,rfl,Q.mono d,R,S.mono d,I,?_,λJ h' f L=>aC (λy=>?_) (λy=>?_)⟩
   .grind
   .have M:(aJ s ps B).2≠0:=bk
    rw[Gp M g t rfl]at n;exact n.err (d.trans f) (if_neg M)
   .have M:(aJ s ps B).2=0:=bk
    refine⟨bj,bj,(i+1,z++[J],h'),⟨aD,d.trans f,ks++[(aJ s ps B).1],(A.mono f).snoc L,?_⟩,aD,?_⟩
    .rw[iX t,g,map_append]
     grind
    .rw[map_append];exact MT
  .rw[take_of_length_le aD]at g;rw[uL g]at n;simp only[if_true]at n;refine⟨v.op,rfl,aC (λy=>n.err d (if_neg λe=>?_)) (λy=>?_)⟩
   .grind
   have y:(z.length:Int)=arity op:=bk
   rw[if_pos aD]at n;obtain⟨W,O,i0⟩:=A.pick 0 aD;obtain⟨X,P,i1⟩:=A.pick 1 aD;exact⟨bj,bj,aD,bj,_,O,W,rfl,aD,bj,_,P,X,rfl,sc,p,v,W,X,s,ps,_,_,_,rfl,Q.mono d,R,S.mono d,E.mono d,i0,i1,LO g 0,LO g 1,λJ h' f V=>n J h' (d.trans f) V⟩
theorem Rq(h:dK s=0):mM s:=by
 have c:DK s:=Classical.byContradiction λd=>by rw[wZ d]at h;cases h
 intro t e;obtain⟨j,f⟩:=mem_iff_getElem?.1 e;exact(c.2 j t f).1
theorem R0:bu 37 Ba:=by
 refine hU func37 ?_;rintro n m h K ⟨sc,p,v,s,ps,q,rfl,f,g,j,c⟩;refine⟨dA [(86,z6),(87,QL),(88,auJ),(89,AQ (SizeOf.sizeOf q+1))] [] [] [] false,rfl,aE aLZ (aE RQ (aE aLX (aE (apQ _) aG))),Wz (SizeOf.sizeOf q+1) sc p v m h K,bd,?_⟩;dsimp only[Wz,push_cast];unfold dZ at c;refine⟨sc,s,rfl,f,aC (λd=>c.err (.refl _) (if_neg bk)) (λd=>?_)⟩;have d:dK s=0:=bk
 rw[if_pos d]at c;refine⟨p,ps,rfl,g,aC (λo=>c.err (.refl _) (if_neg λe=>bk)) (λo=>?_)⟩;rw[if_pos bk]at c;refine⟨v,q,rfl,j,aC (λt=>c.err (.refl _) (if_neg λe=>bk)) (λt=>?_)⟩;rw[if_pos bk]at c;exact⟨sc,p,v,s,ps,q,rfl,f,Rq d,g,j,aD,c⟩
def aN(n:NV):CV:=.val (.agg ⟨n.enc⟩)
structure z7(h:PH)(s:jE)(ps:ca)(q:Query)(ks:List ca)(n:NV):Prop where
 s_:gZ h s n.s
 ps_:Ints h n.params ps
 q_:bU h q n.q
 ks_:bY h 1 eS (λk sl=>Ints h sl k) n.args ks
 len:∀k∈ks,k.length<=12
def Query.withOf(u q:Query):Query:=match u,q with|.mk _ ta w co on gr od li _,.mk op _ _ _ _ _ _ _ args=>.mk op ta w co on gr od li args
def Du:Vc.Spec:=λc m h K=>∃n k u s ps q ks d,c=[aN n,cI k,aQ u]/\z7 h s ps q ks n/\bU h d u/\∀r:Bool,(r=true↔(ks.length:Int)=k/\q=d.withOf q)->K (cB r) m h
def Qz:Vc.Spec:=λc m h K=>∃n s ps q ks,c=[aN n]/\z7 h s ps q ks n/\K (aQ ⟨0,0,⟨0,0,dH,dH,⟨none,0,0⟩⟩,⟨none,0,0⟩,⟨none,0,0⟩,n.q.group,n.q.order,n.q.limit,⟨none,0,0⟩⟩) m h
def QB:Vc.Spec:=λc m h K=>∃n s ps q ks a,c=[aN n]/\z7 h s ps q ks n/\ks[0]? =some a/\∀r:Bool,(r=true↔∃op ta w co on gr od li args,q= .mk op ta w co on gr od li args/\lR a gr od li)->K (cB r) m h
def NQ(ks:List ca):Query->Prop
 |.mk op ta w co on gr od li _=>ks.length=2/\ta=0/\w=eW/\co=[]/\gr=[]/\od=[]/\li=0/\Good (lX (ks.getD 0 []) (ks.getD 1 [])) on
def QH:Vc.Spec:=λc m h K=>∃n s ps q ks,c=[aN n]/\z7 h s ps q ks n/\∀r:Bool,(r=true↔NQ ks q)->K (cB r) m h
noncomputable def bhZ(n:NV)(h:PH):Ctx:=
 sN [] [(4,{A:=Nat×Nat×Nat×MH,st:=λ⟨i,c,b,d⟩=>bQ 72 73 [(1,.at (.ptr 1 0)),(3,iv c),(4,vv (.pointer (some ⟨b,0,none⟩))),(16,sv n.q.group),(17,iv n.q.group.len),(18,iv i)] [(1,.cells 218 (n.enc.map .val))] d h}),
  (11,{A:=Nat×Nat×MH,st:=λ⟨i,c,d⟩=>bQ 72 73 [(1,.at (.ptr 1 0)),(3,iv c),(39,sv n.q.order),(40,iv n.q.order.len),(41,iv i)] [(1,.cells 218 (n.enc.map .val))] d h})] [] [] [302] [] false
noncomputable def bhJ(n:NV)(h:PH):Ctx:=
 sN [(265,Du)] [(6,{A:=Nat×Sl×Sl×Nat×Nat×MH,st:=λ⟨i,s,t,b,c,d⟩=>bQ 80 81 [(3,sv s),(4,sv t),(5,vv (.pointer (some ⟨b,0,none⟩))),(6,vv (.pointer (some ⟨c,0,none⟩))),(28,sv n.q.on),(29,iv n.q.on.len),(30,iv i)] [] d h})] [] [] [302] [] false
noncomputable abbrev oN(a:QV):Value:=eF a.table
noncomputable abbrev rZ(a:QV):Value:=eF a.where_.op
noncomputable abbrev sB(a:QV):Int:=a.where_.cmp
noncomputable abbrev kA(a:OV):Value:=eF a.kind
noncomputable abbrev jW(a:QV):OV:=a.where_.left
noncomputable abbrev qX(a:OV):Value:=eF a.index
noncomputable abbrev xP(a:OV):Int:=a.value.int
noncomputable abbrev rK(a:OV):Value:=eF (xP a)
noncomputable abbrev wQ(a b:QV)(c:bx):CV:=lS (aM (eF a.op) (oN b) (aM (rZ b) (eF (sB b)) (aM (kA (jW b)) (qX (jW b)) (aM (eF (AY (jW b))) (rK (jW b)) c))))
noncomputable abbrev JH(a:OV):ByteArray:=a.value.text
noncomputable abbrev mX(a:OV):Value:=Value.string (JH a)
noncomputable abbrev fB(a:QV):OV:=a.where_.right
noncomputable abbrev j7(a:OV):Value:=eF (AY a)
noncomputable abbrev Cn(a:QV):Value:=fK a.where_.args
noncomputable abbrev Cq(a:QV):Value:=fK a.columns
noncomputable abbrev Co(a:QV):Value:=fK a.group
noncomputable abbrev Cp(a:QV):Value:=fK a.order
noncomputable abbrev Bh(a:QV):Value:=eF a.limit
attribute [push_cast] oN rZ sB kA jW qX xP rK wQ JH mX fB j7 Cn Cq Co Cp Bh
def Sa(n:NV)(k:Int)(u:QV)(m:MH)(h:PH)(K:bz):Prop:=
  eO (aH n.args) k (Kn (λv w p q=>mC (cV (cN n.q) (wQ n.q u (aM (mX (jW u)) (kA (fB u)) (aM (qX (fB u)) (j7 (fB u)) (aM (rK (fB u)) (mX (fB u)) (aM (Cn u) (Cq u) (aM (fK u.on) (Co u) (aM (Cp u) (Bh u) (bA n.q.args))))))))) (cV (cN v) (cN w)) (bU h p v) (bU h q w) (λr=>(fV r↔p=q)->K (Bc r) m h))) (K aX m h)
noncomputable abbrev vR(a b c d e g i:Value)(j:bx):bx:=aM a b (aM dE dE (aM dE dE (aM dE dE (aM XH dE (aM dE dE (aM dE XH (aM lF c (aM d e (aM g i j)))))))))
attribute [push_cast] vR
def R9(n:NV)(m:MH)(h:PH)(K:bz):Prop:=
  K (lS (vR dE dE lF lF (Co n.q) (Cp n.q) (Bh n.q) iS)) m h
noncomputable abbrev uJ:Value:=Value.bool false
noncomputable abbrev NY:bx:=aM uJ uJ (aM uJ uJ (aM uJ uJ (aM uJ uJ (aM uJ uJ (aM uJ uJ [])))))
noncomputable abbrev pU(a:QV):At:=gC a.table
noncomputable abbrev tG(a:QV)(b:At)(c:Sl)(d e:At)(g:cw):cw:=pQ a.where_ (cO b (vK c) (cO d e g))
noncomputable abbrev uH(a:QV):At:=vK a.columns
noncomputable abbrev xA(a:QV):At:=vK a.group
noncomputable abbrev xB(a:QV):At:=vK a.order
noncomputable abbrev Bj(a:QV):At:=vK a.args
abbrev Oe(a:cE)(b:At)(c:QV)(d:cw):Prop:=eQ (oQ 218 (cO (gC a.version) (vK a.tables) (cO b (gC c.op) (pU c::tG c (uH c) c.on (xA c) (xB c) (cO (gC c.limit) (Bj c) d)))))
abbrev Ew(a:NV):Prop:=Oe a.s (vK a.params) a.q (oD (vK a.args))
noncomputable abbrev vF(a:Bool):bx:=oK (Value.bool a)
noncomputable abbrev w9(a:Array Value)(b:Nat)(c:bx):bx:=splice a.toList b c
attribute [push_cast] uJ NY pU tG uH xA xB Bj Oe Ew vF w9
def HL(n:NV)(m:MH)(h:PH)(K:bz):Prop:=
  eK n.args.a 0 n.args (λb o y=>aU m h b (o+0) (bA y)/\jY m h (λu z=>eA m z u NY 302) (λu z=>∃(I:Nat×Nat×Nat×MH->Prop)(A:Nat×Nat×Nat×MH->Nat),(∃(x:Nat×Nat×Nat×MH),aA (I x) eM (aA (bD (FP y.len) x.2.1) (dG u (iP x.2)) (aA (aI n.q.group) (bI n.q.group) (aA (bB x.1) (Ew n) (aA (z=gT x.2) (h=h) True)))))/\∀(x:Nat×Nat×Nat×MH),I x->aZ (↑x.1:Int) (aH n.q.group) (bJ (λf g=>aA (bM n.q.group.a f g) (0<=(↑x.1:Int)) ((↑x.1:Int)<aH n.q.group/\∃(e:Int),aU (gT x.2) h f (bK g x.1 1) (bG e)/\aZ e 0 (pO K x.2 h) (gM e (↑x.2.1:Int) (pO K x.2 h) (aA (bZ e) (e<12) (∃(B:Bool),aU (gT x.2) h (iP x.2) (fU 0 e 1) (vF B)/\branch B (pO K x.2 h) (aA
 (bZ e) (e<12) (wD (λc E=>aA (Ib (gT x.2) (iP x.2) (oU c E 0)) (fU 0 e 1<c.size) (∀(j:MH),eA (gT x.2) j (iP x.2) (w9 c (fU 0 e 1) (oK Bk)) E->∃(d:Nat×Nat×Nat×MH),aA (I d) (A d<A x) (aA eM (cM x.2.1 d.2.1) (aA (dG (iP x.2) (iP d.2)) (aI n.q.group) (aA (bI n.q.group) (bD (fZ (bE x.1 1)) d.1) (bP (Ew n) (j=gT d.2) (h=h))))))))))))))) (∃(I1:Nat×Nat×MH->Prop)(j:Nat×Nat×MH->Nat),Oj (λd=>aA (I1 d) eM (aA (cM x.2.1 (iP d)) (aI n.q.order) (aA (bI n.q.order) (bB d.1) (aA (Ew n) (gT x.2=gT d) (bN h h))))) (λd=>I1 d->aZ (↑d.1:Int) (aH n.q.order) (bJ (λf g=>aA (bM n.q.order.a f g) (0<=(↑d.1:Int)) ((↑d.1:Int)<aH n.q.order/\∃
 (e:Int×Bool),aU (gT d) h f (bK g d.1 2) (tS e)/\aZ e.1 0 (pO K d h) (gM e.1 (↑(iP d):Int) (pO K d h) (∃(t:Nat×Nat×MH),aA (I1 t) (j t<j d) (aA eM (cM (iP d) (iP t)) (aA (aI n.q.order) (bI n.q.order) (aA (bD (fZ (bE d.1 1)) t.1) (Ew n) (aA (gT d=gT t) (h=h) True))))))))) (Ge (aH n.q.order) 12 (gM n.q.limit 0 (K (Bc (decide (n.q.limit<=100))) (gT d) h) (pO K d h)) (pO K d h))))))
abbrev Et(a:jE->ca->Query->(List ca)->Prop):Prop:=Ik (λx c=>∃(d:Query)(e:List ca),a x c d e)
abbrev Of(a:NV->Int->QV->jE->ca->Query->(List ca)->Query->Prop):Prop:=∃(x:NV)(c:Int)(d:QV),Et (λe f g j=>∃(n:Query),a x c d e f g j n)
noncomputable abbrev iH(a:NV)(b:bx):bx:=aM (qX (jW a.q)) (j7 (jW a.q)) (aM (rK (jW a.q)) (mX (jW a.q)) (aM (kA (fB a.q)) (qX (fB a.q)) (aM (eF (AY (fB a.q))) (rK (fB a.q)) b)))
noncomputable abbrev Bl(a:OV)(b:QV)(c d:Sl):bx:=aM (mX a) (Cn b) (aM (Cq b) (fK c) (aM (Co b) (Cp b) (aM (eF b.limit) (fK b.args) (bA d))))
noncomputable abbrev iG(a:NV):bx:=Bl (fB a.q) a.q a.q.on a.args
noncomputable abbrev kD(a:Nat×Sl×Sl×Nat×Nat×MH):Nat×Nat×MH:=a.2.2.2
attribute [push_cast] Et Of iH Bl iG kD
def HM(n:NV)(m:MH)(h:PH)(K:bz):Prop:=
  Of (λe k u s p q C D=>mC (iN (lS (aM (wF n.s) (wE n.s) (aM (fK n.params) (eF n.q.op) (aM (oN n.q) (rZ n.q) (aM (eF (sB n.q)) (kA (jW n.q)) (iH n (iG n))))))) 2 (lS (vR dE dE lF (fK n.q.on) lF lF dE iS))) (iN (lS (aM (wF e.s) (wE e.s) (aM (fK e.params) (eF e.q.op) (aM (oN e.q) (rZ e.q) (aM (eF (sB e.q)) (kA (jW e.q)) (iH e (iG e))))))) k (cN u)) (z7 h s p q C e) (bU h D u) (λr=>iU (fV r↔(↑C.length:Int)=k/\q=Query.withOf D q) (!r) (K aX m h) (eK n.args.a 0 n.args (λb o y=>aU m h b (o+0) (bA y)/\eK n.args.a 1 n.args (λV W F=>aU m h V (W+1) (bA F)/\jY m h (λj g=>eA m g j NY 302) (λj g=>jY g h (λt z=>eA g z t NY 302)
 (λt z=>∃(I:Nat×Sl×Sl×Nat×Nat×MH->Prop)(G:Nat×Sl×Sl×Nat×Nat×MH->Nat),(∃(x:Nat×Sl×Sl×Nat×Nat×MH),aA (I x) (bS y x.2.1) (aA (bS F x.2.2.1) (dG j (kD x).1) (aA (dG t (iP (kD x))) (aI n.q.on) (aA (bI n.q.on) (bB x.1) (aA (z=gT (kD x)) (h=h) True)))))/\∀(x:Nat×Sl×Sl×Nat×Nat×MH),I x->aZ (↑x.1:Int) (aH n.q.on) (bJ (λH J=>aA (bM n.q.on.a H J) (0<=(↑x.1:Int)) ((↑x.1:Int)<aH n.q.on/\∃(d:Int×Int),aA (aU (gT (kD x)) h H (bK J x.1 2) (pB d)) (bZ 0) (aA ((0:Int)<2) (bZ 1) ((1:Int)<2/\aZ d.1 0 (pO K (kD x) h) (gM d.1 (aH x.2.1) (pO K (kD x) h) (aZ d.2 0 (pO K (kD x) h) (gM d.2 (aH x.2.2.1) (pO K (kD x) h) (bJ (λL M=>aA
 (bM x.2.1.a L M) (0<=d.1) (d.1<aH x.2.1/\∃(O:Int),aU (gT (kD x)) h L (fU M d.1 1) (bG O)/\bJ (λP Q=>aA (bM x.2.2.1.a P Q) (0<=d.2) (d.2<aH x.2.2.1/\∃(R:Int),aU (gT (kD x)) h P (fU Q d.2 1) (bG R)/\eC O R (pO K (kD x) h) (aA (bZ d.1) (d.1<12) (∃(S:Bool),aU (gT (kD x)) h (kD x).1 (fU 0 d.1 1) (vF S)/\branch S (pO K (kD x) h) (aA (bZ d.2) (d.2<12) (∃(T:Bool),aU (gT (kD x)) h (iP (kD x)) (fU 0 d.2 1) (vF T)/\branch T (pO K (kD x) h) (aA (bZ d.1) (d.1<12) (wD (λc E=>aA (Ib (gT (kD x)) (kD x).1 (oU c E 0)) (fU 0 d.1 1<c.size) (∀(A:MH),eA (gT (kD x)) A (kD x).1 (w9 c (fU 0 d.1 1) (oK Bk)) E->aA
 (bZ d.2) (d.2<12) (wD (λB E1=>aA (Ib A (iP (kD x)) (oU B E1 0)) (fU 0 d.2 1<B.size) (∀(U:MH),eA A U (iP (kD x)) (w9 B (fU 0 d.2 1) (oK Bk)) E1->∃(f:Nat×Sl×Sl×Nat×Nat×MH),aA (I f) (G f<G x) (aA (bS x.2.1 f.2.1) (bS x.2.2.1 f.2.2.1) (aA (dG (kD x).1 (kD f).1) (dG (iP (kD x)) (iP (kD f))) (aA (aI n.q.on) (bI n.q.on) (bP (bD (fZ (bE x.1 1)) f.1) (U=gT (kD f)) (h=h))))))))))))))))))))))))))))) (gK K (gT (kD x)) h))))))))
structure Arr(m:MH)(b:Nat)(seen:ca):Prop where
 ex:∃bs:da,m b=some (.cells ⟨bs.map Value.bool⟩ 302 (0,0))/\bs.length=12/\∀k:Nat,k<12->(bs[k]? =some true↔(k:Int)∈seen)
theorem Arr.zero(h:m b=some (.cells ⟨[.bool false,.bool false,.bool false,.bool false,.bool false,.bool false,.bool false,.bool false,.bool false,.bool false,.bool false,.bool false]⟩ 302 (0,0))):Arr m b []:=
 ⟨⟨replicate 12 false,h,rfl,λk c=>bk⟩⟩
theorem Arr.look{c:ca}(x:Arr m b c){n:Int}(f:0<=n)(g:n<12):∃y:Bool,aU m h b (0+n.toNat*1) [.bool y]/\(y=true↔n∈c):=by
 obtain⟨d,e,j,o⟩:=x.ex;have t:n.toNat<d.length:=by omega
 refine⟨d[n.toNat],.lent _ _ _ e ?_,?_⟩
 .simp only[Nat.zero_add,Nat.mul_one,length_cons,length_nil];rw[drop_eq_getElem_cons bk];simp
 grind
theorem Arr.store{c:ca}(x:Arr m b c){n:Int}(o:0<=n)(t:n<12):∃(cs:Array Value)(E:TypeId),Ib m b (.cells cs E (0,0))/\0+n.toNat*1<cs.size/\∀m',iL m m' b (.cells ⟨splice cs.toList (0+n.toNat*1) [.bool true]⟩ E (0,0))->Arr m' b (c++[n]):=by
 obtain⟨d,e,u,y⟩:=x.ex;have f:n.toNat<d.length:=by omega
 refine⟨_,_,⟨e⟩,bk,λm' g=>⟨d.set n.toNat true,?_,bk,λk j=>?_⟩⟩
 .rw[g.at_];congr 3;simp only[splice,Nat.zero_add,Nat.mul_one,length_cons,length_nil];rw[set_eq_take_append_cons_drop,if_pos f];simp[map_take,map_drop]
 grind
theorem Arr.other{f:Nat}{d:ca}(x:Arr m b d)(g:b≠f)(t:∀c,c≠f->m' c=m c):Arr m' b d:=by
 obtain⟨j,e,n,o⟩:=x.ex;exact⟨j,bk,n,o⟩
theorem z7.arg{q:Query}{n:NV}(x:z7 h s ps q ks n){j:Nat}{k:ca}(c:ks[j]? =some k):∃b o sl,n.args.a=some ⟨b,o,none⟩/\bL h b (o+j*1) [.slice sl.a sl.len sl.cap]/\Ints h sl k/\k.length<=12/\j<n.args.len:=by
 obtain⟨b,o,sl,e,r,d⟩:=x.ks_.at c;have:=(List.getElem?_eq_some_iff.1 c).1;exact⟨b,o,sl,e,r,d,x.len k (mem_of_getElem? c),by rw[x.ks_.slen];exact this⟩
theorem b1J{n:NV}(c:K (aQ ⟨0,0,⟨0,0,dH,dH,⟨none,0,0⟩⟩,⟨none,0,0⟩,⟨none,0,0⟩,n.q.group,n.q.order,n.q.limit,⟨none,0,0⟩⟩) m h):R9 n m h K:=c
theorem xK:bu 265 Du:=by
 refine hU func265 ?_;rintro C m h K ⟨n,k,u,s,ps,q,ks,D,rfl,c,E,B⟩;refine⟨dA [(290,caZ)] [] [] [] false,rfl,aE Yw aG,Sa n k u m h K,bd,?_⟩;dsimp only[Sa,push_cast];have L:=c.ks_.slen;have F:=c.q_;have d:=c.q_;obtain⟨op,ta,w,co,on,gr,od,li,args⟩:=q;obtain⟨G,f,H,g,j,o,t,z,A⟩:=D;have x:=E.parts;have y:=F.parts;refine aC (λI=>⟨n.q,⟨n.q.op,u.table,u.where_,u.columns,u.on,u.group,u.order,u.limit,n.q.args⟩,_,.mk op f H g j o t z args,rfl,d,kW.rep ⟨y.op_,x.table_,x.where_,x.columns_,x.on_,x.group_,x.order_,x.limit_,y.args_⟩,λr J=>B r (J.trans ⟨λe=>⟨?_,e⟩,λe=>e.2⟩)⟩) (λI=>B false ⟨λe=>(by cases e),λe=>?_⟩)
 .grind
 grind
theorem PX:bu 267 Qz:=by
 refine hU func267 ?_;rintro c m h K ⟨n,s,ps,q,ks,rfl,e,d⟩;refine⟨dA [] [] [] [] false,rfl,aG,R9 n m h K,bd,?_⟩;exact b1J d
theorem b1Z{n:NV}{op:Int}{w:Pred}{on:ce}{args:ci}(u:z7 h s ps (.mk op ta w co on gr od li args) ks n)(ha:ks[0]? =some a)(W:∀r:Bool,(r=true↔lR a gr od li)->K (cB r) m h):HL n m h (lE h K):=by
 dsimp only[HL,push_cast];have x:=u.q_.parts;have gl:=x.group_.slen;have X:=x.group_.len;have ol:=x.order_.slen;have Y:=x.order_.len;have el:=x.limit_;obtain⟨b0,o0,Z,e0,r0,J,a',a0⟩:=u.arg ha;have L:=J.slen;have bad:∀f,Sub m f->¬lR a gr od li->lE h K (.val (.bool false)) f h:=λf hm u=>.sub hm (W false ⟨λe=>(by cases e),λe=>(u e).elim⟩);refine⟨b0,o0,e0,aD,aD,Z,.imm aD,λb m1 hb C=>?_⟩;refine⟨λ⟨i,D,b',f⟩=>D=a.length/\b'=b/\i<=gr.length/\Sub m f/\Arr f b (gr.take i)/\fI (FE a) gr i,λ⟨i,_,_,_⟩=>gr.length-i,⟨(0,Z.len,b,m1),⟨L,rfl,aD,(Sub.refl m).upd hb.m_ C.other,.zero C.at_,.zero⟩,MT⟩,?_⟩;rintro⟨i,D,b,f⟩ ⟨rfl,rfl,hi,d,j,M⟩;dsimp only;refine aF (λo=>?_) (λF=>?_)
 .obtain⟨c,z⟩:=eT gl o;obtain⟨O,P,Q,R⟩:=x.group_.at' z;have t:¬FE a (gr.take i) c->lE h K (.val (.bool false)) f h:=λu=>bad f d λg=>Good.not z u g.group_;refine⟨O,P,Q,aD,o,c,.imm R,aF (λG=>t λg=>?_) (λG=>aF (λB=>t λg=>?_) (λB=>?_))⟩
  .have:=eJ.1 g.1;omega
  .have:=eJ.1 g.1;omega
  obtain⟨y,hy,S⟩:=j.look (h:=h) (n:=c) aD aD;refine⟨aD,aD,y,hy,aC (λh3=>t λg=>g.2 (S.1 h3)) (λh3=>?_)⟩;obtain⟨cs,E,T,U,V⟩:=j.store (n:=c) aD aD;refine⟨aD,aD,cs,E,T,U,λm2 H=>⟨(i+1,a.length,b,m2),⟨rfl,rfl,aD,d.upd hb.m_ H.other,?_,M.succ z ⟨eJ.2 ⟨aD,aD⟩,λe=>?_⟩⟩,aD,MT⟩⟩
  .have:=V m2 H
   rwa [take_add_one,z]
  grind
 have gg:=M.all aD;refine⟨λ⟨i,D,f⟩=>D=a.length/\i<=od.length/\Sub m f/\fI (I9 a) od i,λ⟨i,_,_⟩=>od.length-i,⟨(0,a.length,f),⟨rfl,aD,d,.zero⟩,MT⟩,?_⟩;clear hi M F d j f;rintro⟨i,D,f⟩ ⟨rfl,hi,d,I⟩;dsimp only;refine aF (λo=>?_) (λF=>?_)
 .obtain⟨c,z⟩:=eT ol o;obtain⟨O,P,Q,R⟩:=x.order_.at z;have A:¬I9 a (od.take i) c->lE h K (.val (.bool false)) f h:=λu=>bad f d λg=>Good.not z u g.order_;refine⟨O,P,Q,aD,o,c,.imm R,aF (λG=>A λg=>?_) (λG=>aF (λB=>A λg=>?_) (λB=>⟨(i+1,a.length,f),⟨rfl,aD,d,I.succ z (eJ.2 ⟨aD,aD⟩)⟩,aD,MT⟩))⟩
  .have:=eJ.1 (show B9 a c.1=true from g);omega
  .have:=eJ.1 (show B9 a c.1=true from g);omega
 have oo:=I.all aD;rw[el];refine aF (λG=>aF (λB=>?_) (λB=>bad f d λg=>?_)) (λG=>bad f d λg=>?_)
 .exact .sub d (W (decide (li<=100)) ⟨λe=>⟨gg,oo,aD,B,bt e⟩,λe=>decide_eq_true e.high⟩)
 .have:=g.low;omega
 .have:=g.len_;omega
theorem PU:bu 268 QB:=by
 refine FR func268 ?_;rintro c m h K ⟨n,s,ps,q,ks,a,rfl,d,f,g⟩;refine⟨bhZ n h,rfl,aG,HL n m h (lE h K),bd,?_⟩;dsimp only[HL,push_cast];obtain⟨op,ta,w,co,on,gr,od,li,args⟩:=q;refine b1Z d f (λr j=>g r (j.trans ⟨λe=>⟨_,_,_,_,_,_,_,_,_,rfl,e⟩,?_⟩))
 grind
theorem OA{on:ce}{sl:Sl}(c:iF h sl on):bU h (.mk 0 0 eW [] on [] [] 0 []) ⟨0,0,⟨0,0,dH,dH,⟨none,0,0⟩⟩,⟨none,0,0⟩,sl,⟨none,0,0⟩,⟨none,0,0⟩,0,⟨none,0,0⟩⟩:=
 kW.rep ⟨rfl,rfl,Eh h,⟨.nil _ _,bf⟩,c,⟨.nil _ _,bf⟩,⟨.nil _ _,bf⟩,rfl,.nil _ _ _ _⟩
theorem PY:bu 266 QH:=by
 refine FR func266 ?_;rintro a7 m h K ⟨n,s,ps,q,ks,rfl,t,hK⟩;refine⟨bhJ n h,rfl,aE xK aG,HM n m h (lE h K),bd,?_⟩;dsimp only[HM,push_cast];obtain⟨op,ta,w,co,on,gr,od,li,args⟩:=q;show HM n m h (lE h K);dsimp only[HM,push_cast];have x:=t.q_.parts;have ol:=x.on_.slen;have a5:=x.on_.len;have bad:∀g,Sub m g->¬NQ ks (.mk op ta w co on gr od li args)->lE h K (.val (.bool false)) g h:=λg T t=>.sub T (hK false ⟨λe=>(by cases e),λe=>(t e).elim⟩);refine⟨n,2,⟨0,0,⟨0,0,dH,dH,⟨none,0,0⟩⟩,⟨none,0,0⟩,n.q.on,⟨none,0,0⟩,⟨none,0,0⟩,0,⟨none,0,0⟩⟩,s,ps,_,ks,.mk 0 0 eW [] on [] [] 0 [],rfl,t,OA x.on_,λr hr=>aC (λh1=>bad m (Sub.refl m) λf=>?_) (λh1=>?_)⟩
 .have:r=true:=hr.2 ⟨by have:=f.1;omega,by obtain⟨_,rfl,rfl,rfl,rfl,rfl,rfl,_⟩:=f;rfl⟩
  grind
 obtain⟨U,G⟩:=hr.1 bk;simp only[Query.withOf,Query.mk.injEq]at G;obtain⟨_,rfl,rfl,rfl,_,rfl,rfl,rfl,_⟩:=G
 obtain⟨D,F,rfl⟩:∃D F,ks=[D,F]:=by
  match ks,U with
  |[D,F],_=>grind
  |[],h=>simp at h
  |[_],h=>simp at h
  |_::_::_::_,h=>grind
 obtain⟨b0,o0,H,e0,r0,i0,l0,j0⟩:=t.arg (j:=0) rfl;obtain⟨b1,o1,I,e1,r1,i1,l1,j1⟩:=t.arg (j:=1) rfl;have a8:=i0.slen;have a9:=i1.slen;have bad:∀g,Sub m g->¬Good (lX D F) on->lE h K (.val (.bool false)) g h:=λg T t=>bad g T λf=>t f.2.2.2.2.2.2.2;refine⟨b0,o0,e0,aD,aD,H,.imm aD,b1,o1,e1,aD,aD,I,.imm aD,λb m1 hb u c m2 hc A=>?_⟩;have B:b≠c:=λe=>by have:=hc.m_;rw[<-e,u.at_]at this;cases this
 have J:Sub m m1:=(Sub.refl m).upd hb.m_ u.other;have L:m c=none:=J.free hc.m_
 refine⟨λ⟨i,s',t',b',c',g⟩=>s'=H/\t'=I/\b'=b/\c'=c/\i<=on.length/\Sub m g/\Arr g b ((on.take i).map Prod.fst)/\Arr g c ((on.take i).map Prod.snd)/\fI (lX D F) on i,λ⟨i,_,_,_,_,_⟩=>on.length-i,
  ⟨(0,H,I,b,c,m2),⟨rfl,rfl,rfl,rfl,aD,J.upd L A.other,(Arr.zero u.at_).other B A.other,.zero A.at_,.zero⟩,MT⟩,?_⟩
 rintro⟨i,H,I,b,c,g⟩ ⟨rfl,rfl,rfl,rfl,hi,o,hA,hB,hg⟩;dsimp only;refine aF (λM=>?_) (λb4=>.sub o (hK true ⟨λ_=>⟨rfl,rfl,rfl,rfl,rfl,rfl,rfl,hg.all aD⟩,λ_=>rfl⟩));obtain⟨p,O⟩:=eT ol M;obtain⟨bp,V,ep,rp⟩:=x.on_.at O;have d:¬lX D F (on.take i) p->lE h K (.val (.bool false)) g h:=λt=>bad g o (Good.not O t);refine⟨bp,V,ep,aD,M,p,.imm rp,aD,aD,aD,aD,aF (λd1=>d λf=>?_) (λd1=>aF (λd2=>d λf=>?_) (λd2=>aF (λd3=>d λf=>?_) (λd3=>aF (λd4=>d λf=>?_) (λd4=>?_))))⟩
 .have:=eJ.1 f.1;omega
 .have:=eJ.1 f.1;omega
 .have:=eJ.1 f.2.1;omega
 .have:=eJ.1 f.2.1;omega
 obtain⟨b2,o2,e2,r2⟩:=i0.inb (n:=p.1) aD aD;obtain⟨b3,o3,e3,r3⟩:=i1.inb (n:=p.2) aD aD;obtain⟨y,hy,W⟩:=hA.look (h:=h) (n:=p.1) aD aD;obtain⟨z,hz,X⟩:=hB.look (h:=h) (n:=p.2) aD aD;obtain⟨cs,E,Y,Z,a'⟩:=hA.store (n:=p.1) aD aD;refine⟨b2,o2,e2,aD,aD,_,.imm r2,b3,o3,e3,aD,aD,_,.imm r3,aC (λd5=>d λf=>?_) (λd5=>⟨aD,aD,y,hy,aC (λd6=>d λf=>?_) (λd6=>⟨aD,aD,z,hz,aC (λd7=>d λf=>?_) (λd7=>⟨aD,aD,cs,E,Y,Z,λm3 C=>?_⟩)⟩)⟩)⟩
 .rw[f.2.2.1]at d5;simp at d5
 .obtain⟨q,S,e⟩:=mem_map.1 (W.1 d6);exact(f.2.2.2 q S).1 e
 .obtain⟨q,S,e⟩:=mem_map.1 (X.1 d7);exact(f.2.2.2 q S).2 e
 have a2:=a' m3 C;have a3:=hB.other B.symm C.other;obtain⟨a4,E2,P,Q,a6⟩:=a3.store (n:=p.2) aD aD;refine⟨aD,aD,a4,E2,P,Q,λm4 R=>⟨(i+1,H,I,b,c,m4),⟨rfl,rfl,rfl,rfl,aD,(o.upd hb.m_ C.other).upd L R.other,?_,?_,hg.succ O ⟨eJ.2 ⟨aD,aD⟩,eJ.2 ⟨aD,aD⟩,bk,λq S=>⟨λe=>?_,λe=>?_⟩⟩⟩,aD,MT⟩⟩
 .rw[iX O];exact a2.other B R.other
 .rw[iX O];grind
 .grind
 .grind
def fin(r:ca×Int):ca×Int:=if r.2=0 then lL r.1 else dV r.2
def Query.op:Query->Int
 |.mk op .. =>op
noncomputable def Bv(s:jE)(ps:ca)(q:Query)(ks:List ca):ca×Int:=if(ks.length:Int)=arity q.op then dY s ps q (ks.getD 0 []) (ks.getD 1 [])else dV 100
def Bx(P:Int->Prop):Vc.Spec:=λc m h K=>∃n s ps q ks,c=[aN n]/\z7 h s ps q ks n/\mM s/\P q.op/\∀r,fin r=Bv s ps q ks->KR K m h r
def cvJ(h:PH)(c:Sl)(ks:List ca):Prop:=bY h 1 eS (λk d=>Ints h d k) c ks
def Ll:Vc.Spec:=λc m h K=>∃d ks,c=[cS d]/\cvJ h d ks/\ks.length<=10/\(∀k∈ks,k.length<=12)/\∀e h',PH.le h h'->Ints h' e ks.flatten->K (cS e) m h'
noncomputable def biX(n:NV)(m:MH)(h:PH):Ctx:=
 dA [(265,Du)] [(5,{A:=Nat×ca,st:=λ⟨i,l⟩=>bQ 57 58 [(1,.at (.ptr 1 0)),(4,.at (.lst 25)),(28,sv n.q.columns),(29,iv n.q.columns.len),(30,iv i)] [(1,.cells 218 (n.enc.map .val)),(25,.lst 3 1 (l.map eI))] m h})] [] [] false
abbrev G4(a:cz)(b:NV->Int->QV->cz)(c:PH)(d:bz)(e:MH)(g:Prop):Prop:=Of (λx j n y z f o t=>mC a (b x j n) (z7 c y z f o x) (bU c t n) (λu=>iU (fV u↔(↑o.length:Int)=j/\f=Query.withOf t f) (!u) (d (CV.tup (aW j8 100)) e c) g))
attribute [push_cast] G4
def HT(n:NV)(m:MH)(h:PH)(K:bz):Prop:=
  G4 (iN (lS (aM (wF n.s) (wE n.s) (aM (fK n.params) (eF n.q.op) (aM (oN n.q) (rZ n.q) (aM (eF (sB n.q)) (kA (jW n.q)) (iH n (iG n))))))) 0 (lS (vR dE (oN n.q) lF lF lF lF dE iS))) (λc k u=>iN (lS (aM (wF c.s) (wE c.s) (aM (fK c.params) (eF c.q.op) (aM (oN c.q) (rZ c.q) (aM (eF (sB c.q)) (kA (jW c.q)) (iH c (iG c))))))) k (cN u)) h K m (aZ n.q.table 0 (K (CV.tup (aW j8 100)) m h) (gM n.q.table (mD n.s) (K (CV.tup (aW j8 100)) m h) (CQ (aW (cJ n.s) n.q.table) h (λs d=>K (CV.tup (aW (fJ s) 0)) m d))))
def HS(n:NV)(m:MH)(h:PH)(K:bz):Prop:=
  G4 (iN (lS (aM (wF n.s) (wE n.s) (aM (fK n.params) (eF n.q.op) (aM (oN n.q) (rZ n.q) (aM (eF (sB n.q)) (kA (jW n.q)) (iH n (iG n))))))) 1 (lS (aM dE dE (aM (rZ n.q) (eF (sB n.q)) (aM (kA (jW n.q)) (qX (jW n.q)) (aM (eF (AY (jW n.q))) (rK (jW n.q)) (aM (mX (jW n.q)) (kA (fB n.q)) (aM (qX (fB n.q)) (j7 (fB n.q)) (aM (rK (fB n.q)) (mX (fB n.q)) (aM (Cn n.q) lF (aM lF lF (aM lF dE iS)))))))))))) (λd k u=>iN (lS (aM (wF d.s) (wE d.s) (aM (fK d.params) (eF d.q.op) (aM (oN d.q) (rZ d.q) (aM (eF (sB d.q)) (kA (jW d.q)) (iH d (iG d))))))) k (cN u)) h K m (eK n.args.a 0 n.args (λb o y=>aU m h b (o+0) (bA y)/\ED (fJ y::fF n.params (yG
 n.q)) h (λc p e=>eC (gH c p e) 0 (K (CV.tup (aW j8 (gH c p e))) m h) (eK n.args.a 0 n.args (λg j f=>aU m h g (j+0) (bA f)/\K (CV.tup (aW (fJ f) 0)) m h)))))
abbrev Kf(a:(Nat×ca->Prop)->(Nat×ca)->Prop)(b:(Nat×ca->Prop)->(Nat×ca->Nat)->(Nat×ca)->Prop):Prop:=∃(x:Nat×ca->Prop)(d:Nat×ca->Nat),(∃(c:Nat×ca),a x c)/\∀(c:Nat×ca),b x d c
noncomputable abbrev qG(a:Nat×ca):List bx:=cZ a.2
attribute [push_cast] Kf qG
def HR(n:NV)(m:MH)(h:PH)(K:bz):Prop:=
  Of (λc k u s p q f g=>mC (iN (lS (aM (wF n.s) (wE n.s) (aM (fK n.params) (eF n.q.op) (aM (oN n.q) (rZ n.q) (aM (eF (sB n.q)) (kA (jW n.q)) (iH n (iG n))))))) 1 (lS (vR dE dE (Cq n.q) lF lF lF dE iS))) (iN (lS (aM (wF c.s) (wE c.s) (aM (fK c.params) (eF c.q.op) (aM (oN c.q) (rZ c.q) (aM (eF (sB c.q)) (kA (jW c.q)) (iH c (iG c))))))) k (cN u)) (z7 h s p q f c) (bU h g u) (λr=>(fV r↔(↑f.length:Int)=k/\q=Query.withOf g q)->cW (!r) (K (CV.tup (aW j8 100)) m h) (Dc n.q==0) (K (CV.tup (aW j8 100)) m h) (aA (bZ 0) (bZ (Dc n.q)) (aA (vW (Dc n.q*8)) (vW (Dc n.q)) (Kf (λI x=>aA (I x) eM (aA (eL 25) (aI n.q.columns) (aA (bI n.q.columns)
 (bB x.1) (aA (Ew n) (tL (qG x)) (aA (m=m) (h=h) True))))) (λI j x=>I x->aZ (↑x.1:Int) (aH n.q.columns) (bJ (λb o=>aA (bM n.q.columns.a b o) (0<=(↑x.1:Int)) ((↑x.1:Int)<aH n.q.columns/\∃(y:Int),aU m h b (bK o x.1 1) (bG y)/\aZ y 0 (K (CV.tup (aW j8 100)) m h) (eK n.args.a 0 n.args (λC D t=>aU m h C (D+0) (bA t)/\gM y (aH t) (K (CV.tup (aW j8 100)) m h) (eK n.args.a 0 n.args (λE F e=>aU m h E (F+0) (bA e)/\bJ (λz A=>aA (bM e.a z A) (0<=y) (y<aH e/\∃(B:Int),aA (aU m h z (fU A y 1) (bG B)) (fC (iY (qG x) 1*8)) (jQ (qG x)/\∃(d:Nat×ca),aA (I d) (j d<j x) (aA eM (eL 25) (aA (aI n.q.columns) (bI n.q.columns) (aA (bD (fZ (bE x.1 1))
 d.1) (Ew n) (bP (jV (eN (qG x) (bG B)) d.2) (m=m) (h=h))))))))))))))) (bO h 1 (cZ x.2) (λG H=>K (CV.tup (aW (fJ G) 0)) m H))))))))
noncomputable abbrev kM(a:NV)(b:bx):cz:=oB (lS (aM (wF a.s) (wE a.s) (aM (fK a.params) (eF a.q.op) (aM (oN a.q) (rZ a.q) (aM (eF (sB a.q)) (kA (jW a.q)) b)))))
attribute [push_cast] kM
def HQ(n:NV)(m:MH)(h:PH)(K:bz):Prop:=
  ∃(c:NV),Et (λs p q k=>aA (kM n (iH n (iG n))=kM c (iH c (iG c))) (z7 h s p q k c) (∀(r:Bool),iU (fV r↔NQ k q) (!r) (K (CV.tup (aW j8 100)) m h) (eK n.args.a 0 n.args (λb o y=>aU m h b (o+0) (bA y)/\eK n.args.a 1 n.args (λg j e=>aA (aU m h g (j+1) (bA e)) (bL h b (o+0) (bA y)) (bL h g (j+1) (bA e)/\bO h 1 (j4 (bA y) (bA e)) (λA t=>∃(u:Sl)(d:List ca),aA (iT A=iT u) (cvJ t u d) (aA (d.length<=10) (∀(x:ca),List.Mem x d->x.length<=12) (iR (λz f=>cC t f (Ints f z d.flatten) (K (CV.tup (aW (fJ z) 0)) m f)))))))))))
def HP(n:NV)(m:MH)(h:PH)(K:bz):Prop:=
  ∃(c:NV),Et (λs p q k=>aA (kM n (iH n (iG n))=kM c (iH c (iG c))) (z7 h s p q k c) (∀(r:Bool),iU (fV r↔NQ k q) (!r) (K (CV.tup (aW j8 100)) m h) (eK n.args.a 0 n.args (λb o y=>aU m h b (o+0) (bA y)/\K (CV.tup (aW (fJ y) 0)) m h))))
abbrev J4(a b:Sl)(c:PH)(d e:Prop):Prop:=∃(x:Sl),rA (λf g j=>mC (dT a b) (dT x f) (Ints c x g) (Ints c f j) (λn=>iU (fV n↔g=j) (!n) d e))
attribute [push_cast] J4
def Mc(n:NV)(m:MH)(h:PH)(K:bz):Prop:=
  G4 (iN (lS (aM (wF n.s) (wE n.s) (aM (fK n.params) (eF n.q.op) (aM (oN n.q) (rZ n.q) (aM (eF (sB n.q)) (kA (jW n.q)) (iH n (iG n))))))) 2 (lS zV)) (λc k u=>iN (lS (aM (wF c.s) (wE c.s) (aM (fK c.params) (eF c.q.op) (aM (oN c.q) (rZ c.q) (aM (eF (sB c.q)) (kA (jW c.q)) (iH c (iG c))))))) k (cN u)) h K m (eK n.args.a 0 n.args (λb o y=>aU m h b (o+0) (bA y)/\eK n.args.a 1 n.args (λf g d=>aU m h f (g+1) (bA d)/\J4 y d h (K (CV.tup (aW j8 100)) m h) (eK n.args.a 0 n.args (λj t e=>aU m h j (t+0) (bA e)/\K (CV.tup (aW (fJ e) 0)) m h)))))
abbrev Gi(a:Int->Int->Prop):Prop:=∃(x c:Int),a x c
abbrev C1(a:Int->Int->Pred->ca->ce->ca->cg->Int->ci->Prop):Prop:=Gi (λx c=>∃(d:Pred)(e:ca)(f:ce)(g:ca)(j:cg)(n:Int)(o:ci),a x c d e f g j n o)
attribute [push_cast] Gi C1
def HO(n:NV)(m:MH)(h:PH)(K:bz):Prop:=
  ∃(e:NV),Et (λs p q k=>aA (kM n (iH n (iG n))=kM e (iH e (iG e))) (z7 h s p q k e) (G4 (iN (lS (aM (wF n.s) (wE n.s) (aM (fK n.params) (eF n.q.op) (aM (oN n.q) (rZ n.q) (aM (eF (sB n.q)) (kA (jW n.q)) (iH n (iG n))))))) 1 (lS (vR dE dE lF lF (Co e.q) (Cp e.q) (Bh e.q) iS))) (λd f u=>iN (lS (aM (wF d.s) (wE d.s) (aM (fK d.params) (eF d.q.op) (aM (oN d.q) (rZ d.q) (aM (eF (sB d.q)) (kA (jW d.q)) (iH d (iG d))))))) f (cN u)) h K m (∃(d:NV),Et (λz A j f=>∃(a:ca),mC (kM n (iH n (iG n))) (kM d (iH d (iG d))) (z7 h z A j f d) (f[0]? =Option.some a) (λr=>iU (fV r↔C1 (λo t w c B g x l C=>j=Query.mk
 o t w c B g x l C/\lR a g x l)) (!r) (K (CV.tup (aW j8 100)) m h) (eK n.args.a 0 n.args (λb o y=>aU m h b (o+0) (bA y)/\K (CV.tup (aW (fJ y) 0)) m h)))))))
def HN(n:NV)(m:MH)(h:PH)(K:bz):Prop:=
  ∃(e:NV),Et (λs p q k=>aA (kM n (iH n (iG n))=kM e (iH e (iG e))) (z7 h s p q k e) (G4 (iN (lS (aM (wF n.s) (wE n.s) (aM (fK n.params) (eF n.q.op) (aM (oN n.q) (rZ n.q) (aM (eF (sB n.q)) (kA (jW n.q)) (iH n (iG n))))))) 2 (lS (vR dE dE lF lF (Co e.q) (Cp e.q) (Bh e.q) iS))) (λd f u=>iN (lS (aM (wF d.s) (wE d.s) (aM (fK d.params) (eF d.q.op) (aM (oN d.q) (rZ d.q) (aM (eF (sB d.q)) (kA (jW d.q)) (iH d (iG d))))))) f (cN u)) h K m (eK n.args.a 0 n.args (λb o y=>aU m h b (o+0) (bA y)/\eK n.args.a 1 n.args (λx z j=>aU m h x (z+1) (bA j)/\J4 y j h (aA (bL h b (o+0) (bA y)) (bL h x (z+1) (bA j)) (K (CV.tup (aW j8 100))
 m h)) (aA (bL h b (o+0) (bA y)) (bL h x (z+1) (bA j)) (∃(d:NV),Et (λE F B f=>∃(a:ca),mC (kM n (iH n (iG n))) (kM d (iH d (iG d))) (z7 h E F B f d) (f[0]? =Option.some a) (λr=>iU (fV r↔C1 (λA t w c G g C l H=>B=Query.mk A t w c G g C l H/\lR a g C l)) (!r) (K (CV.tup (aW j8 100)) m h) (eK n.args.a 0 n.args (λI A D=>aU m h I (A+0) (bA D)/\K (CV.tup (aW (fJ D) 0)) m h)))))))))))
theorem Uo{e:Int}(h:e≠0):fin (dV e)=dV e:=by unfold fin;rw[if_neg (by simpa[dV]using h)];rfl
theorem anJ(l:ca):fin (l,0)=lL l:=by unfold fin;grind
structure Tst(K:bz)(m:MH)(h:PH)(full:ca×Int):Prop where
 all:∀r,fin r=full->KR K m h r
theorem Tst.err{f:ca×Int}{e:Int}(x:Tst K m h f)(d:f=dV e)(g:e≠0)(c:PH.le h h'):K (.tup [.val (.slice none 0 0),.val (.int .i64 e)]) m h':=
 (x.all (dV e) (by rw[d,Uo g])).err c rfl
theorem Tst.ok{f:ca×Int}{sl:Sl}(x:Tst K m h f)(d:f=lL l)(c:PH.le h h')(e:Ints h' sl l):K (.tup [.val (.slice sl.a sl.len sl.cap),.val (.int .i64 0)]) m h':=
 x.all (l,0) (by rw[d,anJ]) sl h' c e
theorem zC{q:Query}(h:¬((ks.length:Int)=arity q.op/\cH q)):Bv s ps q ks=dV 100:=by
 unfold Bv;by_cases c:(ks.length:Int)=arity q.op
 .rw[if_pos c];unfold dY;rw[if_pos (.inr λe=>h ⟨c,e⟩)]
 grind
theorem sS{s:jE}{ps:ca}{op ta:Int}{w:Pred}{co:ca}{on:ce}{gr:ca}{od:cg}{li:Int}{args:ci}{ks:List ca}(c:(ks.length:Int)=arity op)(d:cH (.mk op ta w co on gr od li args))(e:0<=arity op):
 Bv s ps (.mk op ta w co on gr od li args) ks=dY s ps (.mk op ta w co on gr od li args) (ks.getD 0 []) (ks.getD 1 [])/\¬(arity op<0\/¬cH (.mk op ta w co on gr od li args)):=by
 unfold Bv;rw[if_pos (show(ks.length:Int)=arity (Query.op (.mk op ta w co on gr od li args))from c)]
 grind
section
variable{n:NV}{s:jE}{ps:ca}{ta:Int}{w:Pred}{co:ca}{on:ce}{gr:ca}{od:cg}{li:Int}{args:ci}{ks:List ca}{m:MH}{h:PH}{K:bz}
theorem XX(c:(ks.length:Int)=1):∃a,ks=[a]:=by
 match ks,c with
 |[a],_=>grind
 |[],h=>simp at h
 |_::_::_,h=>grind
theorem TR(c:(ks.length:Int)=2):∃a b,ks=[a,b]:=by
 match ks,c with
 |[a,b],_=>grind
 |[],h=>simp at h
 |[_],h=>simp at h
 |_::_::_::_,h=>grind
theorem b4Q(f:z7 h s ps (.mk 1 ta w co on gr od li args) ks n)(u:mM s)(c:Tst K m h (Bv s ps (.mk 1 ta w co on gr od li args) ks)):HT n m h K:=by
 dsimp only[HT,push_cast];have x:=f.q_.parts;have j:=x.table_;have y:=f.s_.tables.slen;refine⟨n,0,⟨0,n.q.table,⟨0,0,dH,dH,⟨none,0,0⟩⟩,⟨none,0,0⟩,⟨none,0,0⟩,⟨none,0,0⟩,⟨none,0,0⟩,0,⟨none,0,0⟩⟩,s,ps,_,ks,.mk 0 ta eW [] [] [] [] 0 [],rfl,f,kW.rep ⟨rfl,j,Eh h,⟨.nil _ _,bf⟩,⟨.nil _ _,bf⟩,⟨.nil _ _,bf⟩,⟨.nil _ _,bf⟩,rfl,.nil _ _ _ _⟩,λr o=>aC (λz=>c.err (zC λe=>?_) aD (.refl _)) (λz=>?_)⟩
 .have:r=true:=o.2 ⟨e.1,by have:=e.2;simp[cH]at this;obtain⟨rfl,rfl,rfl,rfl,rfl,rfl⟩:=this;rfl⟩
  grind
 obtain⟨A,d⟩:=o.1 bk;simp only[Query.withOf,Query.mk.injEq]at d;obtain⟨_,_,rfl,rfl,rfl,rfl,rfl,rfl,_⟩:=d;obtain⟨B,C⟩:=sS (s:=s) (ps:=ps) (op:=1) (ta:=ta) (w:=eW) (co:=[]) (on:=[]) (gr:=[]) (od:=[]) (li:=0) (args:=args) (ks:=ks) A (by simp[cH]) bg;rw[B]at c;unfold dY at c;rw[if_neg C]at c;dsimp only at c;rw[if_pos rfl]at c;refine aF (λD=>c.err (if_neg aD) aD (.refl _)) (λD=>aF (λE=>c.err (if_neg aD) aD (.refl _)) (λE=>⟨n.s,s,n.q.table,rfl,f.s_,u,λy h' g t=>?_⟩));rw[j]at t;exact c.ok (if_pos aD) g t
theorem b3J(f:z7 h s ps (.mk 2 ta w co on gr od li args) ks n)(c:Tst K m h (Bv s ps (.mk 2 ta w co on gr od li args) ks)):HS n m h K:=by
 dsimp only[HS,push_cast];have x:=f.q_.parts;refine⟨n,1,⟨0,0,n.q.where_,⟨none,0,0⟩,⟨none,0,0⟩,⟨none,0,0⟩,⟨none,0,0⟩,0,⟨none,0,0⟩⟩,s,ps,_,ks,.mk 0 0 w [] [] [] [] 0 [],rfl,f,kW.rep ⟨rfl,rfl,x.where_,⟨.nil _ _,bf⟩,⟨.nil _ _,bf⟩,⟨.nil _ _,bf⟩,⟨.nil _ _,bf⟩,rfl,.nil _ _ _ _⟩,λr o=>aC (λB=>c.err (zC λe=>?_) aD (.refl _)) (λB=>?_)⟩
 .have:r=true:=o.2 ⟨e.1,by have:=e.2;simp[cH]at this;obtain⟨rfl,rfl,rfl,rfl,rfl,rfl⟩:=this;rfl⟩
  grind
 obtain⟨t,d⟩:=o.1 bk;simp only[Query.withOf,Query.mk.injEq]at d;obtain⟨_,rfl,_,rfl,rfl,rfl,rfl,rfl,_⟩:=d;obtain⟨C,D⟩:=sS (s:=s) (ps:=ps) (op:=2) (ta:=0) (w:=w) (co:=[]) (on:=[]) (gr:=[]) (od:=[]) (li:=0) (args:=args) (ks:=ks) t (by simp[cH]) bg;rw[C]at c;unfold dY at c;rw[if_neg D]at c;dsimp only at c;rw[if_neg bg,if_pos rfl]at c;obtain⟨a,rfl⟩:=XX t;obtain⟨u,y,g,z,F,A,G,H⟩:=f.arg (j:=0) rfl;simp only[getD_cons_zero]at c;refine⟨u,y,z,aD,aD,g,.imm aD,g,n.params,n.q.where_,a,ps,w,rfl,A,f.ps_,x.where_,aC (λE=>c.err (if_neg bk) bk (.refl _)) (λE=>⟨u,y,z,aD,aD,g,.imm aD,c.ok (if_pos bk) (.refl _) A⟩)⟩
theorem b3Q(t:z7 h s ps (.mk 5 ta w co on gr od li args) ks n)(d:Tst K m h (Bv s ps (.mk 5 ta w co on gr od li args) ks)):HP n m h K:=by
 dsimp only[HP,push_cast];refine⟨n,s,ps,_,ks,rfl,t,λr u=>aC (λx=>d.err ?_ aD (.refl _)) (λx=>?_)⟩
 .by_cases f:((ks.length:Int)=arity 5/\cH (.mk 5 ta w co on gr od li args))
  .obtain⟨g,o⟩:=sS (s:=s) (ps:=ps) f.1 f.2 bg;rw[g];unfold dY;rw[if_neg o];dsimp only;rw[if_neg bg,if_neg bg,if_neg bg,if_neg bg,if_pos rfl,if_neg];intro c;have e:=f.2;simp[cH]at e;have:r=true:=u.2 ⟨by have:=f.1;simp[arity]at this;omega,e.1,e.2.1,e.2.2.1,e.2.2.2.1,e.2.2.2.2.1,e.2.2.2.2.2,c⟩
   grind
  .exact zC f
 obtain⟨y,rfl,rfl,rfl,rfl,rfl,rfl,c⟩:=u.1 bk;obtain⟨g,o⟩:=sS (s:=s) (ps:=ps) (op:=5) (ta:=0) (w:=eW) (co:=[]) (on:=on) (gr:=[]) (od:=[]) (li:=0) (args:=args) (ks:=ks) (by rw[y];rfl) (by simp[cH]) bg;rw[g]at d;unfold dY at d;rw[if_neg o]at d;dsimp only at d;rw[if_neg bg,if_neg bg,if_neg bg,if_neg bg,if_pos rfl,if_pos c]at d;obtain⟨a,b,rfl⟩:=TR (ks:=ks) aD;obtain⟨z,A,B,C,E,D,F,G⟩:=t.arg (j:=0) rfl;exact⟨z,A,C,aD,aD,B,.imm aD,d.ok rfl (.refl _) D⟩
theorem b3X(x:z7 h s ps (.mk 4 ta w co on gr od li args) ks n)(f:Tst K m h (Bv s ps (.mk 4 ta w co on gr od li args) ks)):HQ n m h K:=by
 dsimp only[HQ,push_cast];refine⟨n,s,ps,_,ks,rfl,x,λr C=>aC (λD=>f.err ?_ aD (.refl _)) (λD=>?_)⟩
 .by_cases o:((ks.length:Int)=arity 4/\cH (.mk 4 ta w co on gr od li args))
  .obtain⟨y,z⟩:=sS (s:=s) (ps:=ps) o.1 o.2 bg;rw[y];unfold dY;rw[if_neg z];dsimp only;rw[if_neg bg,if_neg bg,if_neg bg,if_pos rfl,if_neg];intro c;have e:=o.2;simp[cH]at e;have:r=true:=C.2 ⟨by have:=o.1;simp[arity]at this;omega,e.1,e.2.1,e.2.2.1,e.2.2.2.1,e.2.2.2.2.1,e.2.2.2.2.2,c⟩
   grind
  .exact zC o
 obtain⟨d,rfl,rfl,rfl,rfl,rfl,rfl,c⟩:=C.1 bk;obtain⟨y,z⟩:=sS (s:=s) (ps:=ps) (op:=4) (ta:=0) (w:=eW) (co:=[]) (on:=on) (gr:=[]) (od:=[]) (li:=0) (args:=args) (ks:=ks) (by rw[d];rfl) (by simp[cH]) bg;rw[y]at f;unfold dY at f;rw[if_neg z]at f;dsimp only at f;rw[if_neg bg,if_neg bg,if_neg bg,if_pos rfl,if_pos c]at f;obtain⟨a,b,rfl⟩:=TR (ks:=ks) aD;obtain⟨E,F,A,G,R,H,S,T⟩:=x.arg (j:=0) rfl;obtain⟨I,J,B,L,U,M,V,W⟩:=x.arg (j:=1) rfl;refine⟨E,F,G,aD,aD,A,.imm aD,I,J,L,aD,aD,B,.imm aD,aD,aD,λO h' g t=>⟨O,[a,b],rfl,⟨⟨[A,B],t,rfl,λj k d=>?_⟩,bf⟩,bf,λk d=>x.len k d,λP e u Q=>f.ok (l:=a++b) bf (g.trans u) bk⟩⟩
 match j,d with
 |0,d=>simp at d;subst d;exact⟨A,rfl,H.mono g⟩
 |1,d=>simp at d;subst d;exact⟨B,rfl,M.mono g⟩
 |_+2,d=>simp at d
theorem b2J{op:Int}(t:op=6\/op=7\/op=8)(o:z7 h s ps (.mk op ta w co on gr od li args) ks n)(d:Tst K m h (Bv s ps (.mk op ta w co on gr od li args) ks)):Mc n m h K:=by
 dsimp only[Mc,push_cast];have x:=o.q_.parts;have P:arity op=2:=by rcases t with rfl|rfl|rfl<;>rfl
 have c:op≠1/\op≠2/\op≠3/\op≠4/\op≠5/\op≠9/\op≠10:=by omega
 refine⟨n,2,⟨0,0,⟨0,0,dH,dH,⟨none,0,0⟩⟩,⟨none,0,0⟩,⟨none,0,0⟩,⟨none,0,0⟩,⟨none,0,0⟩,0,⟨none,0,0⟩⟩,s,ps,_,ks,.mk 0 0 eW [] [] [] [] 0 [],rfl,o,kW.rep ⟨rfl,rfl,Eh h,⟨.nil _ _,bf⟩,⟨.nil _ _,bf⟩,⟨.nil _ _,bf⟩,⟨.nil _ _,bf⟩,rfl,.nil _ _ _ _⟩,λr z=>aC (λG=>d.err (zC λe=>?_) aD (.refl _)) (λG=>?_)⟩
 .have A:(ks.length:Int)=arity op:=e.1;have:r=true:=z.2 ⟨aD,by have:=e.2;simp[cH,c]at this;obtain⟨rfl,rfl,rfl,rfl,rfl,rfl,rfl⟩:=this;rfl⟩
  grind
 obtain⟨H,f⟩:=z.1 bk;simp only[Query.withOf,Query.mk.injEq]at f;obtain⟨_,rfl,rfl,rfl,rfl,rfl,rfl,rfl,_⟩:=f;obtain⟨I,J⟩:=sS (s:=s) (ps:=ps) (op:=op) (ta:=0) (w:=eW) (co:=[]) (on:=[]) (gr:=[]) (od:=[]) (li:=0) (args:=args) (ks:=ks) aD (by simp[cH]) aD;rw[I]at d;unfold dY at d;rw[if_neg J]at d;dsimp only at d;rw[if_neg c.1,if_neg c.2.1,if_neg c.2.2.1,if_neg c.2.2.2.1,if_neg c.2.2.2.2.1,if_neg c.2.2.2.2.2.1,if_neg c.2.2.2.2.2.2]at d;obtain⟨a,b,rfl⟩:=TR H;obtain⟨B,C,u,D,Q,E,R,S⟩:=o.arg (j:=0) rfl;obtain⟨L,M,F,A,T,O,U,V⟩:=o.arg (j:=1) rfl;refine⟨B,C,D,aD,aD,u,.imm aD,L,M,A,aD,aD,F,.imm aD,u,F,a,b,rfl,E,O,λW g=>aC (λy=>d.err (if_neg λe=>?_) aD (.refl _)) (λy=>⟨B,C,D,aD,aD,u,.imm aD,d.ok (if_pos (g.1 bk)) (.refl _) E⟩)⟩;have e:a=b:=e;rw[g.2 e]at y;cases y
theorem b3Z(z:z7 h s ps (.mk 3 ta w co on gr od li args) ks n)(d:Tst K m h (Bv s ps (.mk 3 ta w co on gr od li args) ks)):HR n m h K:=by
 dsimp only[HR,push_cast];have x:=z.q_.parts;have E:=x.columns_.slen;have F:=x.columns_.len;refine⟨n,1,⟨0,0,⟨0,0,dH,dH,⟨none,0,0⟩⟩,n.q.columns,⟨none,0,0⟩,⟨none,0,0⟩,⟨none,0,0⟩,0,⟨none,0,0⟩⟩,s,ps,_,ks,.mk 0 0 eW co [] [] [] 0 [],rfl,z,kW.rep ⟨rfl,rfl,Eh h,x.columns_,⟨.nil _ _,bf⟩,⟨.nil _ _,bf⟩,⟨.nil _ _,bf⟩,rfl,.nil _ _ _ _⟩,λr G=>aC (λQ=>d.err (zC λe=>?_) aD (.refl _)) (λQ=>?_)⟩
 .have:r=true:=G.2 ⟨e.1,by have:=e.2;simp[cH]at this;obtain⟨rfl,rfl,rfl,rfl,rfl,rfl⟩:=this;rfl⟩
  grind
 obtain⟨H,o⟩:=G.1 bk;simp only[Query.withOf,Query.mk.injEq]at o;obtain⟨_,rfl,rfl,_,rfl,rfl,rfl,rfl,_⟩:=o;obtain⟨R,S⟩:=sS (s:=s) (ps:=ps) (op:=3) (ta:=0) (w:=eW) (co:=co) (on:=[]) (gr:=[]) (od:=[]) (li:=0) (args:=args) (ks:=ks) H (by simp[cH]) bg;rw[R]at d;unfold dY at d;rw[if_neg S]at d;dsimp only at d;rw[if_neg bg,if_neg bg,if_pos rfl]at d;obtain⟨a,rfl⟩:=XX H;obtain⟨I,J,L,M,r0,O,l0,j0⟩:=z.arg (j:=0) rfl;have T:=O.slen;simp only[getD_cons_zero]at d;refine aC (λP=>d.err (if_neg λe=>e.1 ((KG E).1 P)) aD (.refl _)) (λP=>?_);have A:co≠[]:=λe=>bk
 refine⟨aD,aD,aD,aD,λ⟨i,l⟩=>i<=co.length/\l=(co.take i).map (λc=>a.getD c.toNat 0)/\fI (λ_ c=>B9 a c=true) co i,λ⟨i,_⟩=>co.length-i,⟨(0,[]),⟨aD,bf,.zero⟩,MT⟩,?_⟩;rintro⟨i,_⟩ ⟨hi,rfl,t⟩;dsimp only;refine aF (λu=>?_) (λU sl h' B f=>?_)
 .obtain⟨c,y⟩:=eT E u;obtain⟨V,W,C,X⟩:=x.columns_.at' y;have g:¬B9 a c=true->K (.tup [.val (.slice none 0 0),.val (.int .i64 100)]) m h:=λY=>d.err (if_neg λe=>Y (e.2 i c y)) aD (.refl _);refine⟨V,W,C,aD,u,c,.imm X,aF (λZ=>g λe=>?_) (λZ=>⟨I,J,M,aD,aD,L,.imm aD,aF (λd3=>g λe=>?_) (λd3=>?_)⟩)⟩
  .have:=eJ.1 e;omega
  .have:=eJ.1 e;omega
  obtain⟨b2,o2,D,r2⟩:=O.inb (n:=c) aD aD;refine⟨I,J,M,aD,aD,L,.imm aD,b2,o2,D,aD,aD,_,.imm r2,?_,?_,(i+1,(co.take (i+1)).map (λc=>a.getD c.toNat 0)),⟨aD,rfl,t.succ y (eJ.2 ⟨aD,aD⟩)⟩,aD,?_⟩
  .simp;omega
  .simp;omega
  .rw[iX y,map_append];exact MT
 .rw[take_of_length_le aD]at f;exact d.ok (if_pos ⟨A,t.all aD⟩) B ⟨f,bj⟩
theorem b2Z(d:z7 h s ps (.mk 9 ta w co on gr od li args) ks n)(c:Tst K m h (Bv s ps (.mk 9 ta w co on gr od li args) ks)):HO n m h K:=by
 dsimp only[HO,push_cast];have x:=d.q_.parts;refine⟨n,s,ps,_,ks,rfl,d,n,1,⟨0,0,⟨0,0,dH,dH,⟨none,0,0⟩⟩,⟨none,0,0⟩,⟨none,0,0⟩,n.q.group,n.q.order,n.q.limit,⟨none,0,0⟩⟩,s,ps,_,ks,.mk 0 0 eW [] [] gr od li [],rfl,d,kW.rep ⟨rfl,rfl,Eh h,⟨.nil _ _,bf⟩,⟨.nil _ _,bf⟩,x.group_,x.order_,x.limit_,.nil _ _ _ _⟩,λr g=>aC (λt=>c.err (zC λe=>?_) aD (.refl _)) (λt=>?_)⟩
 .have:r=true:=g.2 ⟨e.1,by have:=e.2;simp[cH]at this;obtain⟨rfl,rfl,rfl,rfl⟩:=this;rfl⟩
  grind
 obtain⟨o,f⟩:=g.1 bk;simp only[Query.withOf,Query.mk.injEq]at f;obtain⟨_,rfl,rfl,rfl,rfl,_,_,_,_⟩:=f;obtain⟨u,y⟩:=sS (s:=s) (ps:=ps) (op:=9) (ta:=0) (w:=eW) (co:=[]) (on:=[]) (gr:=gr) (od:=od) (li:=li) (args:=args) (ks:=ks) o (by simp[cH]) bg;rw[u]at c;unfold dY at c;rw[if_neg y]at c;dsimp only at c;rw[if_neg bg,if_neg bg,if_neg bg,if_neg bg,if_neg bg,if_pos rfl]at c;obtain⟨a,rfl⟩:=XX o;obtain⟨z,A,B,C,G,D,H,I⟩:=d.arg (j:=0) rfl;refine⟨n,s,ps,_,[a],a,rfl,d,rfl,λJ E=>aC (λF=>c.err (if_neg λe=>?_) aD (.refl _)) (λF=>⟨z,A,C,aD,aD,B,.imm aD,c.ok (if_pos ?_) (.refl _) D⟩)⟩
 .grind
 grind
theorem b2X(d:z7 h s ps (.mk 10 ta w co on gr od li args) ks n)(c:Tst K m h (Bv s ps (.mk 10 ta w co on gr od li args) ks)):HN n m h K:=by
 dsimp only[HN,push_cast];have x:=d.q_.parts;refine⟨n,s,ps,_,ks,rfl,d,n,2,⟨0,0,⟨0,0,dH,dH,⟨none,0,0⟩⟩,⟨none,0,0⟩,⟨none,0,0⟩,n.q.group,n.q.order,n.q.limit,⟨none,0,0⟩⟩,s,ps,_,ks,.mk 0 0 eW [] [] gr od li [],rfl,d,kW.rep ⟨rfl,rfl,Eh h,⟨.nil _ _,bf⟩,⟨.nil _ _,bf⟩,x.group_,x.order_,x.limit_,.nil _ _ _ _⟩,λr t=>aC (λD=>c.err (zC λe=>?_) aD (.refl _)) (λD=>?_)⟩
 .have:r=true:=t.2 ⟨e.1,by have:=e.2;simp[cH]at this;obtain⟨rfl,rfl,rfl,rfl⟩:=this;rfl⟩
  grind
 obtain⟨u,f⟩:=t.1 bk;simp only[Query.withOf,Query.mk.injEq]at f;obtain⟨_,rfl,rfl,rfl,rfl,_,_,_,_⟩:=f;obtain⟨E,F⟩:=sS (s:=s) (ps:=ps) (op:=10) (ta:=0) (w:=eW) (co:=[]) (on:=[]) (gr:=gr) (od:=od) (li:=li) (args:=args) (ks:=ks) u (by simp[cH]) bg;rw[E]at c;unfold dY at c;rw[if_neg F]at c;dsimp only at c;rw[if_neg bg,if_neg bg,if_neg bg,if_neg bg,if_neg bg,if_neg bg,if_pos rfl]at c;obtain⟨a,b,rfl⟩:=TR u;obtain⟨y,z,g,A,P,B,Q,R⟩:=d.arg (j:=0) rfl;obtain⟨G,H,C,I,S,J,T,U⟩:=d.arg (j:=1) rfl;refine⟨y,z,A,aD,aD,g,.imm aD,G,H,I,aD,aD,C,.imm aD,g,C,a,b,rfl,B,J,λV o=>aC (λL=>⟨aD,aD,c.err (if_neg λe=>?_) aD (.refl _)⟩) (λL=>⟨aD,aD,n,s,ps,_,[a,b],a,rfl,d,rfl,λW M=>aC (λO=>c.err (if_neg λe=>?_) aD (.refl _)) (λO=>⟨y,z,A,aD,aD,g,.imm aD,c.ok (if_pos ⟨o.1 bk,?_⟩) (.refl _) B⟩)⟩)⟩
 .grind
 .grind
 .grind
end
def fv(f:Nat):CV:=.val (.func (.func f) #[] #[])
def Tz:Vc.Spec:=λc m h K=>∃op,c=[cI op]/\
 branch (op==1) (K (fv 225) m h) (branch (op==2) (K (fv 226) m h) (branch (op==3) (K (fv 227) m h) (branch (op==4) (K (fv 228) m h) (branch (op==5) (K (fv 229) m h) (branch (op==6) (K (fv 230) m h) (branch (op==7) (K (fv 230) m h) (branch (op==8) (K (fv 230) m h) (branch (op==9) (K (fv 231) m h) (branch (op==10) (K (fv 232) m h) (K (.val .nilFunc) m h))))))))))
noncomputable def bSQ(N:Nat)(sc:cE)(p:Sl)(v:QV)(m:MH):Ctx:=
 dA [(98,AQ N),(174,Tz),(225,Bx (· =1)),(226,Bx (· =2)),(227,Bx (· =3)),(228,Bx (· =4)),(229,Bx (· =5)),(230,Bx (λop=>op=6\/op=7\/op=8)),(231,Bx (· =9)),(232,Bx (· =10))] [(3,{A:=Nat×ck×PH,st:=λ⟨i,c,h⟩=>bQ 62 65 [(1,sv p),(3,.at (.ptr 3 0)),(5,.at (.ptr 5 0)),(8,.at (.ptr 8 0)),(21,sv v.args),(22,iv v.args.len),(23,iv i)] [(3,.cells 43 (sc.enc.map .val)),(5,.cells 38 (v.enc.map .val)),(8,.cells 218 ((sc.enc++eS p++v.enc).map .val++[.lst 41])),(41,.lst 33 1 (c.map eS))] m h})] [] [] false
noncomputable abbrev oX(a:Nat):Value:=Value.func (Fn.func a) wG wG
attribute [push_cast] oX
def Mj(op:Int)(m:MH)(h:PH)(K:bz):Prop:=
  jY m h (λb e=>eA m e b (aM Value.nilFunc Value.nilFunc (aM Value.nilFunc Value.nilFunc (aM Value.nilFunc Value.nilFunc (aM Value.nilFunc Value.nilFunc (aM Value.nilFunc Value.nilFunc (oK Value.nilFunc)))))) 273) (λb e=>wD (λc E=>aA (Ib e b (oU c E 0)) (11<=c.size) (∀(d:MH),eA e d b (aM Value.nilFunc (oX 225) (aM (oX 226) (oX 227) (aM (oX 228) (oX 229) (aM (oX 230) (oX 230) (aM (oX 230) (oX 231) (uK (oX 232) 11 c.toList)))))) E->aZ op 0 (K (CV.val Value.nilFunc) d h) (gM op 11 (K (CV.val Value.nilFunc) d h) (aA (bZ op) (op<11) (∃(y:Option Nat),aU d h b (fU 0 op 1) (oK (bxZ y))/\K (CV.val (bxZ y)) d h))))))
abbrev yL(a:Nat×ck×PH)(b:cE)(c:Sl)(d:QV)(e:Sl->bx)(g:NV->cz)(i:Query->Prop)(j:(ca×Int)->Sl->PH->Prop):Prop:=bO (mS a) 1 (qY a) (λx y=>∃(z:NV),Et (λf A o B=>aA (oB (lS (aM (wF b) (wE b) (aM (fK c) (eF d.op) (aM (oN d) (rZ d) (aM (eF (sB d)) (kA (jW d)) (e x))))))=g z) (z7 y f A o B z) (aA (mM f) (i o) (∀(t:ca×Int),fin t=Bv f A o B->iR (λC u=>cC y u (Ints u C t.1) (j t C u))))))
noncomputable abbrev yQ(a:QV)(b:bx):bx:=aM (qX (jW a)) (j7 (jW a)) (aM (rK (jW a)) (mX (jW a)) (aM (kA (fB a)) (qX (fB a)) (aM (eF (AY (fB a))) (rK (fB a)) b)))
attribute [push_cast] yL yQ
def Wb(N:Nat)(sc:cE)(p:Sl)(v:QV)(m:MH)(h:PH)(K:bz):Prop:=
  N8 (λI x=>aA (I x) (aI p) (aA bV dR (aA eZ (aI v.args) (aA (qV v) (bB x.1) (aA (cL sc) (dM v) (aA (Oe sc (vK p) v (oD (At.lst 41))) (qZ 33 1 (qY x)) (aA (m=m) (h=mS x) True))))))) (λI e x=>I x->aZ (↑x.1:Int) (aH v.args) (bJ (λb o=>aA (bM v.args.a b o) (0<=(↑x.1:Int)) ((↑x.1:Int)<aH v.args/\∃(y:QV),aU m (mS x) b (bK o x.1 21) y.enc/\Ha sc p y (mS x) N (λs f q g c=>eC (aJ s f q).2 0 (K (CV.tup (cV j8 (CV.val (eF (aJ s f q).2)))) m c) (nG (qY x) 24 (∃(d:Nat×ck×PH),aA (I d) (e d<e x) (aA (aI p) bV (aA dR eZ (aA (aI v.args) (qV v) (aA (bD (fZ (bE x.1 1)) d.1) (cL sc) (aA (dM v) (Oe sc (vK p) v (oD (At.lst 41))) (bP (Option.some
 (Own.lst 33 1 (eN (qY x) (bA g)))=Option.some (Own.lst 33 1 (qY d))) (m=m) (c=mS d))))))))))))) (lA v.op (λo=>cW (o==1) (yL x sc p v (λs=>yQ v (Bl (fB v) v v.on s)) (λn=>kM n (iH n (iG n))) (λq=>q.op=1) (λr s c=>nK (r.2 !=0) (K (CV.tup (aW j8 r.2)) m c) (aH s) 12 (K (CV.tup (aW j8 2)) m c) (K (CV.tup (aW (fJ s) 0)) m c))) (o==2) (yL x sc p v (λs=>yQ v (Bl (fB v) v v.on s)) (λn=>kM n (iH n (iG n))) (λq=>q.op=2) (λr s c=>nK (r.2 !=0) (K (CV.tup (aW j8 r.2)) m c) (aH s) 12 (K (CV.tup (aW j8 2)) m c) (K (CV.tup (aW (fJ s) 0)) m c))) (cW (o==3) (yL x sc p v (λs=>yQ v (Bl (fB v) v v.on s)) (λn=>kM n (iH n (iG n))) (λq=>q.op=3) (λr s c=>nK
 (r.2 !=0) (K (CV.tup (aW j8 r.2)) m c) (aH s) 12 (K (CV.tup (aW j8 2)) m c) (K (CV.tup (aW (fJ s) 0)) m c))) (o==4) (yL x sc p v (λs=>yQ v (Bl (fB v) v v.on s)) (λn=>kM n (iH n (iG n))) (λq=>q.op=4) (λr s c=>nK (r.2 !=0) (K (CV.tup (aW j8 r.2)) m c) (aH s) 12 (K (CV.tup (aW j8 2)) m c) (K (CV.tup (aW (fJ s) 0)) m c))) (cW (o==5) (yL x sc p v (λs=>yQ v (Bl (fB v) v v.on s)) (λn=>kM n (iH n (iG n))) (λq=>q.op=5) (λr s c=>nK (r.2 !=0) (K (CV.tup (aW j8 r.2)) m c) (aH s) 12 (K (CV.tup (aW j8 2)) m c) (K (CV.tup (aW (fJ s) 0)) m c))) (o==6) (yL x sc p v (λs=>yQ v (Bl (fB v) v v.on s)) (λn=>kM n (iH n (iG n))) (λq=>q.op=6\/q.op=7\/q.op=8) (λr s c=>nK (r.2
 !=0) (K (CV.tup (aW j8 r.2)) m c) (aH s) 12 (K (CV.tup (aW j8 2)) m c) (K (CV.tup (aW (fJ s) 0)) m c))) (cW (o==7) (yL x sc p v (λs=>yQ v (Bl (fB v) v v.on s)) (λn=>kM n (iH n (iG n))) (λq=>q.op=6\/q.op=7\/q.op=8) (λr s c=>nK (r.2 !=0) (K (CV.tup (aW j8 r.2)) m c) (aH s) 12 (K (CV.tup (aW j8 2)) m c) (K (CV.tup (aW (fJ s) 0)) m c))) (o==8) (yL x sc p v (λs=>yQ v (Bl (fB v) v v.on s)) (λn=>kM n (iH n (iG n))) (λq=>q.op=6\/q.op=7\/q.op=8) (λr s c=>nK (r.2 !=0) (K (CV.tup (aW j8 r.2)) m c) (aH s) 12 (K (CV.tup (aW j8 2)) m c) (K (CV.tup (aW (fJ s) 0)) m c))) (cW (o==9) (yL x sc p v (λs=>yQ v (Bl (fB v) v v.on s)) (λn=>kM n (iH n (iG n))) (λq=>q.op=9)
 (λr s c=>nK (r.2 !=0) (K (CV.tup (aW j8 r.2)) m c) (aH s) 12 (K (CV.tup (aW j8 2)) m c) (K (CV.tup (aW (fJ s) 0)) m c))) (o==10) (yL x sc p v (λs=>yQ v (Bl (fB v) v v.on s)) (λn=>kM n (iH n (iG n))) (λq=>q.op=10) (λr s c=>nK (r.2 !=0) (K (CV.tup (aW j8 r.2)) m c) (aH s) 12 (K (CV.tup (aW j8 2)) m c) (K (CV.tup (aW (fJ s) 0)) m c))) (K (CV.tup (aW j8 100)) m (mS x)))))))))
theorem Zl:bu 174 Tz:=by
 refine FR func174 ?_;rintro u m h K ⟨op,rfl,f⟩;refine⟨sN [] [] [] [] [273] [] false,rfl,aG,Mj op m h (lE h K),bd,?_⟩;show Mj op m h (lE h K);dsimp only[Mj,push_cast];intro b J t g;refine⟨_,_,⟨g.at_⟩,bg,λx j=>?_⟩;have c:Sub m x:=((Sub.refl m).upd t.m_ g.other).upd t.m_ j.other;have e:=j.at_
 have d:∀k,¬(1<=op/\op<=10)->op=k->K (.val .nilFunc) m h:=λk L _=>by
  have:(op==1)=false/\(op==2)=false/\(op==3)=false/\(op==4)=false/\(op==5)=false/\(op==6)=false/\(op==7)=false/\(op==8)=false/\(op==9)=false/\(op==10)=false:=by
   grind
  obtain⟨y,z,A,B,C,D,E,F,G,o⟩:=this;rw[y,z,A,B,C,D,E,F,G,o]at f;exact f
 refine aF (λH=>.sub c (d _ aD rfl)) (λH=>aF (λI=>.sub c (d _ aD rfl)) (λI=>⟨aD,aD,?_⟩));have:op=0\/op=1\/op=2\/op=3\/op=4\/op=5\/op=6\/op=7\/op=8\/op=9\/op=10:=by omega
 rcases this with rfl|rfl|rfl|rfl|rfl|rfl|rfl|rfl|rfl|rfl|rfl
 .exact⟨none,.lent _ _ _ e rfl,.sub c (d 0 aD rfl)⟩
 .exact⟨some 225,.lent _ _ _ e rfl,.sub c f⟩
 .exact⟨some 226,.lent _ _ _ e rfl,.sub c f⟩
 .exact⟨some 227,.lent _ _ _ e rfl,.sub c f⟩
 .exact⟨some 228,.lent _ _ _ e rfl,.sub c f⟩
 .exact⟨some 229,.lent _ _ _ e rfl,.sub c f⟩
 .exact⟨some 230,.lent _ _ _ e rfl,.sub c f⟩
 .exact⟨some 230,.lent _ _ _ e rfl,.sub c f⟩
 .exact⟨some 230,.lent _ _ _ e rfl,.sub c f⟩
 .exact⟨some 231,.lent _ _ _ e rfl,.sub c f⟩
 .exact⟨some 232,.lent _ _ _ e rfl,.sub c f⟩
theorem YU:bu 225 (Bx (· =1)):=by
 refine hU func225 ?_;rintro d m h K ⟨n,s,ps,q,ks,rfl,e,f,c,g⟩;obtain⟨op,ta,w,co,on,gr,od,li,args⟩:=q;refine⟨dA [(265,Du),(139,zI)] [] [] [] false,rfl,(aE xK (aE Fw aG)),HT n m h K,bd,?_⟩;dsimp only[HT,push_cast];cases (show op=1 from c);exact b4Q e f ⟨g⟩
theorem YT:bu 226 (Bx (· =2)):=by
 refine hU func226 ?_;rintro d m h K ⟨n,s,ps,q,ks,rfl,e,g,c,f⟩;obtain⟨op,ta,w,co,on,gr,od,li,args⟩:=q;refine⟨dA [(265,Du),(156,uR)] [] [] [] false,rfl,(aE xK (aE IT aG)),HS n m h K,bd,?_⟩;dsimp only[HS,push_cast];cases (show op=2 from c);exact b3J e ⟨f⟩
theorem YR:bu 227 (Bx (· =3)):=by
 refine hU func227 ?_;rintro d m h K ⟨n,s,ps,q,ks,rfl,e,g,c,f⟩;obtain⟨op,ta,w,co,on,gr,od,li,args⟩:=q;refine⟨biX n m h,rfl,(aE xK aG),HR n m h K,bd,?_⟩;dsimp only[HR,push_cast];cases (show op=3 from c);exact b3Z e ⟨f⟩
theorem YQ(c:bu 164 Ll):bu 228 (Bx (· =4)):=by
 refine hU func228 ?_;rintro e m h K ⟨n,s,ps,q,ks,rfl,f,j,d,g⟩;obtain⟨op,ta,w,co,on,gr,od,li,args⟩:=q;refine⟨dA [(266,QH),(164,Ll)] [] [] [] false,rfl,(aE PY (aE c aG)),HQ n m h K,bd,?_⟩;dsimp only[HQ,push_cast];cases (show op=4 from d);exact b3X f ⟨g⟩
theorem YP:bu 229 (Bx (· =5)):=by
 refine hU func229 ?_;rintro d m h K ⟨n,s,ps,q,ks,rfl,e,g,c,f⟩;obtain⟨op,ta,w,co,on,gr,od,li,args⟩:=q;refine⟨dA [(266,QH)] [] [] [] false,rfl,(aE PY aG),HP n m h K,bd,?_⟩;dsimp only[HP,push_cast];cases (show op=5 from c);exact b3Q e ⟨f⟩
theorem YO:bu 230 (Bx (λop=>op=6\/op=7\/op=8)):=by
 refine hU func230 ?_;rintro d m h K ⟨n,s,ps,q,ks,rfl,e,g,c,f⟩;obtain⟨op,ta,w,co,on,gr,od,li,args⟩:=q;refine⟨dA [(265,Du),(162,A8)] [] [] [] false,rfl,(aE xK (aE Fv aG)),Mc n m h K,bd,?_⟩;exact b2J c e ⟨f⟩
theorem YN:bu 231 (Bx (· =9)):=by
 refine hU func231 ?_;rintro d m h K ⟨n,s,ps,q,ks,rfl,e,g,c,f⟩;obtain⟨op,ta,w,co,on,gr,od,li,args⟩:=q;refine⟨dA [(265,Du),(267,Qz),(268,QB)] [] [] [] false,rfl,(aE xK (aE PX (aE PU aG))),HO n m h K,bd,?_⟩;dsimp only[HO,push_cast];cases (show op=9 from c);exact b2Z e ⟨f⟩
theorem YM:bu 232 (Bx (· =10)):=by
 refine hU func232 ?_;rintro d m h K ⟨n,s,ps,q,ks,rfl,e,g,c,f⟩;obtain⟨op,ta,w,co,on,gr,od,li,args⟩:=q;refine⟨dA [(265,Du),(162,A8),(267,Qz),(268,QB)] [] [] [] false,rfl,(aE xK (aE Fv (aE PX (aE PU aG)))),HN n m h K,bd,?_⟩;dsimp only[HN,push_cast];cases (show op=10 from c);exact b2X e ⟨f⟩
theorem aoQ(F:bu 164 Ll):∀N,bu 98 (AQ N)
 |0=>by
  refine dU (fn:=Tryz.f98) (c:=bW Tryz.f98) func98 rfl bg ?_;rintro S m h K ⟨sc,p,v,s,ps,q,rfl,_,_,_,_,hN,_⟩;omega
 |N+1=>by
  refine hU func98 ?_;rintro S m h K ⟨sc,p,v,s,ps,q,rfl,hs,C,hp,hq,hN,B⟩;refine⟨bSQ N sc p v m,rfl,(aE (aoQ F N) (aE Zl (aE YU (aE YT (aE YR (aE (YQ F) (aE YP (aE YO (aE YN (aE YM aG)))))))))),Wb N sc p v m h K,bd,?_⟩;dsimp only[Wb,push_cast];have T:=@sL q;have U:=hq;obtain⟨op,ta,w,co,on,gr,od,li,args⟩:=q;have x:=hq.parts;have D:=x.op_;have hl:=x.args_.slen;have a':=x.args_.len;simp only[Query.args]at T;simp only[aJ]at B;refine⟨λ⟨i,G,L⟩=>i<=args.length/\PH.le h L/\∃ks,Slices L G ks/\(args.take i).map (aJ s ps)=ks.map (λk=>(k,0)),λ⟨i,_,_⟩=>args.length-i,⟨(0,[],h),⟨aD,.refl _,[],⟨rfl,λj s k V=>by simp at V⟩,bf⟩,MT⟩,?_⟩;rintro⟨i,G,L⟩ ⟨hi,y,ks,P,A⟩;have W:ks.length=i:=by have:=congrArg List.length A;grind
  have X:G.length=i:=by rw[P.1,W]
  dsimp only;refine aF (λH=>?_) (λa0=>?_)
  .obtain⟨Q,I⟩:=eT hl H;obtain⟨b1,o1,u,Y,r1,Z⟩:=(x.args_.mono y).at I;refine⟨b1,o1,Y,aD,H,u,.imm r1,sc,p,u,s,ps,Q,rfl,hs.mono y,C,hp.mono y,Z,?_,λg h' d E=>aC (λV=>?_) (λV=>?_)⟩
   .grind
   .have he:(aJ s ps Q).2≠0:=bk
    rw[Gp he A I rfl]at B;exact B.err (y.trans d) (if_neg he)
   .have he:(aJ s ps Q).2=0:=bk
    refine⟨bj,bj,(i+1,G++[g],h'),⟨aD,y.trans d,ks++[(aJ s ps Q).1],(P.mono d).snoc E,?_⟩,aD,?_⟩
    .rw[iX I,A,map_append]
     grind
    .rw[map_append];exact MT
  .rw[take_of_length_le aD]at A;rw[uL A]at B;simp only[if_true]at B;have B:KR K m h (Bv s ps (.mk op ta w co on gr od li args) ks):=B
   have o:∀(g:Sl)(h':PH),PH.le L h'->cD h' g 1 (G.map eS)->z7 h' s ps (.mk op ta w co on gr od li args) ks ⟨sc,p,v,g⟩:=λg h' d f=>by
    refine⟨(hs.mono y).mono d,(hp.mono y).mono d,(U.mono y).mono d,⟨⟨G,f,P.1.symm,λj k hk=>?_⟩,aD⟩,λk hk=>?_⟩
    .have hj:j<G.length:=bk
     exact⟨G[j],getElem?_eq_getElem hj,(P.2 j _ _ (getElem?_eq_getElem hj) hk).mono d⟩
    .obtain⟨j,hj⟩:=mem_iff_getElem?.1 hk;have:=LO A j
     grind
   have t:∀(h':PH),PH.le L h'->∀r,fin r=Bv s ps (.mk op ta w co on gr od li args) ks->∀(g:Sl)(z:PH),PH.le h' z->Ints z g r.1->
    branch (r.2 !=0) (K (.tup [.val (.slice none 0 0),.val (.int .i64 r.2)]) m z) (branch (decide ((g.len:Int)>12)) (K (.tup [.val (.slice none 0 0),.val (.int .i64 2)]) m z) (K (.tup [.val (.slice g.a g.len g.cap),.val (.int .i64 0)]) m z)):=by
    intro h' d r hr g z M E;have J:PH.le h z:=(y.trans d).trans M;rw[<-hr]at B;have X:=E.slen;refine aC (λR=>?_) (λR=>aF (λd2=>?_) (λd2=>?_))
    .have R:r.2≠0:=bk
     exact B.err J (by unfold fin;grind)
    .have R:r.2=0:=bk
     exact B.big (l:=r.1) J (by unfold fin;grind) aD
    .have R:r.2=0:=bk
     exact B.ok (l:=r.1) J (by unfold fin;grind) aD E.row
   refine⟨v.op,rfl,?_⟩;rw[D];refine aC (λc1 g h' d f=>⟨⟨sc,p,v,g⟩,s,ps,_,ks,by rw[<-D],o g h' d f,C,beq_iff_eq.1 c1,t h' d⟩) (λc1=>?_);refine aC (λc2 g h' d f=>⟨⟨sc,p,v,g⟩,s,ps,_,ks,by rw[<-D],o g h' d f,C,beq_iff_eq.1 c2,t h' d⟩) (λc2=>?_);refine aC (λc3 g h' d f=>⟨⟨sc,p,v,g⟩,s,ps,_,ks,by rw[<-D],o g h' d f,C,beq_iff_eq.1 c3,t h' d⟩) (λc3=>?_);refine aC (λc4 g h' d f=>⟨⟨sc,p,v,g⟩,s,ps,_,ks,by rw[<-D],o g h' d f,C,beq_iff_eq.1 c4,t h' d⟩) (λc4=>?_);refine aC (λc5 g h' d f=>⟨⟨sc,p,v,g⟩,s,ps,_,ks,by rw[<-D],o g h' d f,C,beq_iff_eq.1 c5,t h' d⟩) (λc5=>?_);refine aC (λc6 g h' d f=>⟨⟨sc,p,v,g⟩,s,ps,_,ks,by rw[<-D],o g h' d f,C,.inl (beq_iff_eq.1 c6),t h' d⟩) (λc6=>?_);refine aC (λc7 g h' d f=>⟨⟨sc,p,v,g⟩,s,ps,_,ks,by rw[<-D],o g h' d f,C,.inr (.inl (beq_iff_eq.1 c7)),t h' d⟩) (λc7=>?_);refine aC (λc8 g h' d f=>⟨⟨sc,p,v,g⟩,s,ps,_,ks,by rw[<-D],o g h' d f,C,.inr (.inr (beq_iff_eq.1 c8)),t h' d⟩) (λc8=>?_);refine aC (λc9 g h' d f=>⟨⟨sc,p,v,g⟩,s,ps,_,ks,by rw[<-D],o g h' d f,C,beq_iff_eq.1 c9,t h' d⟩) (λc9=>?_);refine aC (λO g h' d f=>⟨⟨sc,p,v,g⟩,s,ps,_,ks,by rw[<-D],o g h' d f,C,beq_iff_eq.1 O,t h' d⟩) (λO=>B.err y ?_);refine zC λe=>?_;have:arity op= -1:=by simp only[arity];grind
   have:=e.1;simp only[Query.op]at this;omega
def fT:PV:=⟨0,0,dH,dH,⟨none,0,0⟩⟩
theorem BA(l:ce):jI 2 (l.map kX):=by
 constructor
 .intro e c;obtain⟨x,_,rfl⟩:=mem_map.1 c;rfl
 .intro e c u d;obtain⟨x,_,rfl⟩:=mem_map.1 c;simp[kX]at d;rcases d with rfl|rfl<;>rfl
theorem Bz(l:cg):jI 2 (l.map rN):=by
 constructor
 .intro e c;obtain⟨x,_,rfl⟩:=mem_map.1 c;rfl
 .intro e c u d;obtain⟨x,_,rfl⟩:=mem_map.1 c;simp[rN]at d;rcases d with rfl|rfl<;>rfl
theorem OR{n c:Nat}{α:Type}{enc:α->bx}{l:List α}(r:cD h ⟨none,n,c⟩ sz (l.map enc)):l=[]:=by
 rcases r.row with e|⟨b,o,e,_⟩
 .simpa using e
 .cases e
end Go.Ps
