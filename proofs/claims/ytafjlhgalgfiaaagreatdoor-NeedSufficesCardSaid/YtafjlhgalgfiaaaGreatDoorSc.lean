/- Own work. -/
import Derived.Test.YtafjlhgalgfiaaaGreatDoorSb
set_option linter.unusedVariables false
set_option linter.unusedSimpArgs false
namespace Go.Ps
open Go Go.Vc Go.Proofs List Tryz
variable{K:cn}{m:MH}{h:PH}{s:jP}{ps:cq}{cb:Nat}{sc:cA}{v:QV}{p:Pred}{l:cq}{i:Nat}{N:Nat}{m':MH}{h':PH}{co:cq}{gr:cq}{od:cv}{ta:Int}{li:Int}{xs:List cr}{sz:Nat}{ks:List cq}{rs:cq}{r:Sl}{a:cq}{b:Nat}
theorem Vh:Tryz.prog.underlying 9=some .string:=ax
theorem Dh:KeyLaw Tryz.prog 9 (λv=>∃s,v= .string s):=by
 refine⟨⟨_,Vh⟩,?_,?_,?_⟩
 .rintro _ w b ⟨s,rfl⟩
  have e:∀n:Nat,(Instr.checkKey b (n+1) 9 (.string s)).run Tryz.prog w= .ok () w:=λn=>by
   unfold Instr.checkKey;simp only[Sem.run_bind,run_underlying Vh,Result.andThen];simp
  exact e 9999
 .rintro _ _ w ⟨s,rfl⟩ ⟨t,rfl⟩;refine⟨_,run_equalIn_string w 9999 9 s t Vh,?_⟩;rw[beq_iff_eq];exact⟨λe=>by rw[Dd e],λe=>bg⟩
 .rintro d _ _ r c ⟨s,rfl⟩ ⟨t,rfl⟩ h;rw[Vh]at c;cases c;simp only[Instr.sameNow,bx]at h;subst h;rw[beq_toListBytes,beq_iff_eq];exact⟨λe=>by rw[Dd e],λe=>bg⟩
def gQ{α}(T:List α->α->Prop)(l:List α)(i:Nat):=∀j x,j<i->l[j]? =some x->T (l.take j) x
def Good{α}(T:List α->α->Prop)(l:List α):=∀(j:Nat) x,l[j]? =some x->T (l.take j) x
theorem gQ.zero{α}{T:List α->α->Prop}{l}:gQ T l 0:=λ_ _ h=>by omega
theorem gQ.succ{α}{T:List α->α->Prop}{l x}(h:gQ T l i)(hx:l[i]? =some x)(t:T (l.take i) x):gQ T l (i+1):=by
 intro j y d c;by_cases e:j=i
 .grind
 .exact h j y aC c
theorem gQ.all{α}{T:List α->α->Prop}{l}(h:gQ T l i)(d:l.length<=i):Good T l:=λj x c=>h j x bg c
theorem Good.not{α}{T:List α->α->Prop}{l x}(hx:l[i]? =some x)(t:¬T (l.take i) x):¬Good T l:=λh=>t (h i x hx)
def Zq(d:List qE)(c:qE):=qZ c.name=true/\gS c.kind=true/\c.name∉d.map qE.name
def Fy(c:List AE)(t:AE):=qZ t.name=true/\1<=t.key/\t.key<=t.columns.length/\t.name∉c.map AE.name/\Good Zq t.columns
def jB(s:jP)(t:Int):=if t<0 then[]else match s.tables[t.toNat]? with|none=>[]|some t=>t.columns.map qE.kind
def AS(s:jP)(t:Int):=decide (0<=t)&&decide (t<s.tables.length)
def aS(v:cA):CV:=.val (.agg ⟨v.enc⟩)
def oE(s:jP):=∀t∈s.tables,t.columns.length<=8
def cWZ:Vc.Spec:=λc m h K=>∃v s t,c=[aS v,cI t]/\iK h s v/\K (cB (AS s t)) m h
def vJ:Vc.Spec:=λc m h K=>∃v s t,c=[aS v,cI t]/\iK h s v/\oE s/\∀d h',PH.le h h'->Ints h' d (jB s t)->K (cS d) m h'
noncomputable def V0 m h:=
 dJ [] [(5,{A:=Nat×Sl×cq,st:=λx=>bZ 35 37 [(5,.at (.lst 32)),(22,sv x.2.1),(23,iv x.2.1.len),(24,iv x.1)] [(32,.lst 3 1 (x.2.2.map eI))] m h})] [] [] false
noncomputable def cpX m h:=
 dJ [(132,cWZ)] [(5,{A:=Nat×Sl×cq,st:=λx=>bZ 38 40 [(5,.at (.lst 19)),(25,sv x.2.1),(26,iv x.2.1.len),(27,iv x.1)] [(19,.lst 3 1 (x.2.2.map eI))] m h})] [] [] false
noncomputable abbrev kT(a:cA):=aG a.tables
attribute [push_cast] kT
def Ut(v:cA)(t:Int)(m:MH)(h:PH)(K:cn):=
  iG t 0 (K (As (decide (t<kT v))) m h) (K bG m h)
noncomputable abbrev Cd(a:cA):=a.tables.a
abbrev PQ(a:cA)(b:Int)(c:Nat->Nat->Sl->Prop):=bK (λx d=>aI (aW (Cd a) x d) (0<=b) (b<aG a.tables) (∃(e:Sl),c x d e))
noncomputable abbrev aM a:=oW (dX a)
abbrev PA(a:cA)(b:Int)(c:MH)(d:PH)(e g:Nat->Nat)(i:Nat)(j:Sl->Sl)(k:Sl->(Nat×Sl×cq->Prop)->(Nat×Sl×cq)->Prop)(l:(Nat×Sl×cq->Prop)->(Nat×Sl×cq->Nat)->(Nat×Sl×cq)->Prop):=PQ a b (λx t n=>aL c d (e x) (g t+iA b 5+i) (aM (j n))/\∃(o:Nat×Sl×cq->Prop)(u:Nat×Sl×cq->Nat),(∃(f:Nat×Sl×cq),k n o f)/\∀(f:Nat×Sl×cq),l o u f)
abbrev aZ a b:=sQs a=sQs b
noncomputable abbrev qA(a:Nat×Sl×cq):=a.2.1
abbrev bQ(a b:Sl):=bP a.len=bP b.len
noncomputable abbrev bV a b c:=Option.some (Own.lst a b c)
abbrev tG a:=bV 3 1 []=bV 3 1 (List.map eI a)
abbrev oC a:=a<=140737488355328
abbrev jA a b:=oC (a*b)
noncomputable abbrev j4(a:List cr)(b:Nat):=a.length+b
abbrev A4 a:=jA (j4 a 1) 8
noncomputable abbrev hU a:=List.map eI a
abbrev dR(a:List cr):=a.length<140737488355328
abbrev Py(a:Prop)(b:Nat×Sl×cq)(c:Int)(d:Nat->Nat->qE->Prop)(e:qE->(Nat×Sl×cq)->Prop)(g:Prop):=a->bA (↑b.1:Int) (aG (qA b)) (bK (λx f=>aI (aW (qA b).a x f) (c<=(↑b.1:Int)) ((↑b.1:Int)<aG (qA b)) (∃(j:qE),aI (d x f j) (A4 (hU b.2.2)) (dR (hU b.2.2)) (∃(n:Nat×Sl×cq),e j n)))) g
noncomputable abbrev sA a b:=j5 (Value.string a) (fV b)
abbrev lS a b:=bV 3 1 a=bV 3 1 (List.map eI b)
noncomputable abbrev lY(a:cr):=[a]
noncomputable abbrev dN a b:=a++lY b
abbrev Pz(a:Nat×Sl×cq)(b:qE)(c:Nat×Sl×cq):=lS (dN (hU a.2.2) (bC b.kind)) c.2.2
abbrev bR a b c d:=bF (PH.le a b) c d
abbrev cF(a:Nat->Nat->Option Value)(b:Nat)(c:List cr)(d:Sl->PH->Prop):=∀(x:Sl)(e:PH),bR a e (dD e x b c) (d x e)
abbrev uM(a:Nat->Nat->Option Value)(b:List cr)(c:cn)(d:MH):=cF a 1 b (λx e=>c (qW x) d e)
attribute [push_cast] Cd PQ aM PA aZ qA bQ bV tG oC jA j4 A4 hU dR Py sA lS lY dN Pz bR cF uM
def Ya v t m h K:=
  bA t 0 (K Ft m h) (iG t (kT v) (K Ft m h) (PA v t m h (λb=>b) (λo=>o) 1 (λy=>y) (λy I x=>aA (I x) (eL 32) (aA (aZ y (qA x)) (bQ y (qA x)) (aA (bE x.1) (tG x.2.2) (aA (m=m) (h=h) True)))) (λI d x=>Py (I x) x 0 (λb o y=>aL m h b (o+bM x.1 2) (sA y.name y.kind)) (λy c=>aA (I c) (d c<d x) (aA (eL 32) (aZ (qA x) (qA c)) (aA (bQ (qA x) (qA c)) (gX (bH x.1 1)=bP c.1) (aA (Pz x y c) (m=m) (bU h h))))) (uM h (hU x.2.2) K m))))
abbrev rE(a:cA->jP->Prop):=∃(x:cA)(c:jP),a x c
noncomputable abbrev AB(a:cA):=fV a.version
noncomputable abbrev AA(a:cA):=dX a.tables
noncomputable abbrev cN a:=j5 (AB a) (AA a)
abbrev Af(a:Int):=a<=281474976710656
abbrev Ah a b:=Af (aG a*b)
attribute [push_cast] rE AB AA cN Af Ah
def XZ v t m h K:=
  rE (λg s=>∃(j:Int),aA (fC (kE (cN v)) t=fC (kE (cN g)) j) (iK h s g) (oF (AS s j) (K Ft m h) (PQ v t (λb o y=>aA (aL m h b (o+iA t 5+1) (aM y)) (cM 0) (aA (cM (aG y)) (Ah y 8) (Af (aG y)/\PA v t m h (λe=>e) (λf=>f) 1 (λc=>c) (λc I x=>aA (I x) (eL 19) (aA (aZ c (qA x)) (bQ c (qA x)) (aA (bE x.1) (tG x.2.2) (aA (m=m) (h=h) True)))) (λI n x=>Py (I x) x 0 (λe f c=>aL m h e (f+bM x.1 2) (sA c.name c.kind)) (λc d=>aA (I d) (n d<n x) (aA (eL 19) (aZ (qA x) (qA d)) (aA (bQ (qA x) (qA d)) (gX (bH x.1 1)=bP d.1) (aA (Pz x c d) (m=m) (bU h h))))) (uM h (hU x.2.2) K m))))))))
theorem cR.part{o l}(r:cR h b o l) k n:cR h b (o+k) ((l.drop k).take n):=
 ⟨λi v e=>by
  have:l[k+i]? =some v:=by
   grind
  have:=r.rd (k+i) v this
  grind⟩
theorem Hi.at{s l}(r:Hi h s l){x}(c:l[i]? =some x):∃b o,s.a=some ⟨b,o,none⟩/\cR h b (o+i*2) (qE.enc x):=by
 obtain⟨b,o,v,e,k,rfl⟩:=bN.at r c
 grind
theorem HF{t:Int}(h:¬(0<=t/\t<s.tables.length)):jB s t=[]:=by
 unfold jB
 grind
theorem OD{t x}(h:0<=t)(hx:s.tables[t.toNat]? =some x):jB s t=x.columns.map qE.kind:=by
 unfold jB
 grind
theorem iK.table{v}(c:iK h s v){t}(f:0<=t)(g:t<(v.tables.len:Int)):∃x b o w,s.tables[t.toNat]? =some x/\v.tables.a=some ⟨b,o,none⟩/\cR h b (o+t.toNat*5) (cY.enc w)/\Sc h x w:=by
 have j:=c.tables.slen;have d:s.tables[t.toNat]? =some (s.tables[t.toNat]'(by omega)):=bn _;obtain⟨b,o,w,e,r,k⟩:=c.tables.at d
 grind
theorem j3{α β}{f:α->β}{l:List α}{x}(hx:l[i]? =some x):(l.take (i+1)).map f=(l.take i).map f++[f x]:=by
 rw[cd,hx];simp
theorem RR:cm 132 cWZ:=by
 refine iU func132 ?_;rintro e m h K ⟨v,s,t,rfl,f,d⟩;refine⟨dJ [] [] [] [] false,rfl,aH,Ut v t m h K,ax,?_⟩;dsimp only[Ut,push_cast];have g:=f.tables.slen;refine aF (λc=>kM d ?_) (λc=>kM d ?_)
 .have c:0<=t:=c;simp only[AS,g,decide_eq_true c,Bool.true_and]
 .have c:¬0<=t:=by omega
  simp only[AS,decide_eq_false c,Bool.false_and]
theorem I7:cm 45 vJ:=by
 refine iU func45 ?_;rintro D m h K ⟨v,s,t,rfl,A,E,n⟩;refine⟨V0 m h,rfl,aH,Ya v t m h K,ax,?_⟩;dsimp only[Ya,push_cast];have M:=A.tables.slen;have d:jB s t=[]->K (.val (.slice none 0 0)) m h:=λe=>n ⟨none,0,0⟩ h (.refl _) (by rw[e];exact⟨.nil _ _,ay⟩);refine aF (λF=>d (HF aC)) (λF=>aF (λG=>d (HF aC)) (λG=>?_));obtain⟨x,b,o,w,B,H,I,f⟩:=A.table (t:=t) aC aC;have J:=E x (bo B);have u:=bN.slen f.columns;rw[OD aC B]at n;refine⟨b,o,H,aC,aC,w.columns,.imm (cR.part I 1 1),λ⟨i,y,l⟩=>y=w.columns/\i<=x.columns.length/\l=(x.columns.take i).map qE.kind,λ⟨i,_,_⟩=>x.columns.length-i,⟨(0,w.columns,[]),⟨rfl,ay,ay⟩,MT⟩,?_⟩;rintro⟨i,_,_⟩ ⟨rfl,O,rfl⟩;dsimp only;refine aF (λj=>?_) (λL y h' z g=>?_)
 .obtain⟨c,C⟩:=fF u j;obtain⟨b,o,e,r⟩:=Hi.at f.columns C;refine⟨b,o,e,aC,j,c,.imm r,?_,?_,(i+1,w.columns,(x.columns.take (i+1)).map qE.kind),⟨rfl,aC,rfl⟩,aC,?_⟩
  .simp;omega
  .simp;omega
  .rw[j3 C,bu];exact MT
 .rw[bt aC]at g;exact n y h' z ⟨g,bf⟩
theorem Fo:cm 69 vJ:=by
 refine iU func69 ?_;rintro G m h K ⟨v,s,t,rfl,n,H,u⟩;refine⟨cpX m h,rfl,aE RR aH,XZ v t m h K,ax,?_⟩;dsimp only[XZ,push_cast];have L:=n.tables.slen;have g:jB s t=[]->K (.val (.slice none 0 0)) m h:=λe=>u ⟨none,0,0⟩ h (.refl _) (by rw[e];exact⟨.nil _ _,ay⟩);refine⟨v,s,t,rfl,n,aD (λy=>g (HF ?_)) (λy=>?_)⟩
 .simp only[AS,Bool.not_eq_true',Bool.and_eq_false_iff,decide_eq_false_iff_not]at y;omega
 simp only[AS,Bool.not_eq_false',bz,ce]at y;obtain⟨x,b,o,w,C,D,E,d⟩:=n.table (t:=t) aC aC;have I:=H x (bo C);have z:=bN.slen d.columns;rw[OD aC C]at u;refine⟨b,o,D,aC,aC,w.columns,.imm (cR.part E 1 1),aC,aC,aC,aC,b,o,D,aC,aC,w.columns,.imm (cR.part E 1 1),λ⟨i,A,l⟩=>A=w.columns/\i<=x.columns.length/\l=(x.columns.take i).map qE.kind,λ⟨i,_,_⟩=>x.columns.length-i,⟨(0,w.columns,[]),⟨rfl,ay,ay⟩,MT⟩,?_⟩;rintro⟨i,_,_⟩ ⟨rfl,M,rfl⟩;dsimp only;refine aF (λj=>?_) (λJ A h' B f=>?_)
 .obtain⟨c,F⟩:=fF z j;obtain⟨b,o,e,r⟩:=Hi.at d.columns F;refine⟨b,o,e,aC,j,c,.imm r,?_,?_,(i+1,w.columns,(x.columns.take (i+1)).map qE.kind),⟨rfl,aC,rfl⟩,aC,?_⟩
  .simp;omega
  .simp;omega
  .rw[j3 F,bu];exact MT
 .rw[bt aC]at f;exact u A h' B ⟨f,bf⟩
def Sub(m m':MH):=∀b o,m b=some o->m' b=some o
theorem Sub.refl m:Sub m m:=λ_ _ e=>e
theorem Sub.free(h:Sub m m')(c:m' b=none):m b=none:=by
 cases e:m b with
 |none=>rfl
 |some o=>rw[h b o e]at c;cases c
theorem Sub.upd{f}(h:Sub m f)(j:m b=none)(g:∀c,c≠b->m' c=f c):Sub m m':=λc o e=>by
 have d:c≠b:=λn=>bg
 rw[g c d,h c o e]
def N2(m:MH)(b:Nat)(c:List ByteArray):=u6 m b (c.map λn=>(.string n,.bool true))
theorem N2.other{d e}(h:N2 m b e)(f:b≠d)(o:∀c,c≠d->m' c=m c):N2 m' b e:=by
 obtain⟨g,j,t,n⟩:=h.ex;exact⟨g,j,bg,n⟩
def b7Z:Vc.Spec:=λc m h K=>∃v s,c=[aS v]/\iK h s v/\∀r:Bool,(r=true↔Good Fy s.tables)->K (cB r) m h
def b2X:Vc.Spec:=λc m h K=>∃v s t,∃i:Nat,c=[aS v,cI i]/\iK h s v/\s.tables[i]? =some t/\∀r:Bool,(r=true↔Fy (s.tables.take i) t)->K (cB r) m h
noncomputable def bSZ(v:cA)(h:PH):=
 dJ [(183,aWQ)] [(3,{A:=Nat×Nat×MH,st:=λ⟨i,c,d⟩=>bZ 79 80 [(3,vv (.map (some c))),(11,sv v.tables),(12,iv v.tables.len),(13,iv i)] [] d h}),
  (10,{A:=Nat×Nat×Nat×Nat×Sl×MH,st:=λ⟨i,k,c,f,e,d⟩=>bZ 79 80 [(3,vv (.map (some c))),(6,vv (.map (some f))),(11,sv v.tables),(12,iv v.tables.len),(13,iv i),(45,sv e),(46,iv e.len),(47,iv k)] [] d h})] [] [] false
noncomputable def bVX(v:cA)(i:Nat)(m:MH)(h:PH):=
 dJ [(173,aWQ),(123,b8X)] [(5,{A:=Nat×cY,st:=λ⟨k,w⟩=>bZ 94 96 [(1,iv i),(2,.at (.ptr 2 0)),(5,.at (.ptr 5 0)),(6,iv k)] [(2,.cells 27 (v.enc.map .val)),(5,.cells 73 (w.enc.map .val))] m h}),
  (10,{A:=Nat×cY,st:=λ⟨k,w⟩=>bZ 94 96 [(5,.at (.ptr 5 0)),(53,iv w.columns.len),(54,iv k)] [(5,.cells 73 (w.enc.map .val))] m h}),
  (15,{A:=Nat×Nat×cY,st:=λ⟨k,j,w⟩=>bZ 94 96 [(5,.at (.ptr 5 0)),(7,iv k),(8,iv j),(53,iv w.columns.len),(54,iv k)] [(5,.cells 73 (w.enc.map .val))] m h})] [] [] false
abbrev xO(a:MH)(b:PH)(c:Nat->MH->Prop):=∀(x:Nat)(d:MH),bF (cK a b x) (lK a d x (Obj.map (Array.mk []) 0)) (c x d)
noncomputable abbrev Dt a:=Value.map (Option.some a)
abbrev kZ a b:=SV.at (At.val (Dt a))=SV.at (At.val (Dt b))
abbrev uE(a:cA):=aJ a.tables
abbrev kJ(a:cA):=bJ a.tables
abbrev Im(a:Prop)(b:Nat)(c:cA)(d:Nat->Nat->cY->Prop)(e:Prop):=a->bA (↑b:Int) (aG c.tables) (bK (λx f=>aI (aW (Cd c) x f) (0<=(↑b:Int)) ((↑b:Int)<aG c.tables) (∃(g:cY),d x f g))) e
noncomputable abbrev Bq(a:cY):=aX (Value.string a.name) (dX a.columns) (aX (fV a.key) (dX a.references) (aM a.checks))
noncomputable abbrev sE a:=CV.val (Value.string a)
abbrev mY(a:cn)(b:Nat×Nat×MH)(c:PH):=a bG (i7 b) c
abbrev Ds a:=KeyLaw Proofs.Tryz.prog 9 a
noncomputable abbrev Bx(a:cY):=Value.string a.name
abbrev Gx(a:Value×Bool)(b:dv)(c:Value):=bF (List.Mem a b) (a.1=c) False
noncomputable abbrev BD(a:cY):=aG a.columns
abbrev ZQ(a:db->(Value->Prop)->Prop):=∃(x:db)(c:Value->Prop),a x c
abbrev LG(a:Nat->Option Obj)(b:Nat)(c:(Value->Prop)->Prop)(d:db->db)(e:(Value×Value)->Value×Value)(g:Value)(i:db->Prop):=ZQ (λx j=>aA (u6 a b x) (Ds j) (aA (c j) (∀(f:Value×Value),List.Mem f x->j f.1) ((∀(f:Value×Value),bF (List.Mem f (d x)) ((e f).1=g) False)/\i x)))
noncomputable abbrev gZ(a:db)(b c:Value)(d:db):=a++(b,c)::d
noncomputable abbrev Du:=Value.bool true
noncomputable abbrev GH a b:=gZ a b Du []
noncomputable abbrev EK(a:Nat×Nat×Nat×Nat×Sl×MH):=a.2.2.2.1
abbrev cG a b:=bP a=bP b
noncomputable abbrev yL(a:Nat×Nat×Nat×Nat×Sl×MH):=a.2.2.2.2.1
noncomputable abbrev wV(a:Nat×Nat×Nat×Nat×Sl×MH):=a.2.2.2.2.2
noncomputable abbrev EE(a:qE):=Value.string a.name
abbrev KV(a:Nat×Nat×Nat×Nat×Sl×MH)(b:qE)(c:MH->Prop):=LG (wV a) (EK a) (λx=>x (EE b)) (λx=>x) (λx=>x) (EE b) (λx=>∀(d:MH),bF (j6 (wV a) d (EK a)) (u6 d (EK a) (GH x (EE b))) (c d))
abbrev vR(a:qE)(b:Int)(c:Prop)(d:Nat×Nat×Nat×Nat×Sl×MH->Prop)(e:Nat×Nat×Nat×Nat×Sl×MH->Nat)(g:Nat×Nat×Nat×Nat×Sl×MH)(i:cA)(j:(Nat×Nat×Nat×Nat×Sl×MH)->Prop):=branch (a.kind !=b) c (∃(x:Nat×Nat×Nat×Nat×Sl×MH),aA (d x) (e x<e g) (aA (kZ g.2.2.1 x.2.2.1) (kZ (EK g) (EK x)) (aA (aJ i.tables) (kJ i) (aA (cG g.1 x.1) (aZ (yL g) (yL x)) (j x)))))
abbrev vU(a b:Nat×Nat×Nat×Nat×Sl×MH)(c:MH)(d:PH):=aA (bQ (yL a) (yL b)) (gX (bH a.2.1 1)=bP b.2.1) (aA (c=wV b) (d=d) True)
attribute [push_cast] xO Dt kZ uE kJ Im Bq sE mY Ds Bx Gx BD ZQ LG gZ Du GH EK cG yL wV EE KV vR vU
def NH v m h K:=
  xO m h (λb H=>∃(I:Nat×Nat×MH->Prop)(D:Nat×Nat×MH->Nat),PU (λx=>aA (I x) (kZ b (kA x)) (aA (uE v) (kJ v) (dL (bE x.1) H (i7 x) h h))) (λx=>Im (I x) x.1 v (λJ o y=>aL (i7 x) h J (o+bM x.1 5) (Bq y)/\∃(s:ByteArray),iF (fY (sE y.name) (sE s)) (!(qZ s)) (mY K x h) (∃(k:dv)(O:Value->Prop),aA (u6 (i7 x) (kA x) (List.map (fun(p:Value×Bool)=>(p.1,Value.bool p.2)) k)) (Ds O) (aA (O (Bx y)) (∀(e:Value×Bool),List.Mem e k->O e.1) (((∀(e:Value×Bool),Gx e k (Bx y))->bA y.key 1 (mY K x h) (fZ y.key (BD y) (mY K x h) (LG (i7 x) (kA x) (λO1=>O1 (Bx y)) (λu=>u) (λe=>e) (Bx y) (λu=>∀(z:MH),bF (j6 (i7 x) z
 (kA x)) (u6 z (kA x) (GH u (Bx y))) (xO z h (λE F=>∃(I1:Nat×Nat×Nat×Nat×Sl×MH->Prop)(n:Nat×Nat×Nat×Nat×Sl×MH->Nat),(∃(c:Nat×Nat×Nat×Nat×Sl×MH),aA (I1 c) (kZ (kA x) c.2.2.1) (aA (kZ E (EK c)) (uE v) (aA (kJ v) (cG x.1 c.1) (aA (aZ y.columns (yL c)) (bQ y.columns (yL c)) (dL (bE c.2.1) F (wV c) h h)))))/\∀(c:Nat×Nat×Nat×Nat×Sl×MH),I1 c->bA (↑c.2.1:Int) (aG (yL c)) (bK (λA B=>aI (aW (yL c).a A B) (0<=(↑c.2.1:Int)) ((↑c.2.1:Int)<aG (yL c)) (∃(g:qE),aL (wV c) h A (B+bM c.2.1 2) (sA g.name g.kind)/\∃(C:ByteArray),iF (fY (sE g.name) (sE C)) (!(qZ C)) (K bG (wV c) h) (∃(t:dv)(O1:
 Value->Prop),aA (u6 (wV c) (EK c) (List.map (fun(p:Value×Bool)=>(p.1,Value.bool p.2)) t)) (Ds O1) (aA (O1 (EE g)) (∀(e:Value×Bool),List.Mem e t->O1 e.1) (((∀(e:Value×Bool),Gx e t (EE g))->KV c g (λf=>vR g 3 (vR g 4 (vR g 5 (K bG f h) I1 n c v (λd=>vU c d f h)) I1 n c v (λd=>vU c d f h)) I1 n c v (λd=>vU c d f h)))/\∀(j:Bool),hX (List.Mem (EE g,j) t) j (K bG (wV c) h) (KV c g (λf=>vR g 3 (vR g 4 (vR g 5 (K bG f h) I1 n c v (λd=>vU c d f h)) I1 n c v (λd=>vU c d f h)) I1 n c v (λd=>vU c d f h))))))))) (∃(d:Nat×Nat×MH),aA (I d) (D d<D x) (aA (kZ c.2.2.1 (kA d)) (uE v) (aA (kJ v) (gX (bH c.1 1)
 =bP d.1) (aA (wV c=i7 d) (h=h) True))))))))))/\∀(g:Bool),hX (List.Mem (Bx y,g) k) g (mY K x h) (bA y.key 1 (mY K x h) (fZ y.key (BD y) (mY K x h) (LG (i7 x) (kA x) (λO1=>O1 (Bx y)) (λu=>u) (λe=>e) (Bx y) (λu=>∀(z:MH),bF (j6 (i7 x) z (kA x)) (u6 z (kA x) (GH u (Bx y))) (xO z h (λE F=>∃(I1:Nat×Nat×Nat×Nat×Sl×MH->Prop)(n:Nat×Nat×Nat×Nat×Sl×MH->Nat),(∃(c:Nat×Nat×Nat×Nat×Sl×MH),aA (I1 c) (kZ (kA x) c.2.2.1) (aA (kZ E (EK c)) (uE v) (aA (kJ v) (cG x.1 c.1) (aA (aZ y.columns (yL c)) (bQ y.columns (yL c)) (dL (bE c.2.1) F (wV c) h h)))))/\∀(c:Nat×Nat×Nat×Nat×Sl×MH),I1 c->bA (↑c.2.1:Int) (aG
 (yL c)) (bK (λA B=>aI (aW (yL c).a A B) (0<=(↑c.2.1:Int)) ((↑c.2.1:Int)<aG (yL c)) (∃(j:qE),aL (wV c) h A (B+bM c.2.1 2) (sA j.name j.kind)/\∃(C:ByteArray),iF (fY (sE j.name) (sE C)) (!(qZ C)) (K bG (wV c) h) (∃(t:dv)(O1:Value->Prop),aA (u6 (wV c) (EK c) (List.map (fun(p:Value×Bool)=>(p.1,Value.bool p.2)) t)) (Ds O1) (aA (O1 (EE j)) (∀(e:Value×Bool),List.Mem e t->O1 e.1) (((∀(e:Value×Bool),Gx e t (EE j))->KV c j (λf=>vR j 3 (vR j 4 (vR j 5 (K bG f h) I1 n c v (λd=>vU c d f h)) I1 n c v (λd=>vU c d f h)) I1 n c v (λd=>vU c d f h)))/\∀(G:Bool),hX (List.Mem (EE j,G) t) G (K bG (wV c)
 h) (KV c j (λf=>vR j 3 (vR j 4 (vR j 5 (K bG f h) I1 n c v (λd=>vU c d f h)) I1 n c v (λd=>vU c d f h)) I1 n c v (λd=>vU c d f h))))))))) (∃(d:Nat×Nat×MH),aA (I d) (D d<D x) (aA (kZ c.2.2.1 (kA d)) (uE v) (aA (kJ v) (gX (bH c.1 1)=bP d.1) (aA (wV c=i7 d) (h=h) True)))))))))))))) (K iQ (i7 x) h)))
abbrev Pt(a:(Nat×cY->Prop)->(Nat×cY)->Prop)(b:(Nat×cY->Prop)->(Nat×cY->Nat)->(Nat×cY)->Prop):=∃(x:Nat×cY->Prop)(d:Nat×cY->Nat),(∃(c:Nat×cY),a x c)/\∀(c:Nat×cY),b x d c
noncomputable abbrev KT(a:cA):=kF a.version
noncomputable abbrev KS(a:cA):=BY a.tables
abbrev cL a:=eQ (oQ 27 (oT (KT a) (KS a)))
noncomputable abbrev DX(a:At):=[a]
noncomputable abbrev pG a:=DX (BY a)
noncomputable abbrev iW(a:cY):=gL (NW a.name) (BY a.columns) (gL (kF a.key) (BY a.references) (pG a.checks))
abbrev Gf(a:cY)(b:Nat×cY):=oQ 73 (iW a)=oQ 73 (iW b.2)
abbrev PT(a:Option Addr)(b:Int)(c:Nat)(d:Sl)(e:Nat->Nat->ByteArray->Prop):=bK (λx f=>aI (aW a x f) (b<=(↑c:Int)) ((↑c:Int)<aG d) (∃(g:ByteArray),e x f g))
noncomputable abbrev uS(a:Nat×Nat×cY):=a.2.1
noncomputable abbrev nY(a:Nat×Nat×cY):=a.2.2
attribute [push_cast] Pt KT KS cL DX pG iW Gf PT uS nY
def UC(v:cA)(i:Nat)(m:MH)(h:PH)(K:cn):=
  bK (λb o=>aI (aW (Cd v) b o) (0<=(↑i:Int)) ((↑i:Int)<aG v.tables) (∃(y:cY),aL m h b (o+bM i 5) (Bq y)/\∃(s:ByteArray),fY (sE y.name) (sE s)/\dP (!(qZ s)) (K bG m h) (BD y==0) (K bG m h) (bA y.key 1 (K bG m h) (fZ y.key (BD y) (K bG m h) (Pt (λI x=>aA (I x) (eQ (bP i)) (aA (eP 2) eM (aA (bE x.1) (cL v) (aA (Gf y x) (m=m) (bU h h))))) (λI n x=>I x->bA (↑x.1:Int) (↑i:Int) (PT (Cd v) 0 x.1 v.tables (λg j f=>aL m h g (j+bM x.1 5+0) (oW (Value.string f))/\branch (f.toList==x.2.name.toList) (K bG m h) (∃(c:Nat×cY),aA (I c) (n c<n x) (aA (eQ (bP i)) iZ (aA eM (gX (bH x.1 1)=bP c.1) (aA (cL v) (Gf x.2 c) (eG m m h h))))))) (Pt (λI1 c
 =>aA (I1 c) eM (aA (bQ x.2.columns c.2.columns) (bE c.1) (dL (Gf x.2 c) m m h h))) (λI1 t c=>I1 c->bA (↑c.1:Int) (aG c.2.columns) (bK (λg j=>aI (aW c.2.columns.a g j) (0<=(↑c.1:Int)) ((↑c.1:Int)<aG c.2.columns) (∃(f:ByteArray),aL m h g (j+bM c.1 2+0) (oW (Value.string f))/\∃(u:ByteArray),iF (fY (sE f) (sE u)) (!(qZ u)) (K bG m h) (bK (λz A=>aI (aW c.2.columns.a z A) (0<=(↑c.1:Int)) ((↑c.1:Int)<aG c.2.columns) (∃(B:Int),aL m h z (A+bM c.1 2+1) (bC B)/\∃(k:Int),iF (sB B k) (!(gS k)) (K bG m h) (∃(I2:Nat×Nat×cY->Prop)(C:Nat×Nat×cY->Nat),(∃(d:Nat×Nat×cY),aA (I2 d) eM (aA (cG c.1 d.1) (bE (uS d)) (aA (bQ c.2.columns
 (nY d).columns) (cG c.1 d.1) (aA (oQ 73 (iW c.2)=oQ 73 (iW (nY d))) (m=m) (bU h h)))))/\∀(d:Nat×Nat×cY),I2 d->bA (↑(uS d):Int) (↑d.1:Int) (PT (nY d).columns.a 0 (uS d) (nY d).columns (λF G D=>aL m h F (G+bM (uS d) 2+0) (oW (Value.string D))/\PT (nY d).columns.a 0 d.1 (nY d).columns (λH J E=>aL m h H (J+bM d.1 2+0) (oW (Value.string E))/\branch (D.toList==E.toList) (K bG m h) (∃(e:Nat×Nat×cY),aA (I2 e) (C e<C d) (aA eM (cG d.1 e.1) (aA (gX (bH (uS d) 1)=bP (uS e)) (bQ (nY d).columns (nY e).columns) (aA (cG d.1 e.1) (oQ 73 (iW (nY d))=oQ 73 (iW (nY e))) (eG m m h h)))))))) (∃(e:Nat×cY),aA (I1 e) (t e<t c) (aA
 eM (bQ (nY d).columns e.2.columns) (aA (gX (bH d.1 1)=bP e.1) (Gf (nY d) e) (aA (m=m) (h=h) True))))))))))) (K iQ m h)))))))))
theorem N2.snoc{c n}(h:u6 m b ((c.map λn=>(Value.string n,Value.bool true))++[(.string n,.bool true)])):N2 m b (c++[n]):=by
 unfold N2;grind
theorem N2.look{c}(h:N2 m b c):u6 m b (List.map (λp:Value×Bool=>(p.fst,Value.bool p.snd)) (c.map λn=>(Value.string n,true))):=by
 rw[map_map];exact h
theorem KO{β}{c:List ByteArray}{x}:∀e:Value×β,e∈(c.map λn=>(Value.string n,x))->∃s,e.fst= .string s:=λe d=>by
 grind
theorem Xo{β}{c:List ByteArray}{x n}(h:n∉c):∀e:Value×β,e∈(c.map λn=>(Value.string n,x))->e.fst= .string n->False:=λe d h'=>by
 grind
theorem Il{β}{c:List ByteArray}{x n}(h:∀e:Value×β,e∈(c.map λn=>(Value.string n,x))->e.fst= .string n->False):n∉c:=λd=>h (.string n,x) (mem_map.2 ⟨n,d,rfl⟩) rfl
theorem Xp{β}{c:List ByteArray}{x:β}{y n}(h:(Value.string n,y)∈(c.map λn=>(Value.string n,x))):n∈c/\y=x:=by
 grind
theorem atX:cm 136 b7Z:=by
 refine Fh func136 ?_;rintro b' m h K ⟨v,s,rfl,hs,hK⟩;refine⟨bSZ v h,rfl,aE akJ aH,NH v m h (lW h K),ax,?_⟩;show NH v m h (lW h K);dsimp only[NH,push_cast];have hl:=hs.tables.slen;have a8:=hs.tables.len;have hf:¬Good Fy s.tables->K (cB false) m h:=λh=>hK false ⟨λe=>(by cases e),λe=>(h e).elim⟩;intro b m1 hb S;refine⟨λ⟨i,C,mx⟩=>i<=s.tables.length/\Sub m mx/\m C=none/\N2 mx C ((s.tables.take i).map AE.name)/\gQ Fy s.tables i,λ⟨i,_,_⟩=>s.tables.length-i,⟨(0,b,m1),⟨aC,(Sub.refl m).upd hb.m_ S.other,hb.m_,⟨_,_,S.at_,rfl⟩,.zero⟩,MT⟩,?_⟩;rintro⟨i,C,mx⟩ ⟨hi,n,T,E,u⟩;dsimp only;refine aF (λU=>?_) (λb0=>.sub n (hK true ⟨λ_=>u.all aC,λ_=>rfl⟩));obtain⟨t,V⟩:=fF hl U;obtain⟨bb,o,w,ea,hr,f⟩:=hs.tables.at V;have a3:=bN.slen f.columns;have b3:=bN.len f.columns;have W:=f.name;have b4:=f.key;have bad:¬Fy (s.tables.take i) t->lW h K (.val (.bool false)) mx h:=λhn=>.sub n (hf (Good.not V hn));have X:t.name∉(s.tables.take i).map AE.name->qZ w.name=true->1<=w.key->w.key<=w.columns.len->Good Zq t.columns->Fy (s.tables.take i) t:=λh1 h2 h3 h4 h5=>⟨bg,aC,aC,h1,h5⟩
 refine⟨bb,o,ea,aC,U,w,.imm hr,w.name,rfl,aD (λh1=>bad λg=>?_) (λh1=>⟨_,_,E.look,Dh,⟨_,rfl⟩,KO,λY=>aF (λh2=>bad λg=>?_) (λh2=>aF (λh3=>bad λg=>?_) (λh3=>⟨_,_,E,Dh,⟨_,rfl⟩,KO,Xo (Il Y),λm2 a4 z R m3 J L=>?_⟩)),λy hy=>?_⟩)⟩
 .have:=g.1;grind
 .have:=g.2.1;omega
 .have:=g.2.2.1;omega
 .have z:=N2.snoc z;have j:Sub m m2:=n.upd T a4.other;have M:Sub m m3:=j.upd (j.free J.m_) L.other
  have Z:C≠R:=λe=>by
   obtain⟨es,cl,e1,_⟩:=z.ex;rw[e,J.m_]at e1;cases e1
  have a':t.name∉(s.tables.take i).map AE.name:=by rw[<-W];exact Il Y
  rw[W, <-j3 V]at z
  refine⟨λ⟨i',k,a5,a6,sl,O⟩=>i'=i/\a5=C/\a6=R/\sl=w.columns/\k<=t.columns.length/\Sub m O/\N2 O C ((s.tables.take (i+1)).map AE.name)/\N2 O R ((t.columns.take k).map qE.name)/\gQ Zq t.columns k,λ⟨_,k,_,_,_,_⟩=>t.columns.length-k,
   ⟨(i,0,C,R,w.columns,m3),⟨rfl,rfl,rfl,rfl,aC,M,z.other Z L.other,⟨_,_,L.at_,rfl⟩,.zero⟩,MT⟩,?_⟩
  rintro⟨i,k,C,R,_,O⟩ ⟨rfl,rfl,rfl,rfl,hk,d,F,G,a0⟩;dsimp only;refine aF (λH=>?_) (λa9=>?_)
  .obtain⟨c,hc⟩:=fF a3 H;obtain⟨bc,oc,ec,rc⟩:=Hi.at f.columns hc;have A:∀mz,Sub m mz->¬Zq (t.columns.take k) c->lW h K (.val (.bool false)) mz h:=λmz hz hn=>.sub hz (hf (Good.not V (λg=>Good.not hc hn g.2.2.2.2)));refine⟨bc,oc,ec,aC,H,c,.imm rc,c.name,rfl,aD (λh4=>A O d λg=>?_) (λh4=>⟨_,_,G.look,Dh,⟨_,rfl⟩,KO,λI=>⟨_,_,G,Dh,⟨_,rfl⟩,KO,Xo (Il I),λm4 a1 D=>?_⟩,λy hy=>?_⟩)⟩
   .rw[g.1]at h4;cases h4
   .have D:=N2.snoc D;rw[<-j3 hc]at D;have B:Sub m m4:=d.upd (j.free J.m_) a1.other;have P:gS c.kind=true->Zq (t.columns.take k) c:=λe=>⟨bg,e,Il I⟩
    have Q:gS c.kind=false->¬Zq (t.columns.take k) c:=λe g=>by rw[g.2.1]at e;cases e
    have a7:=F.other Z a1.other
    repeat' (first|(refine aD (λ_=>?_) (λ_=>?_))|(refine A m4 B (Q ?_);simp_all [gS];done)|exact⟨(i,k+1,C,R,w.columns,m4),⟨rfl,rfl,rfl,rfl,bj,B,a7,D,a0.succ hc (P (by simp_all [gS]))⟩,bi,MT⟩)
   .obtain⟨a2,rfl⟩:=Xp hy;exact aD (λ_=>A O d λg=>g.2.2 a2) (λe=>by cases e)
  .refine⟨(i+1,C,O),⟨aC,d,T,F,u.succ V (X a' bg aC aC (a0.all aC))⟩,?_,MT⟩;omega
 .obtain⟨a2,rfl⟩:=Xp hy;exact aD (λ_=>bad λg=>g.2.2.2.1 bg) (λe=>by cases e)
theorem QL{α}{f:α->ByteArray}{l:List α}{x n}(hx:l[i]? =some x)(h:n∉(l.take i).map f)(c:f x≠n):n∉(l.take (i+1)).map f:=by
 rw[j3 hx,mem_append]
 grind
theorem cFJ{α}{f:α->ByteArray}{l:List α}{k x n}(hx:l[i]? =some x)(d:i<k)(c:f x=n):n∈(l.take k).map f:=
 mem_map.2 ⟨x,mem_of_getElem? (i:=i) bg,c⟩
theorem auZ:cm 121 b2X:=by
 refine iU func121 ?_;rintro a2 m h K ⟨v,s,t,i,rfl,F,U,V⟩;refine⟨bVX v i m h,rfl,aE amZ (aE RT aH),UC v i m h K,ax,?_⟩;dsimp only[UC,push_cast];have hl:=F.tables.slen;have W:=F.tables.len;have a3:i<s.tables.length:=(bm U);have bad:¬Fy (s.tables.take i) t->K (.val (.bool false)) m h:=λh=>V false ⟨λe=>(by cases e),λe=>(h e).elim⟩;obtain⟨bb,o,w,ea,hr,d⟩:=F.tables.at U;have G:=bN.slen d.columns;have a4:=bN.len d.columns;have D:=d.name;have a5:=d.key;refine⟨bb,o,ea,aC,aC,w,.imm hr,w.name,rfl,aD (λh1=>bad λf=>?_) (λh1=>aD (λh2=>bad λf=>?_) (λh2=>aF (λh3=>bad λf=>?_) (λh3=>aF (λh4=>bad λf=>?_) (λh4=>?_))))⟩
 .have:=f.1;grind
 .have:=f.2.1;have:=f.2.2.1;grind
 .have:=f.2.1;omega
 .have:=f.2.2.1;omega
 refine⟨λ⟨k,A⟩=>A=w/\k<=i/\t.name∉(s.tables.take k).map AE.name,λ⟨k,_⟩=>i-k,⟨(0,w),⟨rfl,aC,ay⟩,MT⟩,?_⟩;rintro⟨k,w⟩ ⟨rfl,hk,E⟩;dsimp only;refine aF (λg=>?_) (λa6=>?_)
 .obtain⟨X,B⟩:∃X,s.tables[k]? =some X:=⟨s.tables[k]'(by omega),bn _⟩
  obtain⟨b',o',A,H,I,n⟩:=F.tables.at B;refine⟨b',o',H,aC,aC,A.name,.imm (cR.part I 0 1),aD (λe=>bad λf=>?_) (λe=>?_)⟩
  .refine f.2.2.2.1 (cFJ B aC ?_);rw[<-n.name, <-D];exact Dd (bk e)
  .refine⟨(k+1,w),⟨rfl,aC,QL B E λY=>?_⟩,aC,MT⟩;rw[<-n.name, <-D]at Y
   grind
 .have J:k=i:=by omega
  subst J;refine⟨λ⟨k,A⟩=>A=w/\k<=t.columns.length/\gQ Zq t.columns k,λ⟨k,_⟩=>t.columns.length-k,⟨(0,w),⟨rfl,aC,.zero⟩,MT⟩,?_⟩;rintro⟨c,w⟩ ⟨rfl,hc,Z⟩;dsimp only;refine aF (λg=>?_) (λa'=>V true ⟨λ_=>⟨bg,aC,aC,E,Z.all aC⟩,λ_=>rfl⟩);obtain⟨x,C⟩:=fF G g;obtain⟨L,M,O,P⟩:=Hi.at d.columns C;have u:¬Zq (t.columns.take c) x->K (.val (.bool false)) m h:=λhn=>bad λf=>Good.not C hn f.2.2.2.2;refine⟨L,M,O,aC,g,x.name,.imm (cR.part P 0 1),x.name,rfl,aD (λQ=>u λf=>?_) (λQ=>⟨L,M,O,aC,g,x.kind,.imm (cR.part P 1 1),x.kind,rfl,aD (λR=>u λf=>?_) (λR=>?_)⟩)⟩
  .rw[f.1]at Q;cases Q
  .rw[f.2.1]at R;cases R
  refine⟨λ⟨c',j,A⟩=>A=w/\c'=c/\j<=c/\x.name∉(t.columns.take j).map qE.name,λ⟨_,j,_⟩=>c-j,⟨(c,0,w),⟨rfl,rfl,aC,ay⟩,MT⟩,?_⟩;rintro⟨c,j,w⟩ ⟨rfl,rfl,hj,z⟩;dsimp only;refine aF (λa0=>?_) (λa1=>?_)
  .obtain⟨y,S⟩:∃y,t.columns[j]? =some y:=⟨t.columns[j]'(by omega),bn _⟩
   obtain⟨T,oy,ey,ry⟩:=Hi.at d.columns S;refine⟨T,oy,ey,aC,aC,y.name,.imm (cR.part ry 0 1),L,M,O,aC,g,x.name,.imm (cR.part P 0 1),aD (λe=>u λf=>?_) (λe=>?_)⟩
   .exact f.2.2 (cFJ S aC (Dd (bk e)))
   .refine⟨(c,j+1,w),⟨rfl,rfl,bg,QL S z λY=>?_⟩,bg,MT⟩
    grind
  .have:j=c:=by omega
   subst this;exact⟨(j+1,w),⟨rfl,aC,Z.succ C ⟨bg,bg,z⟩⟩,aC,MT⟩
def Kk(t g:AE)(k:Nat)(c:Int):=0<=c/\c<t.columns.length/\∃x y,t.columns[c.toNat]? =some x/\g.columns[k]? =some y/\x.kind=y.kind
def b5Z(tabs:List AE)(t:AE)(_:List Ref)(r:Ref):=0<=r.table/\r.table<tabs.length/\∃g,tabs[r.table.toNat]? =some g/\(r.columns.length:Int)=g.key/\Good (λd c=>Kk t g d.length c) r.columns
def Hd(tabs _:List AE)(t:AE):=Good (b5Z tabs t) t.refs
def b5X:Vc.Spec:=λc m h K=>∃v s,c=[aS v]/\iK h s v/\Good Fy s.tables/\∀r:Bool,(r=true↔Good (Hd s.tables) s.tables)->K (cB r) m h
def aUQ:Vc.Spec:=λc m h K=>∃v s t,∃i:Nat,c=[aS v,cI i]/\iK h s v/\Good Fy s.tables/\s.tables[i]? =some t/\∀r:Bool,(r=true↔Hd s.tables [] t)->K (cB r) m h
noncomputable def bSX(v:cA)(m:MH)(h:PH):=
 dJ [] [(2,{A:=Nat,st:=λi=>bZ 82 83 [(1,.at (.ptr 1 0)),(11,sv v.tables),(12,iv v.tables.len),(13,iv i)] [(1,.cells 27 (v.enc.map .val))] m h}),
  (5,{A:=Nat×Nat×cY,st:=λ⟨i,k,w⟩=>bZ 82 83 [(1,.at (.ptr 1 0)),(4,.at (.ptr 4 0)),(11,sv v.tables),(12,iv v.tables.len),(13,iv i),(18,sv w.references),(19,iv w.references.len),(20,iv k)] [(1,.cells 27 (v.enc.map .val)),(4,.cells 73 (w.enc.map .val))] m h}),
  (13,{A:=Nat×Nat×Nat×cY×cY×Sl,st:=λ⟨i,k,j,w,g,c⟩=>bZ 82 83 [(1,.at (.ptr 1 0)),(4,.at (.ptr 4 0)),(7,.at (.ptr 7 0)),(11,sv v.tables),(12,iv v.tables.len),(13,iv i),(18,sv w.references),(19,iv w.references.len),(20,iv k),(48,sv c),(49,iv c.len),(50,iv j)] [(1,.cells 27 (v.enc.map .val)),(4,.cells 73 (w.enc.map .val)),(7,.cells 73 (g.enc.map .val))] m h})] [] [] false
noncomputable def bVQ(v:cA)(m:MH)(h:PH):=
 dJ [] [(3,{A:=Nat×cY,st:=λ⟨k,w⟩=>bZ 85 87 [(2,.at (.ptr 2 0)),(5,.at (.ptr 5 0)),(16,sv w.references),(17,iv w.references.len),(18,iv k)] [(2,.cells 27 (v.enc.map .val)),(5,.cells 73 (w.enc.map .val))] m h}),
  (8,{A:=Nat×Nat×cY×Hg,st:=λ⟨k,j,w,r⟩=>bZ 85 87 [(2,.at (.ptr 2 0)),(5,.at (.ptr 5 0)),(7,.at (.ptr 7 0)),(16,sv w.references),(17,iv w.references.len),(18,iv k),(47,sv r.columns),(48,iv r.columns.len),(49,iv j)] [(2,.cells 27 (v.enc.map .val)),(5,.cells 73 (w.enc.map .val)),(7,.cells 129 (r.enc.map .val))] m h})] [] [] false
abbrev p9(a:(Nat->Prop)->Nat->Prop)(b:(Nat->Prop)->(Nat->Nat)->Nat->Prop):=∃(x:Nat->Prop)(d:Nat->Nat),lC (∃(c:Nat),a x c) (λc=>b x d c)
abbrev eW:=eP 1
abbrev Ee(a b:cY):=aZ a.references b.references
abbrev FN(a b:cY):=bQ a.references b.references
abbrev Ip(a:cA)(b:Int)(c:Nat->Nat->Prop):=bK (λx d=>aI (aW (Cd a) x d) (0<=b) (b<aG a.tables) (c x d))
noncomputable abbrev wT(a:Nat×Nat×Nat×cY×cY×Sl):=a.2.2.2.1
noncomputable abbrev Bb(a:Nat×Nat×Nat×cY×cY×Sl):=a.2.2.2.2.2
noncomputable abbrev zL(a:Nat×Nat×Nat×cY×cY×Sl):=a.2.2.1
noncomputable abbrev IY(a:Nat×Nat×Nat×cY×cY×Sl):=a.2.2.2.2.1
attribute [push_cast] p9 eW Ee FN Ip wT Bb zL IY
def NG(v:cA)(m:MH)(h:PH)(K:cn):=
  p9 (λI x=>aA (I x) eW (aA (uE v) (kJ v) (aA (bE x) (cL v) (aA (m=m) (h=h) True)))) (λI n x=>Im (I x) x v (λb o y=>aL m h b (o+bM x 5) (Bq y)/\∃(I1:Nat×Nat×cY->Prop)(t:Nat×Nat×cY->Nat),(∃(d:Nat×Nat×cY),aA (I1 d) eW (aA (eP 4) (uE v) (aA (kJ v) (cG x d.1) (aA (Ee y (nY d)) (FN y (nY d)) (aA (bE (uS d)) (cL v) (aA (oQ 73 (iW y)=oQ 73 (iW (nY d))) (m=m) (bU h h)))))))/\∀(d:Nat×Nat×cY),I1 d->bA (↑(uS d):Int) (aG (nY d).references) (bK (λu z=>aI (aW (nY d).references.a u z) (0<=(↑(uS d):Int)) ((↑(uS d):Int)<aG (nY d).references) (∃(f:Hg),aL m h u (z+bM (uS d) 2) (j5 (dX f.columns) (fV f.table))
 /\bA f.table 0 (K bG m h) (iG f.table (kT v) (K bG m h) (Ip v f.table (λL M=>∃(j:cY),aL m h L (M+iA f.table 5) (Bq j)/\cX (aG f.columns) j.key (K bG m h) (∃(I2:Nat×Nat×Nat×cY×cY×Sl->Prop)(A:Nat×Nat×Nat×cY×cY×Sl->Nat),(∃(c:Nat×Nat×Nat×cY×cY×Sl),aA (I2 c) eW (aA (eP 4) (eP 7) (aA (uE v) (kJ v) (aA (cG d.1 c.1) (Ee (nY d) (wT c)) (aA (FN (nY d) (wT c)) (cG (uS d) c.2.1) (aA (aZ f.columns (Bb c)) (bQ f.columns (Bb c)) (aA (bE (zL c)) (cL v) (aA (oQ 73 (iW (nY d))=oQ 73 (iW (wT c))) (oQ 73 (iW j)=oQ 73 (iW (IY c))) (eG m m h h)))))))))/\∀(c:Nat×Nat×Nat×cY×cY×Sl),I2 c->bA (↑(zL c):Int)
 (aG (Bb c)) (bK (λB C=>aI (aW (Bb c).a B C) (0<=(↑(zL c):Int)) ((↑(zL c):Int)<aG (Bb c)) (∃(g:Int),aL m h B (C+bM (zL c) 1) (bC g)/\bA g 0 (K bG m h) (iG g (BD (wT c)) (K bG m h) (bK (λD E=>aI (aW (wT c).columns.a D E) (0<=g) (g<aG (wT c).columns) (∃(F:Int),aL m h D (E+iA g 2+1) (bC F)/\bK (λG H=>aI (aW (IY c).columns.a G H) (0<=(↑(zL c):Int)) ((↑(zL c):Int)<aG (IY c).columns) (∃(J:Int),aL m h G (H+bM (zL c) 2+1) (bC J)/\cX F J (K bG m h) (∃(e:Nat×Nat×Nat×cY×cY×Sl),aA (I2 e) (A e<A c) (aA eW (eP 4) (aA (eP 7) (uE v) (aA (kJ v) (cG c.1 e.1) (aA (Ee (wT c) (wT e))
 (FN (wT c) (wT e)) (aA (cG c.2.1 e.2.1) (aZ (Bb c) (Bb e)) (aA (bQ (Bb c) (Bb e)) (gX (bH (zL c) 1)=bP (zL e)) (aA (cL v) (oQ 73 (iW (wT c))=oQ 73 (iW (wT e))) (dL (oQ 73 (iW (IY c))=oQ 73 (iW (IY e))) m m h h)))))))))))))))))) (∃(e:Nat×Nat×cY),aA (I1 e) (t e<t d) (aA eW (eP 4) (aA (aJ v.tables) (kJ v) (aA (cG c.1 e.1) (Ee (wT c) (nY e)) (aA (FN (wT c) (nY e)) (gX (bH c.2.1 1)=bP (uS e)) (aA (cL v) (oQ 73 (iW (wT c))=oQ 73 (iW (nY e))) (eG m m h h)))))))))))))) (∃(c:Nat),aA (I c) (n c<n x) (aA eW (uE v) (aA (kJ v) (gX (bH d.1 1)=bP c) (aA (cL v) (m=m) (bU h h)))))) (K iQ m h))
abbrev PJ(a:cA)(b:Int)(c:Nat->Nat->Int->Prop):=bK (λx d=>aI (aW (Cd a) x d) (0<=b) (b<aG a.tables) (∃(e:Int),c x d e))
noncomputable abbrev wU(a:Nat×Nat×cY×Hg):=a.2.2.1
noncomputable abbrev vV(a:Nat×Nat×cY×Hg):=a.2.2.2.columns
noncomputable abbrev IQ(a:Nat×Nat×cY×Hg):=a.2.2.2.table
attribute [push_cast] PJ wU vV IQ
def NJ(v:cA)(i:Nat)(m:MH)(h:PH)(K:cn):=
  bK (λb o=>aI (aW (Cd v) b o) (0<=(↑i:Int)) ((↑i:Int)<aG v.tables) (∃(y:cY),aL m h b (o+bM i 5) (Bq y)/\Pt (λI x=>aA (I x) iZ (aA (eP 5) (Ee y x.2) (aA (FN y x.2) (bE x.1) (aA (cL v) (Gf y x) (eG m m h h))))) (λI j x=>I x->bA (↑x.1:Int) (aG x.2.references) (bK (λn t=>aI (aW x.2.references.a n t) (0<=(↑x.1:Int)) ((↑x.1:Int)<aG x.2.references) (∃(e:Hg),aL m h n (t+bM x.1 2) (j5 (dX e.columns) (fV e.table))/\bA e.table 0 (K bG m h) (iG e.table (kT v) (K bG m h) (PJ v e.table (λJ L u=>aL m h J (L+iA e.table 5+2) (bC u)/\cX (aG e.columns) u (K bG m h) (∃(I1:Nat×Nat×cY×Hg->Prop)(z:Nat×Nat×cY×Hg->Nat),(∃(c:Nat×Nat×cY×Hg),aA
 (I1 c) iZ (aA (eP 5) (eP 7) (aA (Ee x.2 (wU c)) (FN x.2 (wU c)) (aA (cG x.1 c.1) (aZ e.columns (vV c)) (aA (bQ e.columns (vV c)) (bE c.2.1) (aA (cL v) (oQ 73 (iW x.2)=oQ 73 (iW (wU c))) (dL (oQ 129 (oT (BY e.columns) (kF e.table))=oQ 129 (oT (BY (vV c)) (kF (IQ c)))) m m h h)))))))/\∀(c:Nat×Nat×cY×Hg),I1 c->bA (↑c.2.1:Int) (aG (vV c)) (bK (λA B=>aI (aW (vV c).a A B) (0<=(↑c.2.1:Int)) ((↑c.2.1:Int)<aG (vV c)) (∃(f:Int),aL m h A (B+bM c.2.1 1) (bC f)/\bA f 0 (K bG m h) (iG f (BD (wU c)) (K bG m h) (bK (λC D=>aI (aW (wU c).columns.a C D) (0<=f) (f<aG (wU c).columns) (∃(E:Int),aL m h C (D+iA f 2+1) (bC
 E)/\PQ v (IQ c) (λM O g=>aL m h M (O+iA (IQ c) 5+1) (aM g)/\bK (λF G=>aI (aW g.a F G) (0<=(↑c.2.1:Int)) ((↑c.2.1:Int)<aG g) (∃(H:Int),aL m h F (G+bM c.2.1 2+1) (bC H)/\cX E H (K bG m h) (∃(d:Nat×Nat×cY×Hg),aA (I1 d) (z d<z c) (aA iZ eM (aA (eP 7) (Ee (wU c) (wU d)) (aA (FN (wU c) (wU d)) (cG c.1 d.1) (aA (aZ (vV c) (vV d)) (bQ (vV c) (vV d)) (aA (gX (bH c.2.1 1)=bP d.2.1) (cL v) (aA (oQ 73 (iW (wU c))=oQ 73 (iW (wU d))) (oQ 129 (oT (BY (vV c)) (kF (IQ c)))=oQ 129 (oT (BY (vV d)) (kF (IQ d)))) (aA (m=m) (h=h) True)))))))))))))))))) (∃(d:Nat×cY),aA (I d) (j d<j x) (aA iZ
 eM (aA (aZ (wU c).references d.2.references) (FN (wU c) d.2) (aA (gX (bH c.1 1)=bP d.1) (cL v) (dL (Gf (wU c) d) m m h h)))))))))))) (K iQ m h))))
theorem Ints.at'{s}(r:Ints h s l){x}(c:l[i]? =some x):∃b o,s.a=some ⟨b,o,none⟩/\cR h b (o+i*1) [.int .i64 x]:=by
 obtain⟨b,o,e,k⟩:=r.at c
 grind
theorem WM{α}{l:List α}{x}(h:l[i]? =some x):(l.take i).length=i:=by
 grind
theorem Good.key_le{tabs}(h:Good Fy tabs){g}(c:tabs[i]? =some g):g.key<=g.columns.length:=(h i g c).2.2.1
theorem czJ{v}(P:iK h s v)(C:Good Fy s.tables)(hK:∀r:Bool,(r=true↔Good (Hd s.tables) s.tables)->K (cB r) m h):NG v m h K:=by
 dsimp only[NG,push_cast];have hl:=P.tables.slen;have a8:=P.tables.len;have hf:¬Good (Hd s.tables) s.tables->K (.val (.bool false)) m h:=λh=>hK false ⟨λe=>(by cases e),λe=>(h e).elim⟩;refine⟨λi=>i<=s.tables.length/\gQ (Hd s.tables) s.tables i,λi=>s.tables.length-i,⟨0,⟨aC,.zero⟩,MT⟩,λi⟨hi,hg⟩=>aF (λH=>?_) (λb1=>hK true ⟨λ_=>hg.all aC,λ_=>rfl⟩)⟩;obtain⟨t,R⟩:=fF hl H;obtain⟨b,o,w,ea,hr,f⟩:=P.tables.at R;have b7:=bN.slen f.columns;have S:=bN.slen f.refs;have b8:=bN.len f.refs;refine⟨b,o,ea,aC,H,w,.imm hr,λ⟨T,k,U⟩=>T=i/\U=w/\k<=t.refs.length/\gQ (b5Z s.tables t) t.refs k,λ⟨_,k,_⟩=>t.refs.length-k,⟨(i,0,w),⟨rfl,rfl,aC,.zero⟩,MT⟩,?_⟩;rintro⟨i,k,w⟩ ⟨rfl,rfl,hk,I⟩;dsimp only;refine aF (λA=>?_) (λa9=>⟨i+1,⟨aC,hg.succ R (I.all aC)⟩,aC,MT⟩);obtain⟨r,D⟩:=fF S A;obtain⟨b2,o2,F,V,W,d⟩:=f.refs.at D;have X:=d.columns.slen;have b9:=d.columns.len;have rt:=d.table;have bad:¬b5Z s.tables t (t.refs.take k) r->K (.val (.bool false)) m h:=λhn=>hf (Good.not R (Good.not D hn));refine⟨b2,o2,V,aC,A,F,.imm W,aF (λh1=>bad λu=>?_) (λh1=>aF (λh2=>bad λu=>?_) (λh2=>?_))⟩
 .have:=u.1;omega
 .have:=u.2.1;omega
 obtain⟨g,b3,o3,G,J,Y,Z,n⟩:=P.table (t:=F.table) aC aC;have c':=bN.slen n.columns;have b':=C.key_le J;have gk:=n.key;refine⟨b3,o3,Y,aC,aC,G,.imm Z,aD (λh3=>bad λu=>?_) (λh3=>?_)⟩
 .obtain⟨_,_,g',E,c0,_⟩:=u
  grind
 have h3:(F.columns.len:Int)=G.key:=bg
 refine⟨λ⟨T,k',j,U,g',sl⟩=>T=i/\k'=k/\U=w/\g'=G/\sl=F.columns/\j<=r.columns.length/\gQ (λa' c=>Kk t g a'.length c) r.columns j,λ⟨_,_,j,_,_,_⟩=>r.columns.length-j,⟨(i,k,0,w,G,F.columns),⟨rfl,rfl,rfl,rfl,rfl,aC,.zero⟩,MT⟩,?_⟩;rintro⟨i,k,j,w,G,_⟩ ⟨rfl,rfl,rfl,rfl,rfl,hj,L⟩;dsimp only;refine aF (λB=>?_) (λb0=>⟨(i,k+1,w),⟨rfl,rfl,bg,I.succ D ⟨aC,aC,g,bg,aC,L.all aC⟩⟩,bg,MT⟩);obtain⟨c,Q⟩:=fF X B;obtain⟨b4,o4,a0,a1⟩:=d.columns.at' Q;have a2:=WM Q
 have z:¬Kk t g j c->K (.val (.bool false)) m h:=λhn=>bad λu=>by
  obtain⟨_,_,g',E,_,a3⟩:=u;rw[<-rt,J]at E;cases E;have:=a3 j c Q
  grind
 refine⟨b4,o4,a0,aC,B,c,.imm a1,aF (λh5=>z λu=>?_) (λh5=>aF (λh6=>z λu=>?_) (λh6=>?_))⟩
 .have:=u.1;omega
 .have:=u.2.1;omega
 obtain⟨x,M⟩:∃x,t.columns[c.toNat]? =some x:=⟨t.columns[c.toNat]'(by omega),bn _⟩
 obtain⟨y,O⟩:∃y,g.columns[j]? =some y:=⟨g.columns[j]'(by omega),bn _⟩
 obtain⟨b5,o5,a4,a5⟩:=Hi.at f.columns M;obtain⟨b6,o6,a6,a7⟩:=Hi.at n.columns O;refine⟨b5,o5,a4,aC,aC,x.kind,.imm (cR.part a5 1 1),b6,o6,a6,aC,aC,y.kind,.imm (cR.part a7 1 1),aD (λh7=>z λu=>?_) (λh7=>?_)⟩
 .obtain⟨_,_,x',y',e1,e2,e3⟩:=u
  grind
 .exact⟨(i,k,j+1,w,G,F.columns),⟨rfl,rfl,rfl,rfl,rfl,bg,L.succ Q (by show Kk t g (List.take j r.columns).length c;rw[a2];exact⟨aC,aC,x,y,M,O,bg⟩)⟩,bg,MT⟩
theorem atQ:cm 137 b5X:=by
 refine iU func137 ?_;rintro c m h K ⟨v,s,rfl,d,e,f⟩;refine⟨bSX v m h,rfl,aH,NG v m h K,ax,?_⟩;exact czJ d e f
theorem cAJ{v t}(P:iK h s v)(C:Good Fy s.tables)(hx:s.tables[i]? =some t)(hK:∀r:Bool,(r=true↔Hd s.tables [] t)->K (cB r) m h):NJ v i m h K:=by
 dsimp only[NJ,push_cast];have hl:=P.tables.slen;have a5:=P.tables.len;have a9:i<s.tables.length:=(bm hx);have hf:¬Hd s.tables [] t->K (.val (.bool false)) m h:=λh=>hK false ⟨λe=>(by cases e),λe=>(h e).elim⟩;obtain⟨b,o,w,ea,hr,f⟩:=P.tables.at hx;have b':=bN.slen f.columns;have R:=bN.slen f.refs;have b0:=bN.len f.refs;refine⟨b,o,ea,aC,aC,w,.imm hr,λ⟨k,S⟩=>S=w/\k<=t.refs.length/\gQ (b5Z s.tables t) t.refs k,λ⟨k,_⟩=>t.refs.length-k,⟨(0,w),⟨rfl,aC,.zero⟩,MT⟩,?_⟩;rintro⟨k,w⟩ ⟨rfl,hk,G⟩;dsimp only;refine aF (λA=>?_) (λa6=>hK true ⟨λ_=>G.all aC,λ_=>rfl⟩);obtain⟨r,D⟩:=fF R A;obtain⟨b2,o2,E,T,U,d⟩:=f.refs.at D;have V:=d.columns.slen;have b1:=d.columns.len;have rt:=d.table;have bad:¬b5Z s.tables t (t.refs.take k) r->K (.val (.bool false)) m h:=λhn=>hf (Good.not D hn);refine⟨b2,o2,T,aC,A,E,.imm U,aF (λh1=>bad λu=>?_) (λh1=>aF (λh2=>bad λu=>?_) (λh2=>?_))⟩
 .have:=u.1;omega
 .have:=u.2.1;omega
 obtain⟨g,b3,o3,W,H,I,J,n⟩:=P.table (t:=E.table) aC aC;have b7:=bN.slen n.columns;have a7:=C.key_le H;have gk:=n.key;refine⟨b3,o3,I,aC,aC,W.key,.imm (cR.part J 2 1),aD (λh3=>bad λu=>?_) (λh3=>?_)⟩
 .obtain⟨_,_,g',F,b8,_⟩:=u
  grind
 have h3:(E.columns.len:Int)=W.key:=bg
 refine⟨λ⟨k',j,S,r'⟩=>k'=k/\S=w/\r'=E/\j<=r.columns.length/\gQ (λX c=>Kk t g X.length c) r.columns j,λ⟨_,j,_,_⟩=>r.columns.length-j,⟨(k,0,w,E),⟨rfl,rfl,rfl,aC,.zero⟩,MT⟩,?_⟩;rintro⟨k,j,w,E⟩ ⟨rfl,rfl,rfl,hj,L⟩;dsimp only;refine aF (λB=>?_) (λa8=>⟨(k+1,w),⟨rfl,aC,G.succ D ⟨aC,aC,g,bg,aC,L.all aC⟩⟩,aC,MT⟩);obtain⟨c,Q⟩:=fF V B;obtain⟨b4,o4,Y,Z⟩:=d.columns.at' Q;have a':=WM Q
 have z:¬Kk t g j c->K (.val (.bool false)) m h:=λhn=>bad λu=>by
  obtain⟨_,_,g',F,_,a0⟩:=u;rw[<-rt,H]at F;cases F;have:=a0 j c Q
  grind
 refine⟨b4,o4,Y,aC,B,c,.imm Z,aF (λh5=>z λu=>?_) (λh5=>aF (λh6=>z λu=>?_) (λh6=>?_))⟩
 .have:=u.1;omega
 .have:=u.2.1;omega
 obtain⟨x,M⟩:∃x,t.columns[c.toNat]? =some x:=⟨t.columns[c.toNat]'(by omega),bn _⟩
 obtain⟨y,O⟩:∃y,g.columns[j]? =some y:=⟨g.columns[j]'(by omega),bn _⟩
 obtain⟨b5,o5,a1,a2⟩:=Hi.at f.columns M;obtain⟨b6,o6,a3,a4⟩:=Hi.at n.columns O;refine⟨b5,o5,a1,aC,aC,x.kind,.imm (cR.part a2 1 1),b3,o3,I,aC,aC,W.columns,.imm (cR.part J 1 1),b6,o6,a3,aC,aC,y.kind,.imm (cR.part a4 1 1),aD (λh7=>z λu=>?_) (λh7=>?_)⟩
 .obtain⟨_,_,x',y',e1,e2,e3⟩:=u
  grind
 .exact⟨(k,j+1,w,E),⟨rfl,rfl,rfl,bg,L.succ Q (by show Kk t g (List.take j r.columns).length c;rw[a'];exact⟨aC,aC,x,y,M,O,bg⟩)⟩,bg,MT⟩
theorem auX:cm 122 aUQ:=by
 refine iU func122 ?_;rintro c m h K ⟨v,s,t,i,rfl,d,e,f,g⟩;refine⟨bVQ v m h,rfl,aH,NJ v i m h K,ax,?_⟩;exact cAJ d e f g
def R9(t:AE):=t.columns.length<=8/\t.refs.length<=4/\t.checks.length<=4
def EV(s:jP):=s.tables.length<=8/\Good (λ_ t=>R9 t) s.tables
def Mr(s:jP):=0<=s.version/\s.version<=1000/\Good Fy s.tables/\Good (Hd s.tables) s.tables
def xL:cq->Int
 |[]=>0
 |e::r=>if e=0 then xL r else e
def yX(s:jP)(i:Nat):=match s.tables[i]? with|some t=>t.checks.map (iI (jB s i) [])|none=>[]
theorem Cg a b(h:∀e∈a,e=0):xL (a++b)=xL b:=by
 induction a with
 |nil=>rfl
 |cons x a c=>
  simp only[cons_append,xL];rw[if_pos (h x ay),c λe d=>h e (by simp[d])]
theorem EU a(h:∀e∈a,e=0):xL a=0:=by
 have:=Cg a [] h;simpa[xL]using this
theorem OM{n k f e}(o:i<n)(t:∀j<i,∀x∈f j,x=0)(c:∀x∈(f i).take k,x=0)(d:(f i)[k]? =some e)(g:e≠0):xL ((List.range n).flatMap f)=e:=by
 obtain⟨r,rfl⟩:∃r,n=i+(1+r):=⟨n-i-1,aC⟩
 rw[range_add,flatMap_append,Cg]
 .rw[show(List.range (1+r)).map (i+ ·)=i::(range' (i+1) r)from ?_,flatMap_cons, <-take_append_drop k (f i),append_assoc,Cg _ _ c,drop_cons d]
  .simp[xL,g]
  .rw[Nat.add_comm 1 r,range_succ_eq_map];simp[range'_eq_map_range,Nat.add_assoc,Nat.add_comm 1]
 grind
open Classical in
noncomputable def eK(s:jP):Int:=if EV s then(if Mr s then xL ((List.range s.tables.length).flatMap (yX s))else 70)else 2
def Df:Vc.Spec:=λc m h K=>∃v s,c=[aS v]/\iK h s v/\K (cI (eK s)) m h
noncomputable def coZ(v:cA)(m:MH)(h:PH):=
 dJ [(136,b7Z),(137,b5X),(69,vJ),(138,vI)] [(4,{A:=Nat,st:=λi=>bZ 83 84 [(1,.at (.ptr 1 0)),(16,sv v.tables),(17,iv v.tables.len),(18,iv i)] [(1,.cells 27 (v.enc.map .val))] m h}),
  (12,{A:=Nat×PH,st:=λ⟨i,c⟩=>bZ 83 84 [(1,.at (.ptr 1 0)),(58,sv v.tables),(59,iv v.tables.len),(60,iv i)] [(1,.cells 27 (v.enc.map .val))] m c}),
  (16,{A:=Nat×Nat×Sl×Sl×PH,st:=λ⟨i,k,ks,d,c⟩=>bZ 83 84 [(1,.at (.ptr 1 0)),(7,sv ks),(58,sv v.tables),(59,iv v.tables.len),(60,iv i),(69,sv d),(70,iv d.len),(71,iv k)] [(1,.cells 27 (v.enc.map .val))] m c})] [] [] false
noncomputable def cqJ(v:cA)(m:MH)(h:PH):=
 dJ [(121,b2X),(122,aUQ),(45,vJ),(66,vI)] [(4,{A:=Nat,st:=λi=>bZ 96 97 [(1,.at (.ptr 1 0)),(16,sv v.tables),(17,iv v.tables.len),(18,iv i)] [(1,.cells 27 (v.enc.map .val))] m h}),
  (12,{A:=Nat,st:=λi=>bZ 96 97 [(1,.at (.ptr 1 0)),(49,iv v.tables.len),(50,iv i)] [(1,.cells 27 (v.enc.map .val))] m h}),
  (18,{A:=Nat,st:=λi=>bZ 96 97 [(1,.at (.ptr 1 0)),(60,iv v.tables.len),(61,iv i)] [(1,.cells 27 (v.enc.map .val))] m h}),
  (24,{A:=Nat×PH,st:=λ⟨i,c⟩=>bZ 96 97 [(1,.at (.ptr 1 0)),(71,iv v.tables.len),(72,iv i)] [(1,.cells 27 (v.enc.map .val))] m c}),
  (27,{A:=Nat×Nat×Sl×PH,st:=λ⟨i,k,d,c⟩=>bZ 96 97 [(1,.at (.ptr 1 0)),(7,iv i),(71,iv v.tables.len),(72,iv i),(80,sv d),(81,iv d.len),(82,iv k)] [(1,.cells 27 (v.enc.map .val))] m c})] [] [] false
abbrev A9(a:cA)(b:Int)(c:Nat->Nat->Option Value)(d:Sl->PH->Prop):=rE (λx e=>∃(g:Int),aI (fC (kE (cN a)) b=fC (kE (cN x)) g) (iK c e x) (oE e) (∀(j:Sl)(f:PH),bR c f (Ints f j (jB e g)) (d j f)))
noncomputable abbrev Bc(a:Nat×Nat×Sl×Sl×PH):=a.2.2.2.1
noncomputable abbrev Eb(a:Nat×Nat×Sl×Sl×PH):=a.2.2.2.2
abbrev J3(a:cq->cq->Prop):=∃(x c:cq),a x c
abbrev Ga(a:dl)(b:PH)(c:cq->cq->Pred->Prop):=sG (λx d=>∃(e:PV),J3 (λf g=>∃(j:Pred),aA (a=dE x (gT d (lN e))) (Ints b x f) (aA (Ints b d g) (fO b j e) (c f g j))))
attribute [push_cast] A9 Bc Eb J3 Ga
def Rt(v:cA)(m:MH)(h:PH)(K:cn):=
  fZ (kT v) 8 (K (gG 2) m h) (p9 (λI x=>aA (I x) eW (aA (uE v) (kJ v) (aA (bE x) (cL v) (aA (m=m) (h=h) True)))) (λI j x=>Im (I x) x v (λb o y=>aL m h b (o+bM x 5) (Bq y)/\qB (decide (BD y>8)) (K (gG 2) m h) (aG y.references) 4 (K (gG 2) m h) (fZ (aG y.checks) 4 (K (gG 2) m h) (∃(e:Nat),aA (I e) (j e<j x) (aA eW (uE v) (aA (kJ v) (gX (bH x 1)=bP e) (aA (cL v) (m=m) (bU h h))))))) (bA v.version 0 (K (gG 70) m h) (fZ v.version 1000 (K (gG 70) m h) (rE (λn s=>aA (fY (kE (cN v)) (kE (cN n))) (iK h s n) (∀(r:Bool),hX (iD r (Good Fy s.tables)) (!r) (K (gG 70) m h) (rE (λt g=>aI (fY (kE (cN v)) (kE (cN t))) (iK h g t) (Good Fy g.tables) (∀(u:Bool),
 hX (iD u (Good (Hd g.tables) g.tables)) (!u) (K (gG 70) m h) (∃(I1:Nat×PH->Prop)(z:Nat×PH->Nat),(∃(e:Nat×PH),aA (I1 e) eW (aA (uE v) (kJ v) (aA (bE e.1) (cL v) (aA (m=m) (h=e.2) True))))/\∀(e:Nat×PH),Im (I1 e) e.1 v (λb o y=>aL m e.2 b (o+bM e.1 5) (Bq y)/\A9 v (↑e.1:Int) e.2 (λF G=>∃(I2:Nat×Nat×Sl×Sl×PH->Prop)(A:Nat×Nat×Sl×Sl×PH->Nat),(∃(d:Nat×Nat×Sl×Sl×PH),aA (I2 d) eW (aA (aZ F d.2.2.1) (uE v) (aA (kJ v) (cG e.1 d.1) (aA (aZ y.checks (Bc d)) (bQ y.checks (Bc d)) (aA (bE d.2.1) (cL v) (aA (m=m) (G=Eb d) True))))))/\∀(d:Nat×Nat×Sl×Sl×PH),I2 d->bA (↑d.2.1:Int) (aG (Bc d)) (bK (λB C=>aI (aW (Bc d).a
 B C) (0<=(↑d.2.1:Int)) ((↑d.2.1:Int)<aG (Bc d)) (∃(D:PV),aL m (Eb d) B (C+bM d.2.1 13) D.enc/\Ga (dE d.2.2.1 (gC Ft (kE D.enc))) (Eb d) (λc p E=>cX (iI c p E) 0 (K (gG (iI c p E)) m (Eb d)) (∃(f:Nat×Nat×Sl×Sl×PH),aA (I2 f) (A f<A d) (aA eW (aZ d.2.2.1 f.2.2.1) (aA (aJ v.tables) (kJ v) (aA (cG d.1 f.1) (aZ (Bc d) (Bc f)) (aA (bQ (Bc d) (Bc f)) (gX (bH d.2.1 1)=bP f.2.1) (aA (cL v) (m=m) (bU (Eb d) (Eb f)))))))))))) (∃(f:Nat×PH),aA (I1 f) (z f<z e) (aA eW (uE v) (aA (kJ v) (gX (bH d.1 1)=bP f.1) (aA (cL v) (m=m) (bU (Eb d) f.2))))))) (K (gG 0) m e.2))))))))))))
abbrev PM(a:jP)(b:Nat)(c:AE):=a.tables[b]? =Option.some c
noncomputable abbrev Bd(a:Nat×Nat×Sl×PH):=a.2.2.1
attribute [push_cast] PM Bd
def Rv(v:cA)(m:MH)(h:PH)(K:cn):=
  fZ (kT v) 8 (K (gG 2) m h) (p9 (λI x=>aA (I x) eW (aA (uE v) (kJ v) (aA (bE x) (cL v) (aA (m=m) (h=h) True)))) (λI z x=>Im (I x) x v (λb o y=>aL m h b (o+bM x 5) (Bq y)/\qB (decide (BD y>8)) (K (gG 2) m h) (aG y.references) 4 (K (gG 2) m h) (fZ (aG y.checks) 4 (K (gG 2) m h) (∃(g:Nat),aA (I g) (z g<z x) (aA eW (uE v) (aA (kJ v) (gX (bH x 1)=bP g) (aA (cL v) (m=m) (bU h h))))))) (bA v.version 0 (K (gG 70) m h) (fZ v.version 1000 (K (gG 70) m h) (p9 (λI1 g=>aA (I1 g) eW (aA (kJ v) (bE g) (dL (cL v) m m h h))) (λI1 A g=>I1 g->bA (↑g:Int) (aG v.tables) (rE (λn s=>∃(t:AE)(i:Nat),aI (fC (kE (cN v)) (↑g:Int)=fC (kE (cN n)) (↑i:Int))
 (iK h s n) (PM s i t) (∀(r:Bool),hX (iD r (Fy (List.take i s.tables) t)) (!r) (K (gG 70) m h) (∃(j:Nat),aA (I1 j) (A j<A g) (aA eW (kJ v) (aA (gX (bH g 1)=bP j) (cL v) (aA (m=m) (h=h) True))))))) (p9 (λI2 j=>aA (I2 j) eW (aA (kJ v) (bE j) (dL (cL v) m m h h))) (λI2 B j=>I2 j->bA (↑j:Int) (aG v.tables) (rE (λn s=>∃(t:AE)(i:Nat),aA (fC (kE (cN v)) (↑j:Int)=fC (kE (cN n)) (↑i:Int)) (iK h s n) (aA (Good Fy s.tables) (PM s i t) (∀(r:Bool),hX (iD r (Hd s.tables [] t)) (!r) (K (gG 70) m h) (∃(e:Nat),aA (I2 e) (B e<B j) (aA eW (kJ v) (aA (gX (bH j 1)=bP e) (cL v) (aA (m=m) (h=h) True)))))))) (∃(I3:Nat×PH->Prop)(C:Nat×PH->Nat),(∃(e:Nat×
 PH),aA (I3 e) eW (aA (kJ v) (bE e.1) (dL (cL v) m m h e.2)))/\∀(e:Nat×PH),I3 e->bA (↑e.1:Int) (aG v.tables) (bK (λb o=>aI (aW (Cd v) b o) (0<=(↑e.1:Int)) ((↑e.1:Int)<aG v.tables) (∃(y:Sl),aL m e.2 b (o+bM e.1 5+4) (aM y)/\∃(I4:Nat×Nat×Sl×PH->Prop)(D:Nat×Nat×Sl×PH->Nat),(∃(d:Nat×Nat×Sl×PH),aA (I4 d) eW (aA (cG e.1 d.1) (kJ v) (aA (cG e.1 d.1) (aZ y (Bd d)) (aA (bQ y (Bd d)) (bE d.2.1) (dL (cL v) m m e.2 d.2.2.2)))))/\∀(d:Nat×Nat×Sl×PH),I4 d->bA (↑d.2.1:Int) (aG (Bd d)) (bK (λE F=>aI (aW (Bd d).a E F) (0<=(↑d.2.1:Int)) ((↑d.2.1:Int)<aG (Bd d)) (∃(G:PV),aL m d.2.2.2 E (F+bM d.2.1 13) G.enc/\A9 v (↑d.1:
 Int) d.2.2.2 (λs u=>Ga (dE s (gC Ft (kE G.enc))) u (λc p H=>cX (iI c p H) 0 (K (gG (iI c p H)) m u) (∃(f:Nat×Nat×Sl×PH),aA (I4 f) (D f<D d) (aA eW (cG d.1 f.1) (aA (kJ v) (cG d.1 f.1) (aA (aZ (Bd d) (Bd f)) (bQ (Bd d) (Bd f)) (aA (gX (bH d.2.1 1)=bP f.2.1) (cL v) (aA (m=m) (u=f.2.2.2) True))))))))))) (∃(f:Nat×PH),aA (I3 f) (C f<C e) (aA eW (kJ v) (aA (gX (bH d.1 1)=bP f.1) (cL v) (aA (m=m) (d.2.2.2=f.2) True))))))) (K (gG 0) m e.2))))))))))
theorem lW.out{hx r}(d:Sub m m')(c:PH.le h hx)(e:K r m h):lW h K r m' hx:=⟨m,h,d,.refl _,c,e⟩
theorem yE(h:¬EV s):eK s=2:=by unfold eK;rw[if_neg h]
theorem Qr(h:EV s)(h':¬Mr s):eK s=70:=by unfold eK;grind
theorem MF(h:EV s)(h':Mr s):eK s=xL ((List.range s.tables.length).flatMap (yX s)):=by unfold eK;grind
theorem FF{k:Nat}{t}(hx:s.tables[i]? =some t)(c:t.checks[k]? =some p):(yX s i)[k]? =some (iI (jB s i) [] p):=by
 unfold yX;grind
theorem Od{t}(hx:s.tables[i]? =some t):(yX s i).length=t.checks.length:=by
 unfold yX;rw[hx];simp
theorem SM{k e}(c:l[k]? =some e)(h:∀x∈l.take k,x=0)(f:e=0):∀x∈l.take (k+1),x=0:=by
 intro x d;rw[cd,c,mem_append]at d
 grind
theorem WB{f:Nat->cq}{k}(h:∀j<i,∀x∈f j,x=0)(d:(f i).length<=k)(c:∀x∈(f i).take k,x=0):∀j<i+1,∀x∈f j,x=0:=by
 intro j n x g;by_cases e:j=i
 .subst e;rw[bt d]at c;exact c x g
 grind
theorem Na:cm 73 Df:=by
 refine Fh func73 ?_;rintro a0 m h K ⟨v,s,rfl,y,hK⟩;refine⟨coZ v m h,rfl,aE atX (aE atQ (aE Fo (aE Ka aH))),Rt v m h (lW h K),ax,?_⟩;show Rt v m h (lW h K);dsimp only[Rt,push_cast];have W:=y.tables.slen;have X:=y.tables.len;have Y:=y.version;have out:∀(f:PH)(x:Int),PH.le h f->eK s=x->lW h K (.val (.int .i64 x)) m f:=λf x g e=>.out (Sub.refl m) g (by rw[<-e];exact hK);refine aF (λh1=>out h _ (.refl _) (yE λe=>by have:=e.1;omega)) (λh1=>?_);refine⟨λi=>i<=s.tables.length/\gQ (λ_ t=>R9 t) s.tables i,λi=>s.tables.length-i,⟨0,⟨aC,.zero⟩,MT⟩,λi⟨hi,Z⟩=>aF (λn=>?_) (λO=>?_)⟩
 .obtain⟨t,f⟩:=fF W n;obtain⟨b,o,w,P,B,c⟩:=y.tables.at f;have e1:=bN.slen c.columns;have e2:=bN.slen c.refs;have e3:=bN.slen c.checks;have bad:¬R9 t->lW h K (.val (.int .i64 2)) m h:=λQ=>out h _ (.refl _) (yE λe=>Good.not f Q e.2);refine⟨b,o,P,aC,n,w,.imm B,aF (λR=>bad λe=>?_) (λR=>aF (λS=>bad λe=>?_) (λS=>aF (λI=>bad λe=>?_) (λI=>⟨i+1,⟨aC,Z.succ f ⟨aC,aC,aC⟩⟩,bg,MT⟩)))⟩
  .have:=e.1;omega
  .have:=e.2.1;omega
  .have:=e.2.2;omega
 have C:EV s:=⟨aC,Z.all aC⟩
 have h8:oE s:=λt H=>by
  obtain⟨j,hj⟩:=mem_iff_getElem?.1 H;exact(C.2 j t hj).1
 have bad:¬Mr s->lW h K (.val (.int .i64 70)) m h:=λQ=>out h _ (.refl _) (Qr C Q);refine aF (λR=>bad λe=>?_) (λR=>aF (λS=>bad λe=>?_) (λS=>⟨v,s,rfl,y,λr B=>aD (λI=>bad λe=>?_) (λI=>⟨v,s,rfl,y,B.1 bg,λr2 J=>aD (λT=>bad λe=>?_) (λT=>?_)⟩)⟩))
 .have:=e.1;omega
 .have:=e.2.1;omega
 .rw[B.2 e.2.2.1]at I;cases I
 .rw[J.2 e.2.2.2]at T;cases T
 have ok:Mr s:=⟨aC,aC,B.1 bg,J.1 bg⟩
 rw[MF C ok]at out;refine⟨λ⟨i,f⟩=>i<=s.tables.length/\PH.le h f/\∀j<i,∀x∈yX s j,x=0,λ⟨i,_⟩=>s.tables.length-i,⟨(0,h),⟨aC,.refl _,λj hj=>by omega⟩,MT⟩,?_⟩;rintro⟨i,f⟩ ⟨hi,g,hz⟩;dsimp only;refine aF (λn=>?_) (λO=>out f _ g (EU _ λe he=>?_))
 .obtain⟨t,H⟩:=fF W n;obtain⟨b,o,w,P,B,c⟩:=(y.mono g).tables.at H;have cl:=bN.slen c.checks;have cb:=bN.len c.checks;refine⟨b,o,P,aC,n,w,.imm B,v,s,i,rfl,y.mono g,h8,λsl h' z D=>?_⟩;refine⟨λ⟨i',k,ks,cs,E⟩=>i'=i/\cs=w.checks/\k<=t.checks.length/\PH.le h' E/\Ints E ks (jB s i)/\∀x∈(yX s i).take k,x=0,λ⟨_,k,_,_,_⟩=>t.checks.length-k,⟨(i,0,sl,w.checks,h'),⟨rfl,rfl,aC,.refl _,D,λx f=>by simp at f⟩,MT⟩,?_⟩;rintro⟨i,k,ks,_,E⟩ ⟨rfl,rfl,hk,u,d,F⟩;dsimp only;have L:PH.le h E:=(g.trans z).trans u;refine aF (λA=>?_) (λa'=>⟨(i+1,E),⟨aC,L,WB hz (k:=k) (by rw[Od H];omega) F⟩,aC,MT⟩);obtain⟨p,U⟩:=fF cl A;obtain⟨b2,o2,pv,V,M,G⟩:=((c.checks.mono z).mono u).at U;refine⟨b2,o2,V,aC,A,pv,.imm M,ks,⟨none,0,0⟩,pv,jB s i,[],p,rfl,d,⟨.nil _ _,ay⟩,G,aD (λh6=>?_) (λh6=>?_)⟩
  .exact out E _ L (OM aC hz F (FF H U) bg)
  .exact⟨(i,k+1,ks,w.checks,E),⟨rfl,rfl,bg,u,d,SM (FF H U) F bg⟩,bg,MT⟩
 .grind
theorem bfQ:cm 61 Df:=by
 refine Fh func61 ?_;rintro a0 m h K ⟨v,s,rfl,C,hK⟩;refine⟨cqJ v m h,rfl,aE auZ (aE auX (aE I7 (aE Nb aH))),Rv v m h (lW h K),ax,?_⟩;show Rv v m h (lW h K);dsimp only[Rv,push_cast];have P:=C.tables.slen;have X:=C.tables.len;have Y:=C.version;have out:∀(c:PH)(x:Int),PH.le h c->eK s=x->lW h K (.val (.int .i64 x)) m c:=λc x n e=>.out (Sub.refl m) n (by rw[<-e];exact hK);refine aF (λh1=>out h _ (.refl _) (yE λe=>by have:=e.1;omega)) (λh1=>?_);refine⟨λi=>i<=s.tables.length/\gQ (λ_ t=>R9 t) s.tables i,λi=>s.tables.length-i,⟨0,⟨aC,.zero⟩,MT⟩,λi⟨L,u⟩=>aF (λf=>?_) (λg=>?_)⟩
 .obtain⟨t,c⟩:=fF P f;obtain⟨b,o,w,R,A,d⟩:=C.tables.at c;have e1:=bN.slen d.columns;have e2:=bN.slen d.refs;have e3:=bN.slen d.checks;have bad:¬R9 t->lW h K (.val (.int .i64 2)) m h:=λS=>out h _ (.refl _) (yE λe=>Good.not c S e.2);refine⟨b,o,R,aC,f,w,.imm A,aF (λT=>bad λe=>?_) (λT=>aF (λU=>bad λe=>?_) (λU=>aF (λB=>bad λe=>?_) (λB=>⟨i+1,⟨aC,u.succ c ⟨aC,aC,aC⟩⟩,bg,MT⟩)))⟩
  .have:=e.1;omega
  .have:=e.2.1;omega
  .have:=e.2.2;omega
 have E:EV s:=⟨aC,u.all aC⟩
 have h8:oE s:=λt M=>by
  obtain⟨j,Z⟩:=mem_iff_getElem?.1 M;exact(E.2 j t Z).1
 have bad:¬Mr s->lW h K (.val (.int .i64 70)) m h:=λS=>out h _ (.refl _) (Qr E S);refine aF (λT=>bad λe=>?_) (λT=>aF (λU=>bad λe=>?_) (λU=>?_))
 .have:=e.1;omega
 .have:=e.2.1;omega
 clear L u g;refine⟨λi=>i<=s.tables.length/\gQ Fy s.tables i,λi=>s.tables.length-i,⟨0,⟨aC,.zero⟩,MT⟩,λi⟨L,u⟩=>aF (λf=>?_) (λg=>?_)⟩
 .obtain⟨t,c⟩:=fF P f;refine⟨v,s,t,i,rfl,C,c,λr A=>aD (λB=>bad λe=>?_) (λB=>⟨i+1,⟨aC,u.succ c (A.1 bg)⟩,bg,MT⟩)⟩;rw[A.2 (e.2.2.1 i t c)]at B;cases B
 have good:=u.all aC;clear L u g;refine⟨λi=>i<=s.tables.length/\gQ (Hd s.tables) s.tables i,λi=>s.tables.length-i,⟨0,⟨aC,.zero⟩,MT⟩,λi⟨L,u⟩=>aF (λf=>?_) (λg=>?_)⟩
 .obtain⟨t,c⟩:=fF P f;refine⟨v,s,t,i,rfl,C,good,c,λr A=>aD (λB=>bad λe=>?_) (λB=>⟨i+1,⟨aC,u.succ c (A.1 bg)⟩,bg,MT⟩)⟩;rw[A.2 (e.2.2.2 i t c)]at B;cases B
 have F:=u.all aC;clear L u g;have ok:Mr s:=⟨aC,aC,good,F⟩
 rw[MF E ok]at out;refine⟨λ⟨i,c⟩=>i<=s.tables.length/\PH.le h c/\∀j<i,∀x∈yX s j,x=0,λ⟨i,_⟩=>s.tables.length-i,⟨(0,h),⟨aC,.refl _,λj Z=>by omega⟩,MT⟩,?_⟩;rintro⟨i,c⟩ ⟨L,n,hz⟩;dsimp only;refine aF (λf=>?_) (λg=>out c _ n (EU _ λe he=>?_))
 .obtain⟨t,M⟩:=fF P f;obtain⟨b,o,w,R,A,d⟩:=(C.mono n).tables.at M;have cl:=bN.slen d.checks;have cb:=bN.len d.checks;refine⟨b,o,R,aC,f,w.checks,.imm (cR.part A 4 1),?_⟩;refine⟨λ⟨i',k,cs,Q⟩=>i'=i/\cs=w.checks/\k<=t.checks.length/\PH.le c Q/\∀x∈(yX s i).take k,x=0,λ⟨_,k,_,_⟩=>t.checks.length-k,⟨(i,0,w.checks,c),⟨rfl,rfl,aC,.refl _,λx c=>by simp at c⟩,MT⟩,?_⟩;rintro⟨i,k,_,Q⟩ ⟨rfl,rfl,hk,y,G⟩;dsimp only;have H:PH.le h Q:=n.trans y;refine aF (λD=>?_) (λa'=>⟨(i+1,Q),⟨aC,H,WB hz (k:=k) (by rw[Od M];omega) G⟩,aC,MT⟩);obtain⟨p,V⟩:=fF cl D;obtain⟨b2,o2,pv,W,O,I⟩:=(d.checks.mono y).at V;refine⟨b2,o2,W,aC,D,pv,.imm O,v,s,i,rfl,C.mono H,h8,λsl h' z J=>⟨sl,⟨none,0,0⟩,pv,jB s i,[],p,rfl,J,⟨.nil _ _,ay⟩,I.mono z,aD (λh6=>?_) (λh6=>?_)⟩⟩
  .exact out h' _ (H.trans z) (OM aC hz G (FF M V) bg)
  .exact⟨(i,k+1,w.checks,h'),⟨rfl,rfl,bg,y.trans z,SM (FF M V) G bg⟩,bg,MT⟩
 .grind
mutual
def u9:Query->Int->Int
 |.mk _ _ _ _ _ _ _ _ args,n=>qK args (n+1)
def qK:dc->Int->Int
 |[],n=>n
 |p::ps,n=>if n<=24 then qK ps (u9 p n)else n
end
mutual
def uY:Query->Nat->Bool
 |.mk _ _ _ _ _ _ _ _ _,0=>true
 |.mk _ _ _ _ _ _ _ _ args,n+1=>Dz args n
def Dz:dc->Nat->Bool
 |[],_=>false
 |p::ps,n=>uY p n||Dz ps n
end
mutual
theorem KN:∀(p:Query)(n:Int),n<=24->n<u9 p n/\u9 p n<=25
 |.mk _ _ _ _ _ _ _ _ args,n,h=>by
  have:=Jx args (n+1) aC;simp only[u9];omega
theorem Jx:∀(ps:dc)(n:Int),n<=25->n<=qK ps n/\qK ps n<=25
 |[],n,h=>by simp only[qK];omega
 |p::ps,n,h=>by
  simp only[qK];split
  .rename_i c;have d:=KN p n c;have e:=Jx ps (u9 p n) d.2;omega
  .omega
end
theorem Vy ps{n}(h:¬n<=24):qK ps n=n:=by
 cases ps
 .simp[qK]
 .simp only[qK,if_neg h]
theorem Md(n:Nat):∀ps:dc,Dz ps n=ps.any (uY · n)
 |[]=>by simp[Dz]
 |p::ps=>by simp[Dz,Md n ps]
theorem dK.args{p}(r:dK h p v):En h v.args p.args:=by
 cases p;exact r.parts.args_
def pY q:=decide (u9 q 0<=24)&& !uY q 8
def arity(op:Int):=
 if op==1 then 0 else if op==2||op==3||op==9 then 1 else if op==4||op==5||op==6||op==7||op==8||op==10 then 2 else-1
def Wo(N:Nat):Vc.Spec:=λc m h K=>∃v p k,c=[aQ v,cI k,cI 24]/\dK h p v/\SizeOf.sizeOf p<N/\0<=k/\k<=24/\K (cI (u9 p k)) m h
def Ss(N:Nat):Vc.Spec:=λc m h K=>∃v p,∃k:Nat,c=[aQ v,cI k]/\dK h p v/\SizeOf.sizeOf p<N/\k<=100/\K (cB (uY p k)) m h
def aSZ:Vc.Spec:=λc m h K=>∃v p,c=[aQ v]/\dK h p v/\K (cB (pY p)) m h
def Sx:Vc.Spec:=λc m h K=>∃op,c=[cI op]/\K (cI (arity op)) m h
def C9(l:cq)(n:Int):=decide (0<=n)&&decide (n<l.length)
def InS:Vc.Spec:=λc m h K=>∃s l n,c=[cS s,cI n]/\Ints h s l/\K (cB (C9 l n)) m h
noncomputable def bUJ(N:Nat)(v:QV)(m:MH)(h:PH):=
 dJ [(124,Wo N)] [(3,{A:=Nat×Int,st:=λx=>bZ 31 34 [(1,iv x.2),(2,iv 24),(3,.at (.ptr 3 0)),(7,iv x.1)] [(3,.cells 41 (v.enc.map .val))] m h})] [] [] false
noncomputable def bUZ(N:Nat)(v:QV)(k:Nat)(m:MH)(h:PH):=
 dJ [(125,Ss N)] [(4,{A:=Nat,st:=λi=>bZ 23 25 [(1,iv k),(2,.at (.ptr 2 0)),(10,iv v.args.len),(11,iv i)] [(2,.cells 41 (v.enc.map .val))] m h})] [] [] false
abbrev eO(a:QV):=eQ (sS 41 a.enc)
attribute [push_cast] eO
def UA(N:Nat)(v:QV)(k:Int)(m:MH)(h:PH)(K:cn):=
  ∃(I:Nat×Int->Prop)(e:Nat×Int->Nat),(∃(x:Nat×Int),aA (I x) (dH (fM (k+1)) x.2) (aA (fD 24) jU (aA (bE x.1) (eO v) (aA (m=m) (h=h) True))))/\∀(x:Nat×Int),I x->bA (↑x.1:Int) (aG v.args) (branch (decide (x.2<=24)) (bK (λb o=>aI (aW v.args.a b o) (0<=(↑x.1:Int)) ((↑x.1:Int)<aG v.args) (∃(y:QV),aL m h b (o+bM x.1 21) y.enc/\qC (λf p=>∃(c:Int),aA (cE y.enc (fC (gG x.2) 24)=cE f.enc (fC (gG c) 24)) (dK h p f) (aA (yH p N) (cM c) (c<=24/\∃(d:Nat×Int),aA (I d) (e d<e x) (aA (dH (u9 p c) d.2) (fD 24) (aA jU (gX (bH x.1 1)=bP d.1) (aA (eO v) (m=m) (bU h h)))))))))) (K (gG x.2) m h)) (K (gG x.2) m h)
abbrev wF(a:QV):=bJ a.args
attribute [push_cast] wF
def Uz(N:Nat)(v:QV)(k:Nat)(m:MH)(h:PH)(K:cn):=
  eY (↑k:Int) 0 (K iQ m h) (p9 (λI x=>aA (I x) (eQ (bP k)) (aA iZ (wF v) (aA (bE x) (eO v) (aA (m=m) (h=h) True)))) (λI e x=>I x->bA (↑x:Int) (aG v.args) (bK (λb o=>aI (aW v.args.a b o) (0<=(↑x:Int)) ((↑x:Int)<aG v.args) (∃(y:QV),aL m h b (o+bM x 21) y.enc/\qC (λf p=>∃(c:Nat),aA (fC (cZ y) (fM ((↑k:Int)-1))=fC (cZ f) (↑c:Int)) (dK h p f) (aA (yH p N) (c<=100) (branch (uY p c) (K iQ m h) (∃(d:Nat),aA (I d) (e d<e x) (aA (eQ (bP k)) iZ (aA (bJ v.args) (gX (bH x 1)=bP d) (aA (eO v) (m=m) (bU h h))))))))))) (K bG m h)))
def X4(N:Nat)(v:QV)(m:MH)(h:PH)(K:cn):=
  qC (λe p=>∃(k:Int),aA (cE v.enc (fC (gG 0) 24)=cE e.enc (fC (gG k) 24)) (dK h p e) (aA (yH p N) (cM k) (iF (k<=24) (decide (u9 p k<=24)) (qC (λf c=>∃(d:Nat),aA (fC (cZ v) 8=fC (cZ f) (↑d:Int)) (dK h c f) (aA (yH c N) (d<=100) (K (CV.val (Value.bool (!(uY c d)))) m h)))) (K bG m h))))
def Uy(op:Int)(m:MH)(h:PH)(K:cn):=
  dP (op==1) (K (gG 0) m h) (op==2) (K (gG 1) m h) (dP (op==3) (K (gG 1) m h) (op==9) (K (gG 1) m h) (dP (op==4) (K (gG 2) m h) (op==5) (K (gG 2) m h) (dP (op==6) (K (gG 2) m h) (op==7) (K (gG 2) m h) (dP (op==8) (K (gG 2) m h) (op==10) (K (gG 2) m h) (K (gG (Int.negSucc 0)) m h)))))
def T4(s:Sl)(n:Int)(m:MH)(h:PH)(K:cn):=
  iG n 0 (K (As (decide (n<aG s))) m h) (K bG m h)
theorem YL:∀N,cm 124 (Wo N)
 |0=>by
  refine fP (fn:=Tryz.f124) (c:=dY Tryz.f124) func124 rfl az ?_;rintro y m h K ⟨v,p,k,rfl,D,F,_⟩;omega
 |N+1=>by
  refine iU func124 ?_;rintro y m h K ⟨v,p,k,rfl,D,F,J,L,E⟩;refine⟨bUJ N v m h,rfl,aE (YL N) aH,UA N v k m h K,ax,?_⟩;dsimp only[UA,push_cast];have d:=D.args;have e:=d.slen;have M:=d.len;refine⟨λx=>x.1<=p.args.length/\0<=x.2/\x.2<=25/\qK (p.args.drop x.1) x.2=u9 p k,λx=>p.args.length-x.1,⟨(0,k+1),⟨ay,bf,bf,?_⟩,?_⟩,?_⟩
  .cases p;simp[u9,Query.args]
  .rw[fG aC aC];exact MT
  rintro⟨i,n⟩ ⟨G,f,z,g⟩;dsimp only at G f z g⊢
  refine aF (λj=>aF (λt=>?_) (λt=>BN E ?_)) (λH=>BN E ?_)
  .obtain⟨q,A⟩:=fF e j;obtain⟨b,o,u,I,B,C⟩:=d.at A;have O:=KN q n t;rw[drop_cons A,qK,if_pos t]at g;refine⟨b,o,I,aC,j,u,.imm B,u,q,n,rfl,C,?_,f,t,(i+1,u9 q n),⟨aC,aC,aC,g⟩,aC,MT⟩;have:=Dp (bo A);omega
  .rw[<-g,Vy _ t]
  .rw[<-g,drop_of_length_le aC];simp[qK]
theorem YK:∀N,cm 125 (Ss N)
 |0=>by
  refine fP (fn:=Tryz.f125) (c:=dY Tryz.f125) func125 rfl az ?_;rintro j m h K ⟨v,p,k,rfl,A,D,_⟩;omega
 |N+1=>by
  refine iU func125 ?_;rintro j m h K ⟨v,p,k,rfl,A,D,I,g⟩;refine⟨bUZ N v k m h,rfl,aE (YK N) aH,Uz N v k m h K,ax,?_⟩;dsimp only[Uz,push_cast];have d:=A.args;have e:=d.slen;have J:=d.len;refine aD (λB=>kM g ?_) (λB=>?_)
  .have:k=0:=bg
   subst this;cases p;simp[uY]
  .have B:k≠0:=bg
   have n:uY p k=p.args.any (uY · (k-1)):=by
    obtain⟨C,rfl⟩:∃C,k=C+1:=⟨k-1,aC⟩
    cases p;simp[uY,Md,Query.args]
   rw[n]at g;refine⟨λi=>i<=p.args.length/\(p.args.take i).any (uY · (k-1))=false,λi=>p.args.length-i,⟨0,⟨aC,ay⟩,MT⟩,λi E=>aF (λf=>?_) (λF=>kM g ?_)⟩
   .obtain⟨q,t⟩:=fF e f;obtain⟨b,o,u,G,y,z⟩:=d.at t;refine⟨b,o,G,aC,f,u,.imm y,u,q,k-1,?_,z,?_,aC,aD (λH=>kM g ?_) (λH=>?_)⟩
    .rw[fG aC aC,show((k-1:Nat):Int)=(k:Int)-1 by omega]
    .have:=Dp (bo t);omega
    .grind
    .refine⟨i+1,⟨aC,?_⟩,bg,MT⟩;rw[cd,any_append,E.2,t];grind
   grind
theorem beJ:cm 63 aSZ:=by
 refine iU func63 ?_;rintro f m h K ⟨v,p,rfl,d,e⟩;refine⟨dJ [(124,Wo (SizeOf.sizeOf p+1)),(125,Ss (SizeOf.sizeOf p+1))] [] [] [] false,rfl,aE (YL _) (aE (YK _) aH),X4 (SizeOf.sizeOf p+1) v m h K,ax,?_⟩;dsimp only[X4,push_cast];refine⟨v,p,0,rfl,d,aC,aC,aC,aD (λc=>⟨v,p,8,rfl,d,aC,aC,kM e ?_⟩) (λc=>kM e ?_)⟩
 .simp only[pY,c,Bool.true_and]
 .simp only[pY,c,Bool.false_and]
theorem RS:cm 126 Sx:=by
 refine iU func126 ?_;rintro d m h K ⟨op,rfl,c⟩;refine⟨dJ [] [] [] [] false,rfl,aH,Uy op m h K,ax,?_⟩;dsimp only[Uy,push_cast]
 repeat' (first|(refine aD (λ_=>?_) (λ_=>?_))|(refine BN c ?_;simp only[arity];simp only[*,Bool.or_false,Bool.false_or,Bool.or_true,Bool.true_or,Bool.and_true,Bool.true_and,Bool.and_false,Bool.false_and,Bool.not_true,Bool.not_false,Bool.false_eq_true,if_true,if_false, ↓reduceIte];done)|(refine BN c ?_;simp only[arity];grind))
theorem J7:cm 175 InS:=by
 refine iU func175 ?_;rintro e m h K ⟨s,l,n,rfl,f,d⟩;refine⟨dJ [] [] [] [] false,rfl,aH,T4 s n m h K,ax,?_⟩;dsimp only[T4,push_cast];have g:=f.slen;refine aF (λc=>kM d ?_) (λc=>kM d ?_)
 .have c:0<=n:=c;simp only[C9,g,decide_eq_true c,Bool.true_and]
 .have c:¬0<=n:=by omega
  simp only[C9,decide_eq_false c,Bool.false_and]
def nT(a b:cq)(c:cw)(p:Int×Int):=C9 a p.1=true/\C9 b p.2=true/\a.getD p.1.toNat 0=b.getD p.2.toNat 0/\∀q∈c,q.1≠p.1/\q.2≠p.2
def G2(a d:cq)(c:Int):=C9 a c=true/\c∉d
def Kj(a:cq)(_:cv)(o:Int×Bool):=C9 a o.1=true
structure nJ(a:cq)(group:cq)(order:cv)(limit:Int):Prop where
 group_:Good (G2 a) group
 order_:Good (Kj a) order
 len_:order.length<=12
 low:0<=limit
 high:limit<=100
def aUJ:Vc.Spec:=λc m h K=>∃s t u on a b,c=[cS s,cS t,cS u]/\jD h s on/\Ints h t a/\Ints h u b/\∀r:Bool,(r=true↔Good (nT a b) on)->K (cB r) m h
def aUX:Vc.Spec:=λc m h K=>∃v t g o a,c=[aQ v,cS t]/\Ints h v.group g/\jC h v.order o/\Ints h t a/\∀r:Bool,(r=true↔nJ a g o v.limit)->K (cB r) m h
noncomputable def bOQ s t u m h:=
 dJ [(175,InS)] [(2,{A:=Nat,st:=λi=>bZ 66 69 [(0,sv s),(1,sv t),(2,sv u),(10,sv s),(11,iv s.len),(12,iv i)] [] m h}),
  (7,{A:=Nat×Nat×(Int×Int),st:=λ⟨i,k,p⟩=>bZ 66 69 [(0,sv s),(1,sv t),(2,sv u),(7,iv i),(8,.at (.ptr 8 0)),(9,iv k),(10,sv s),(11,iv s.len),(12,iv i)] [(8,.cells 130 [.val (.int .i64 p.1),.val (.int .i64 p.2)])] m h})] [] [] false
noncomputable def bNJ(v:QV)(t:Sl)(m:MH)(h:PH):=
 dJ [(175,InS)] [(2,{A:=Nat,st:=λi=>bZ 62 64 [(1,sv t),(2,.at (.ptr 2 0)),(11,sv v.group),(12,iv v.group.len),(13,iv i)] [(2,.cells 41 (v.enc.map .val))] m h}),
  (7,{A:=Nat×Nat×Int,st:=λ⟨i,k,c⟩=>bZ 62 64 [(1,sv t),(2,.at (.ptr 2 0)),(5,iv i),(6,iv c),(7,iv k),(11,sv v.group),(12,iv v.group.len),(13,iv i)] [(2,.cells 41 (v.enc.map .val))] m h}),
  (13,{A:=Nat,st:=λi=>bZ 62 64 [(1,sv t),(2,.at (.ptr 2 0)),(36,sv v.order),(37,iv v.order.len),(38,iv i)] [(2,.cells 41 (v.enc.map .val))] m h})] [] [] false
noncomputable abbrev i6 a b:=fC (qW a) b
abbrev Iu(a:Sl)(b:Int)(c:Nat->Nat->Option Value)(d:cq->Int->Prop):=sC (λx e=>∃(f:Int),aA (i6 a b=i6 x f) (Ints c x e) (d e f))
abbrev iM:=eP 8
abbrev Gh a b:=oQ 130 a=oQ 130 b
noncomputable abbrev xT(a:Int×Int):=oT (kF a.1) (kF a.2)
attribute [push_cast] i6 Iu iM Gh xT
def T3(s t u:Sl)(m:MH)(h:PH)(K:cn):=
  p9 (λI x=>aA (I x) (aJ s) (aA (aJ t) (aJ u) (aA (aJ s) (bJ s) (aA (bE x) (m=m) (bU h h))))) (λI e x=>I x->bA (↑x:Int) (aG s) (bK (λb o=>aI (aW s.a b o) (0<=(↑x:Int)) ((↑x:Int)<aG s) (∃(y:Int×Int),aI (aL m h b (o+bM x 2) (vY y)) ((0:Int)<=0) ((0:Int)<2) (Iu t y.1 h (λl n=>oF (C9 l n) (K bG m h) (aA (cM 1) ((1:Int)<2) (Iu u y.2 h (λL M=>oF (C9 L M) (K bG m h) (aA (cM 0) ((0:Int)<2) (bK (λf g=>aI (aW t.a f g) (0<=y.1) (y.1<aG t) (∃(j:Int),aI (aL m h f (g+iA y.1 1) (bC j)) ((0:Int)<=1) ((1:Int)<2) (bK (λz A=>aI (aW u.a z A) (0<=y.2) (y.2<aG u) (∃(B:Int),aL m h z (A+iA y.2 1) (bC B)/\cX j B (K bG m h) (∃(I1:Nat×
 Nat×Int×Int->Prop)(C:Nat×Nat×Int×Int->Nat),(∃(c:Nat×Nat×Int×Int),aA (I1 c) (aJ s) (aA (aJ t) (aJ u) (aA (cG x c.1) iM (aA (bE c.2.1) (aJ s) (aA (bJ s) (cG x c.1) (aA (Gh (xT y) (xT c.2.2)) (m=m) (bU h h)))))))/\∀(c:Nat×Nat×Int×Int),I1 c->bA (↑c.2.1:Int) (↑c.1:Int) (bK (λD E=>aA (aW s.a D E) (cM (↑c.2.1:Int)) (aA ((↑c.2.1:Int)<aG s) (cM 0) ((0:Int)<2/\∃(F:Int),aI (aL m h D (E+bM c.2.1 2+0) (bC F)) ((0:Int)<=0) ((0:Int)<2) (eY F c.2.2.1 (K bG m h) (bK (λG H=>aA (aW s.a G H) (cM (↑c.2.1:Int)) (aA ((↑c.2.1:Int)<aG s) (cM 1) ((1:Int)<2/\∃(J:Int),aI (aL m h G (H+bM c.2.1 2+1) (bC J)) ((0:Int)<=1) ((1:Int)<2) (eY
 J c.2.2.2 (K bG m h) (∃(d:Nat×Nat×Int×Int),aA (I1 d) (C d<C c) (aA (aJ s) (aJ t) (aA (aJ u) (cG c.1 d.1) (aA iM (gX (bH c.2.1 1)=bP d.2.1) (aA (aJ s) (bJ s) (aA (cG c.1 d.1) (Gh (xT c.2.2) (xT d.2.2)) (eG m m h h))))))))))))))))) (∃(d:Nat),aA (I d) (e d<e x) (aA (aJ s) (aJ t) (aA (aJ u) (aJ s) (aA (bJ s) (gX (bH c.1 1)=bP d) (eG m m h h))))))))))))))))))))) (K iQ m h))
def T2(v:QV)(t:Sl)(m:MH)(h:PH)(K:cn):=
  p9 (λI x=>aA (I x) (aJ t) (aA (eP 2) (aJ v.group) (aA (bJ v.group) (bE x) (aA (eO v) (m=m) (bU h h))))) (λI f x=>I x->bA (↑x:Int) (aG v.group) (bK (λb o=>aI (aW v.group.a b o) (0<=(↑x:Int)) ((↑x:Int)<aG v.group) (∃(y:Int),aL m h b (o+bM x 1) (bC y)/\Iu t y h (λl n=>oF (C9 l n) (K bG m h) (∃(I1:Nat×Nat×Int->Prop)(e:Nat×Nat×Int->Nat),(∃(c:Nat×Nat×Int),aA (I1 c) (aJ t) (aA (eP 2) (cG x c.1) (aA (dH y c.2.2) (bE c.2.1) (aA (aJ v.group) (bJ v.group) (aA (cG x c.1) (eO v) (aA (m=m) (h=h) True))))))/\∀(c:Nat×Nat×Int),I1 c->bA (↑c.2.1:Int) (↑c.1:Int) (bK (λg j=>aI (aW v.group.a g j) (0<=(↑c.2.1:Int)) ((↑c.2.1:Int)<aG v.group) (∃(u:Int),aL m h g
 (j+bM c.2.1 1) (bC u)/\eY u c.2.2 (K bG m h) (∃(d:Nat×Nat×Int),aA (I1 d) (e d<e c) (aA (aJ t) iZ (aA (cG c.1 d.1) (dH c.2.2 d.2.2) (aA (gX (bH c.2.1 1)=bP d.2.1) (aJ v.group) (aA (bJ v.group) (cG c.1 d.1) (aA (eO v) (m=m) (bU h h)))))))))) (∃(d:Nat),aA (I d) (f d<f x) (aA (aJ t) iZ (aA (aJ v.group) (bJ v.group) (aA (gX (bH c.1 1)=bP d) (eO v) (eG m m h h)))))))))) (p9 (λI1 c=>aA (I1 c) (aJ t) (aA (eP 2) (aJ v.order) (aA (bJ v.order) (bE c) (aA (eO v) (m=m) (bU h h))))) (λI1 e c=>I1 c->bA (↑c:Int) (aG v.order) (bK (λb o=>aI (aW v.order.a b o) (0<=(↑c:Int)) ((↑c:Int)<aG v.order) (∃(y:Int×Bool),aL m h b (o+bM c 2) (Bl y)/\Iu t
 y.1 h (λl n=>oF (C9 l n) (K bG m h) (∃(d:Nat),aA (I1 d) (e d<e c) (aA (aJ t) iZ (aA (aJ v.order) (bJ v.order) (aA (gX (bH c 1)=bP d) (eO v) (eG m m h h))))))))) (branch (decide (aG v.order<=12)) (iG v.limit 0 (K (As (decide (v.limit<=100))) m h) (K bG m h)) (K bG m h)))))
theorem Q4{α}{l:List α}{k x}(hx:l[i]? =some x)(c:i<k):x∈l.take k:=mem_of_getElem? (i:=i) bg
theorem WL{α}{l:List α}{x y}(hx:l[i]? =some x)(c:y∈l.take (i+1)):y∈l.take i\/y=x:=by
 rw[cd,hx,mem_append]at c
 grind
theorem fB{n}:C9 l n=true↔0<=n/\n<l.length:=by simp[C9]
theorem amQ:cm 176 aUJ:=by
 refine iU func176 ?_;rintro S m h K ⟨s,t,u,on,a,b,rfl,n,o,y,F⟩;refine⟨bOQ s t u m h,rfl,aE J7 aH,T3 s t u m h K,ax,?_⟩;dsimp only[T3,push_cast];have T:=n.slen;have G:=n.len;have ta:=o.slen;have ub:=y.slen;refine⟨λi=>i<=on.length/\gQ (nT a b) on i,λi=>on.length-i,⟨0,⟨aC,.zero⟩,MT⟩,λi⟨hi,H⟩=>aF (λf=>?_) (λU=>F true ⟨λ_=>H.all aC,λ_=>rfl⟩)⟩;obtain⟨p,z⟩:=fF T f;obtain⟨V,W,X,Y⟩:=n.at z;have bad:¬nT a b (on.take i) p->K (.val (.bool false)) m h:=λZ=>F false ⟨λe=>(by cases e),λe=>(Good.not z Z e).elim⟩;refine⟨V,W,X,aC,f,p,.imm Y,aC,aC,t,a,p.1,rfl,o,aD (λA=>bad λc=>?_) (λA=>⟨aC,aC,u,b,p.2,rfl,y,aD (λB=>bad λc=>?_) (λB=>?_)⟩)⟩
 .rw[c.1]at A;cases A
 .rw[c.2.1]at B;cases B
 have I:C9 a p.1=true:=bg
 have J:C9 b p.2=true:=bg
 have g:=fB.1 I;have j:=fB.1 J;obtain⟨b2,o2,e2,r2⟩:=o.inb g.1 g.2;obtain⟨b3,o3,e3,r3⟩:=y.inb j.1 j.2;refine⟨aC,aC,b2,o2,e2,aC,aC,_,.imm r2,aC,aC,b3,o3,e3,aC,aC,_,.imm r3,aD (λC=>bad λc=>?_) (λC=>?_)⟩
 .rw[c.2.2.1]at C;simp at C
 refine⟨λ⟨i',k,p'⟩=>i'=i/\p'=p/\k<=i/\∀q∈on.take k,q.1≠p.1/\q.2≠p.2,λ⟨_,k,_⟩=>i-k,⟨(i,0,p),⟨rfl,rfl,aC,λq d=>by simp at d⟩,MT⟩,?_⟩;rintro⟨i,k,p⟩ ⟨rfl,rfl,hk,D⟩;dsimp only;refine aF (λL=>?_) (λM=>?_)
 .obtain⟨q,d⟩:∃q,on[k]? =some q:=⟨on[k]'(by omega),bn _⟩
  obtain⟨O,P,Q,R⟩:=n.at d;refine⟨O,P,Q,aC,aC,aC,aC,q.1,.imm (cR.part R 0 1),aC,aC,aD (λh4=>bad λc=>?_) (λh4=>⟨O,P,Q,aC,aC,aC,aC,q.2,.imm (cR.part R 1 1),aC,aC,aD (λh5=>bad λc=>?_) (λh5=>?_)⟩)⟩
  .exact(c.2.2.2 q (Q4 d aC)).1 bg
  .exact(c.2.2.2 q (Q4 d aC)).2 bg
  .refine⟨(i,k+1,p),⟨rfl,rfl,bg,λq' E=>?_⟩,bg,MT⟩;rcases WL d E with e|rfl
   .grind
   grind
 .have:k=i:=by omega
  subst this;exact⟨k+1,⟨aC,H.succ z ⟨I,J,bg,D⟩⟩,aC,MT⟩
theorem alJ:cm 177 aUX:=by
 refine iU func177 ?_;rintro V m h K ⟨v,t,g,o,a,rfl,C,D,L,M⟩;refine⟨bNJ v t m h,rfl,aE J7 aH,T2 v t m h K,ax,?_⟩;dsimp only[T2,push_cast];have W:=C.slen;have O:=C.len;have X:=D.slen;have P:=D.len;have bad:¬nJ a g o v.limit->K (.val (.bool false)) m h:=λY=>M false ⟨λe=>(by cases e),λe=>(Y e).elim⟩;refine⟨λi=>i<=g.length/\gQ (G2 a) g i,λi=>g.length-i,⟨0,⟨aC,.zero⟩,MT⟩,λi⟨Q,u⟩=>aF (λd=>?_) (λy=>?_)⟩
 .obtain⟨c,n⟩:=fF W d;obtain⟨E,F,G,H⟩:=C.at' n;refine⟨E,F,G,aC,d,c,.imm H,t,a,c,rfl,L,aD (λf=>bad λj=>Good.not n (λz=>?_) j.group_) (λf=>?_)⟩
  .rw[z.1]at f;cases f
  refine⟨λ⟨Z,k,c'⟩=>Z=i/\c'=c/\k<=i/\c∉g.take k,λ⟨_,k,_⟩=>i-k,⟨(i,0,c),⟨rfl,rfl,aC,ay⟩,MT⟩,?_⟩;rintro⟨i,k,c⟩ ⟨rfl,rfl,hk,A⟩;dsimp only;refine aF (λR=>?_) (λS=>?_)
  .obtain⟨q,I⟩:∃q,g[k]? =some q:=⟨g[k]'(by omega),bn _⟩
   obtain⟨b4,o4,e4,r4⟩:=C.at' I;refine⟨b4,o4,e4,aC,aC,q,.imm r4,aD (λT=>bad λj=>Good.not n (λz=>?_) j.group_) (λT=>?_)⟩
   .refine z.2 ?_;have:q=c:=bg
    rw[<-this];exact Q4 I aC
   .refine⟨(i,k+1,c),⟨rfl,rfl,bg,λJ=>?_⟩,bg,MT⟩;rcases WL I J with e|rfl
    .exact A e
    .simp at T
  .have:k=i:=by omega
   subst this;exact⟨k+1,⟨aC,u.succ n ⟨bg,A⟩⟩,aC,MT⟩
 have gg:=u.all aC;clear Q u y;refine⟨λi=>i<=o.length/\gQ (Kj a) o i,λi=>o.length-i,⟨0,⟨aC,.zero⟩,MT⟩,λi⟨Q,B⟩=>aF (λd=>?_) (λy=>?_)⟩
 .obtain⟨c,n⟩:=fF X d;obtain⟨E,F,G,H⟩:=D.at n;refine⟨E,F,G,aC,d,c,.imm H,t,a,c.1,rfl,L,aD (λf=>bad λj=>Good.not n (λz=>?_) j.order_) (λf=>⟨i+1,⟨aC,B.succ n (by simpa[Kj]using f)⟩,bg,MT⟩)⟩;rw[show C9 a c.1=true from z]at f;cases f
 have oo:=B.all aC;refine aF (λf=>aF (λU=>?_) (λU=>bad λj=>?_)) (λf=>bad λj=>?_)
 .refine M (decide (v.limit<=100)) ⟨λe=>⟨gg,oo,aC,U,bk e⟩,λe=>decide_eq_true e.high⟩
 .have:=j.low;omega
 .have:=j.len_;omega
def fW:Pred:=.mk 0 0 gA gA []
def cV:Query->Prop
 |.mk op ta w co on gr od li _=>(op=1\/ta=0)/\(op=2\/w=fW)/\(op=3\/co=[])/\(op=4\/op=5\/on=[])/\(op=9\/op=10\/(gr=[]/\od=[]/\li=0))
def nF(l:cq):cq×Int:=if l.length<=12 then(l,0)else([],2)
def eF(e:Int):cq×Int:=([],e)
open Classical in
noncomputable def eT(s:jP)(ps:cq)(q:Query)(a b:cq):cq×Int:=
 if arity (match q with|.mk op .. =>op)<0\/¬cV q then eF 100 else
 match q with
 |.mk op ta w co on gr od li _=>
  if op=1 then(if 0<=ta/\ta<s.tables.length then nF (jB s ta)else eF 100)
  else if op=2 then(if iI a ps w=0 then nF a else eF (iI a ps w))
  else if op=3 then(if co≠[]/\Good (λ_ c=>C9 a c=true) co then nF (co.map λc=>a.getD c.toNat 0)else eF 100)
  else if op=4 then(if Good (nT a b) on then nF (a++b)else eF 100)
  else if op=5 then(if Good (nT a b) on then nF a else eF 100)
  else if op=9 then(if nJ a gr od li then nF a else eF 100)
  else if op=10 then(if a=b/\nJ a gr od li then nF a else eF 100)
  else(if a=b then nF a else eF 100)
def aRJ:Vc.Spec:=λc m h K=>∃v q,c=[aQ v]/\dK h q v/\∀r:Bool,(r=true↔cV q)->K (cB r) m h
def KR(K:cn)(m:MH)(h:PH)(r:cq×Int):=∀c h',PH.le h h'->Ints h' c r.1->K (.tup [cS c,cI r.2]) m h'
def cIJ:=λc m h K=>∃sc p v a b s ps q d e,c=[aS sc,cS p,aQ v,cS a,cS b]/\iK h s sc/\oE s/\Ints h p ps/\dK h q v/\Ints h a d/\Ints h b e/\d.length<=12/\e.length<=12/\KR K m h (eT s ps q d e)
noncomputable def bUX m:=
 dJ [(126,Sx),(174,aRJ),(45,vJ),(66,vI),(175,InS),(176,aUJ),(177,aUX),(178,DE)] [(20,{A:=Nat×Sl×Sl×cq×PH,st:=λ⟨i,a,co,l,h⟩=>bZ 121 126 [(3,sv a),(12,.at (.lst 94)),(78,sv co),(79,iv co.len),(80,iv i)] [(94,.lst 3 1 (l.map eI))] m h})] [] [] false
noncomputable def bOX(v:QV)(m:MH)(h:PH):=
 c6Q [(224,cEQ)] [] [(2,{A:=Bool,st:=λr=>bZ 78 79 [(1,.at (.ptr 1 0)),(3,bv r)] [(1,.cells 41 (v.enc.map .val))] m h})] [(2,[(9,{A:=Bool×Bool,st:=λx=>bZ 78 79 [(1,.at (.ptr 1 0)),(3,bv x.1),(20,bv x.2)] [(1,.cells 41 (v.enc.map .val))] m h}),
  (11,{A:=Bool×Bool,st:=λx=>bZ 78 79 [(1,.at (.ptr 1 0)),(3,bv x.1),(31,bv x.2)] [(1,.cells 41 (v.enc.map .val))] m h}),
  (11,{A:=Bool×Bool,st:=λx=>bZ 78 79 [(1,.at (.ptr 1 0)),(3,bv x.1),(42,bv x.2)] [(1,.cells 41 (v.enc.map .val))] m h}),
  (16,{A:=Bool×Bool,st:=λx=>bZ 78 79 [(1,.at (.ptr 1 0)),(3,bv x.1),(58,bv x.2)] [(1,.cells 41 (v.enc.map .val))] m h})])] [] false
abbrev jQ a b:=sQb a=sQb b
abbrev zC a:=jQ true a
abbrev Lp(a:Prop)(b:(Bool×Bool->Prop)->Prop)(c:(Bool×Bool->Prop)->(Bool×Bool)->Prop):=a->∃(x:Bool×Bool->Prop),b x/\∀(d:Bool×Bool),c x d
noncomputable abbrev iP:=oW pV
abbrev It(a:Bool×Bool->Prop)(b:Bool×Bool)(c:(Bool×Bool)->Prop)(d:QV)(e:MH)(g:PH):=∃(x:Bool×Bool),aA (a x) eW (aA (jQ b.1 x.1) (c x) (dL (eO d) e e g g))
abbrev EH a:=jQ false a
attribute [push_cast] jQ zC Lp iP It EH
def T5(v:QV)(m:MH)(h:PH)(K:cn):=
  ∃(I:Bool->Prop),eY v.op 9 (∃(x:Bool),aA (I x) eW (aA (zC x) (eO v) (eG m m h h))) (∃(x:Bool),aA (I x) eW (aA (jQ (v.op==10) x) (eO v) (eG m m h h)))/\∀(x:Bool),Lp (I x) (λI1=>eY v.op 1 (∃(e:Bool×Bool),aA (I1 e) eW (aA (jQ x e.1) (zC e.2) (dL (eO v) m m h h))) (∃(e:Bool×Bool),aA (I1 e) eW (aA (jQ x e.1) (jQ (v.table==0) e.2) (dL (eO v) m m h h)))) (λI1 e=>Lp (I1 e) (λI2=>branch e.2 (eY v.op 2 (∃(d:Bool×Bool),aA (I2 d) eW (aA (jQ e.1 d.1) (zC d.2) (dL (eO v) m m h h))) (Lo (λg w p q=>aI (kH v.where_.enc (aX bI bI (aX bI bI (aX bI bI (aX vQz bI (aX bI bI (aX bI vQz iP))))))=kH g.enc w.enc) (fO h p g) (fO h q w)
 (∀(r:Bool),iD r (p=q)->It I2 e (λd=>jQ r d.2) v m h)))) (∃(d:Bool×Bool),aA (I2 d) eW (aA (jQ e.1 d.1) (EH d.2) (dL (eO v) m m h h)))) (λI2 d=>Lp (I2 d) (λI3=>branch d.2 (eY v.op 3 (∃(c:Bool×Bool),aA (I3 c) eW (aA (jQ d.1 c.1) (zC c.2) (dL (eO v) m m h h))) (It I3 d (λc=>jQ (aG v.columns==0) c.2) v m h)) (∃(c:Bool×Bool),aA (I3 c) eW (aA (jQ d.1 c.1) (EH c.2) (dL (eO v) m m h h)))) (λI3 c=>Lp (I3 c) (λI4=>branch c.2 (dP (v.op==4) (It I4 c (λf=>zC f.2) v m h) (v.op==5) (It I4 c (λf=>zC f.2) v m h) (It I4 c (λf=>jQ (aG v.on==0) f.2) v m h)) (∃(f:Bool×Bool),aA (I4 f) eW (aA (jQ c.1 f.1) (EH f.2) (dL (eO
 v) m m h h)))) (λI4 f=>hX (I4 f) f.2 (dP f.1 (K iQ m h) (aG v.group==0) (eY (aG v.order) 0 (K (As (v.limit==0)) m h) (K bG m h)) (K bG m h)) (K bG m h)))))
abbrev A8(a:Int)(b:Int->Prop):=∃(x:Int),sB a x/\b x
abbrev cC(a:cn)(b:Int)(c:Nat->Option Obj)(d:Nat->Nat->Option Value):=a (CV.tup (fC Ft b)) c d
noncomputable abbrev dO(a:Sl):=Sl.mk a.a a.len a.cap
abbrev lO(a:cn)(b:Sl)(c:Int)(d:Nat->Option Obj)(e:PH):=a (CV.tup (fC (qW b) c)) d e
noncomputable abbrev tE(a:List cr):=(↑a.length:Int)
abbrev uL a b c d:=cF a 1 b (λx e=>lO c x 0 d e)
noncomputable abbrev Be(a:Nat×Sl×Sl×cq×PH):=a.2.2.1
noncomputable abbrev Bf(a:Nat×Sl×Sl×cq×PH):=a.2.2.2.2
noncomputable abbrev ID(a:Nat×Sl×Sl×cq×PH):=hU a.2.2.2.1
abbrev HB(a:Sl->cw->Prop):=∃(x:Sl)(c:cw),a x c
abbrev sY(a b:List cr)(c:Nat):=jA (j4 a b.length) c
abbrev sZ(a b:List cr):=oC (j4 a b.length)
abbrev QX(a:Sl->cq->cv->Prop):=sC (λx c=>∃(d:cv),a x c d)
noncomputable abbrev lL a b:=gC (cZ a) (qW b)
attribute [push_cast] A8 cC dO lO tE uL Be Bf ID HB sY sZ QX lL
def NI sc p v a b m h K:=
  A8 v.op (λo=>bA (arity o) 0 (cC K 100 m h) (qC (λC q=>aA (fY (cZ v) (cZ C)) (dK h q C) (∀(r:Bool),hX (iD r (cV q)) (!r) (cC K 100 m h) (∃(y:List cr),aA (fU 1 y) (dD h (dO a) 1 y) (aA (jA y.length 8) (oC y.length) (dP (v.op==1) (bA v.table 0 (cC K 100 m h) (iG v.table (kT sc) (cC K 100 m h) (A9 sc v.table h (λs D=>fZ (aG s) 12 (cC K 2 m D) (lO K s 0 m D))))) (v.op==2) (Ga (dE a (gT p (lN v.where_))) h (λc E F=>qB (iI c E F !=0) (cC K (iI c E F) m h) (tE y) 12 (cC K 2 m h) (uL h y K m))) (dP (v.op==3) (eY (aG v.columns) 0 (cC K 100 m h) (∃(I:Nat×Sl×Sl×cq×PH->Prop)(G:Nat×Sl×Sl×cq×PH->Nat),(∃(x:Nat×Sl×Sl×cq×
 PH),aA (I x) (aZ a x.2.1) (aA (eL 94) (aZ v.columns (Be x)) (aA (bQ v.columns (Be x)) (bE x.1) (aA (tG x.2.2.2.1) (m=m) (bU h (Bf x))))))/\∀(x:Nat×Sl×Sl×cq×PH),I x->bA (↑x.1:Int) (aG (Be x)) (bK (λj e=>aI (aW (Be x).a j e) (0<=(↑x.1:Int)) ((↑x.1:Int)<aG (Be x)) (∃(d:Int),aL m (Bf x) j (e+bM x.1 1) (bC d)/\Iu x.2.1 d (Bf x) (λl n=>oF (C9 l n) (cC K 100 m (Bf x)) (bK (λH J=>aI (aW x.2.1.a H J) (0<=d) (d<aG x.2.1) (∃(L:Int),aI (aL m (Bf x) H (J+iA d 1) (bC L)) (A4 (ID x)) (dR (ID x)) (∃(B:Nat×Sl×Sl×cq×PH),aA (I B) (G B<G x) (aA (aZ x.2.1 B.2.1) (eL 94) (aA (aZ (Be x) (Be B)) (bQ (Be x)
 (Be B)) (aA (gX (bH x.1 1)=bP B.1) (lS (dN (ID x) (bC L)) B.2.2.2.1) (eG m m (Bf x) (Bf B))))))))))))) (fZ (tE (ID x)) 12 (cC K 2 m (Bf x)) (uL (Bf x) (ID x) K m)))) (v.op==4) (sG (λs t=>HB (λu e=>J3 (λz j=>aA (dE v.on (cJ a b)=dE s (cJ t u)) (jD h s e) (aA (Ints h t z) (Ints h u j) (∀(f:Bool),iD f (Good (nT z j) e)->dP (!f) (cC K 100 m h) (v.op==4) (∃(d:List cr),aA (fU 1 d) (dD h (dO b) 1 d) (aA (sY y d 8) (sZ y d) (fZ (tE (y++d)) 12 (cC K 2 m h) (uL h (y++d) K m)))) (fZ (tE y) 12 (cC K 2 m h) (uL h y K m)))))))) (dP (v.op==5) (sG (λs t=>HB (λu e=>J3 (λz j=>aA (dE v.on (cJ a b)=dE s
 (cJ t u)) (jD h s e) (aA (Ints h t z) (Ints h u j) (∀(f:Bool),iD f (Good (nT z j) e)->dP (!f) (cC K 100 m h) (v.op==4) (∃(d:List cr),aA (fU 1 d) (dD h (dO b) 1 d) (aA (sY y d 8) (sZ y d) (fZ (tE (y++d)) 12 (cC K 2 m h) (uL h (y++d) K m)))) (fZ (tE y) 12 (cC K 2 m h) (uL h y K m)))))))) (v.op==9) (∃(A:QV),QX (λt g e=>∃(z:cq),aA (lL v a=lL A t) (Ints h A.group g) (aA (jC h A.order e) (Ints h t z) (∀(f:Bool),iD f (nJ z g e A.limit)->qB (!f) (cC K 100 m h) (tE y) 12 (cC K 2 m h) (uL h y K m))))) (A7 a b h (λz j f=>iD f (z=j)->dP (!f) (cC K 100 m h) (v.op==10) (∃(A:QV),QX (λt g e=>∃(M:cq),aA (lL v a=lL A t)
 (Ints h A.group g) (aA (jC h A.order e) (Ints h t M) (∀(O:Bool),iD O (nJ M g e A.limit)->qB (!O) (cC K 100 m h) (tE y) 12 (cC K 2 m h) (uL h y K m))))) (fZ (tE y) 12 (cC K 2 m h) (uL h y K m)))))))))))))
theorem Ff{α n}{l:List α}(h:n=l.length):((n:Int)==0)=true↔l=[]:=by
 rw[beq_iff_eq,h, <-length_eq_zero_iff];omega
theorem FH h:fO h fW ⟨0,0,gA,gA,⟨none,0,0⟩⟩:=fO.mk (v:=⟨0,0,gA,gA,⟨none,0,0⟩⟩) (.nil _ _ _ _)
theorem amX:cm 174 aRJ:=by
 refine iU func174 ?_;rintro o m h K ⟨v,q,rfl,t,g⟩;refine⟨bOX v m h,rfl,aE acQ aH,T5 v m h K,ax,?_⟩;dsimp only[T5,push_cast];obtain⟨op,ta,w,co,on,gr,od,li,args⟩:=q;have a:=t.parts;have u:=a.op_;have y:=a.table_;have z:=a.limit_;have D:=Ff a.columns_.slen;have E:=Ff a.on_.slen;have F:=Ff a.group_.slen;have G:=Ff a.order_.slen;simp only[cV]at g;subst u y z;refine⟨λr=>(r=true↔v.op=9\/v.op=10),aD (λd=>⟨true,bg,MT⟩) (λd=>⟨_,?_,MT⟩),λr j=>?_⟩
 .grind
 refine⟨λx=>x.1=r/\(x.2=true↔(v.op=1\/v.table=0)),aD (λd=>⟨(r,true),⟨rfl,bg⟩,MT⟩) (λd=>⟨(r,_),⟨rfl,?_⟩,MT⟩),?_⟩
 .grind
 rintro⟨r,c⟩ ⟨rfl,e⟩;dsimp only at e j⊢
 refine⟨λx=>x.1=r/\(x.2=true↔(v.op=1\/v.table=0)/\(v.op=2\/w=fW)),aD (λd=>aD (λf=>⟨(r,true),⟨rfl,⟨λ_=>⟨e.1 d,.inl bg⟩,λ_=>rfl⟩⟩,MT⟩) (λf=>⟨v.where_,⟨0,0,gA,gA,⟨none,0,0⟩⟩,w,fW,rfl,a.where_,FH h,λA B=>⟨(r,A),⟨rfl,?_⟩,MT⟩⟩)) (λd=>⟨(r,false),⟨rfl,?_⟩,MT⟩),?_⟩
 .grind
 .grind
 clear e c;rintro⟨r,c⟩ ⟨rfl,e⟩;dsimp only at e j⊢
 refine⟨λx=>x.1=r/\(x.2=true↔(v.op=1\/v.table=0)/\(v.op=2\/w=fW)/\(v.op=3\/co=[])),aD (λd=>aD (λf=>⟨(r,true),⟨rfl,⟨λ_=>⟨(e.1 d).1,(e.1 d).2,.inl bg⟩,λ_=>rfl⟩⟩,MT⟩) (λf=>⟨(r,_),⟨rfl,?_⟩,MT⟩)) (λd=>⟨(r,false),⟨rfl,?_⟩,MT⟩),?_⟩
 .grind
 .grind
 clear e c;rintro⟨r,c⟩ ⟨rfl,e⟩;dsimp only at e j⊢
 refine⟨λx=>x.1=r/\(x.2=true↔(v.op=1\/v.table=0)/\(v.op=2\/w=fW)/\(v.op=3\/co=[])/\(v.op=4\/v.op=5\/on=[])),aD (λd=>aD (λf=>⟨(r,true),⟨rfl,⟨λ_=>⟨(e.1 d).1,(e.1 d).2.1,(e.1 d).2.2,.inl bg⟩,λ_=>rfl⟩⟩,MT⟩) (λf=>aD (λn=>⟨(r,true),⟨rfl,⟨λ_=>⟨(e.1 d).1,(e.1 d).2.1,(e.1 d).2.2,.inr (.inl bg)⟩,λ_=>rfl⟩⟩,MT⟩) (λn=>⟨(r,_),⟨rfl,?_⟩,MT⟩))) (λd=>⟨(r,false),⟨rfl,?_⟩,MT⟩),?_⟩
 .grind
 .grind
 clear e c;rintro⟨r,c⟩ ⟨rfl,e⟩;dsimp only at e j⊢
 refine aD (λd=>aD (λf=>g true ⟨λ_=>?_,λ_=>rfl⟩) (λf=>aD (λn=>aD (λC=>g _ ?_) (λC=>g false ?_)) (λn=>g false ?_))) (λd=>g false ?_)
 .grind
 .grind
 .grind
 .grind
 .grind
theorem BL(l:cq):fU 1 (l.map eI):=by
 constructor
 .intro e c;obtain⟨x,_,rfl⟩:=mem_map.1 c;rfl
 .intro e c u d;obtain⟨x,_,rfl⟩:=mem_map.1 c;simp[eI]at d;subst d;rfl
theorem KR.err{r e}(d:KR K m h r)(c:PH.le h h')(f:r=eF e):K (.tup [.val (.slice none 0 0),.val (.int .i64 e)]) m h':=by
 subst f;exact d ⟨none,0,0⟩ h' c ⟨.nil _ _,by simp[eF]⟩
theorem KR.big{r}(d:KR K m h r)(c:PH.le h h')(e:r=nF l)(f:12<l.length):K (.tup [.val (.slice none 0 0),.val (.int .i64 2)]) m h':=
 d.err c (by rw[e,nF,if_neg aC];rfl)
theorem KR.ok{r sl}(d:KR K m h r)(c:PH.le h h')(e:r=nF l)(f:l.length<=12)(g:dD h' sl 1 (l.map eI)):K (.tup [.val (.slice sl.a sl.len sl.cap),.val (.int .i64 0)]) m h':=by
 rw[e,nF,if_pos f]at d;exact d sl h' c ⟨g,bg⟩
theorem cAZ{p a:Sl}{b q n C}(W:iK h s sc)(h8:oE s)(hp:Ints h p ps)(X:dK h q v)(B:Ints h a n)(L:Ints h b C)(Y:n.length<=12)(Z:C.length<=12)(d:KR K m h (eT s ps q n C)):NI sc p v a b m h K:=by
 dsimp only[NI,push_cast];have O:=X;obtain⟨op,ta,w,co,on,gr,od,li,args⟩:=q;have x:=X.parts;have e0:=x.op_;have e1:=x.table_;have e2:=x.limit_;have a0:=W.tables.slen;have a1:=B.slen;have H:=x.columns_.slen;have P:=x.columns_.len;subst e0 e1 e2;refine⟨v.op,rfl,aF (λQ=>d.err (.refl _) ?_) (λQ=>⟨v,_,rfl,O,λr z=>aD (λh2=>d.err (.refl _) ?_) (λh2=>?_)⟩)⟩
 .unfold eT;rw[if_pos (.inl Q)]
 .unfold eT;rw[if_pos (.inr λe=>bg)]
 have hu:cV (.mk v.op v.table w co on gr od v.limit args):=z.1 bg;unfold eT at d;rw[if_neg (λe=>e.elim Q (λe=>e hu))]at d;dsimp only at d;clear z h2;refine⟨n.map eI,BL _,B.row,bf,bf,aD (λo=>?_) (λo=>aD (λy=>?_) (λy=>aD (λA=>?_) (λA=>aD (λD=>?_) (λD=>aD (λE=>?_) (λE=>aD (λI=>?_) (λI=>?_))))))⟩
 .rw[beq_iff_eq]at o;rw[if_pos o]at d;refine aF (λu=>d.err (.refl _) (if_neg aC)) (λu=>aF (λt=>d.err (.refl _) (if_neg aC)) (λt=>⟨sc,s,v.table,rfl,W,h8,λF h' f j=>?_⟩));rw[if_pos aC]at d;have:=j.slen;exact aF (λg=>d.big f rfl aC) (λg=>d.ok f rfl aC j.row)
 .rw[beq_eq_false_iff_ne]at o;rw[beq_iff_eq]at y;rw[if_neg o,if_pos y]at d;refine⟨a,p,v.where_,n,ps,w,rfl,B,hp,x.where_,aD (λu=>d.err (.refl _) (if_neg bg)) (λu=>?_)⟩;rw[if_pos bg]at d;exact aF (λg=>d.big (.refl _) rfl bg) (λg F h' f j=>d.ok f rfl aC j)
 .rw[beq_eq_false_iff_ne]at o y;rw[beq_iff_eq]at A;rw[if_neg o,if_neg y,if_pos A]at d;refine aD (λu=>d.err (.refl _) (if_neg λe=>e.1 ((Ff H).1 u))) (λu=>?_);have R:co≠[]:=λe=>bg
  refine⟨λ⟨i,a',S,l,hx⟩=>a'=a/\S=v.columns/\hx=h/\i<=co.length/\l=(co.take i).map (λc=>n.getD c.toNat 0)/\gQ (λ_ c=>C9 n c=true) co i,λ⟨i,_,_,_,_⟩=>co.length-i,⟨(0,a,v.columns,[],h),⟨rfl,rfl,rfl,aC,ay,.zero⟩,MT⟩,?_⟩;rintro⟨i,a,_,l,h⟩ ⟨rfl,rfl,rfl,j,rfl,hg⟩;dsimp only;refine aF (λJ=>?_) (λa2=>?_)
  .obtain⟨c,M⟩:=fF H J;obtain⟨b1,o1,T,r1⟩:=x.columns_.at' M;refine⟨b1,o1,T,aC,J,c,.imm r1,a,n,c,rfl,B,aD (λt=>d.err (.refl _) (if_neg λe=>?_)) (λt=>?_)⟩
   .have:=e.2 i c M;grind
   have t:C9 n c=true:=bg
   have g:=fB.1 t;obtain⟨b2,o2,U,r2⟩:=B.inb g.1 g.2;refine⟨b2,o2,U,aC,aC,_,.imm r2,?_,?_,(i+1,a,v.columns,(co.take (i+1)).map (λc=>n.getD c.toNat 0),h),⟨rfl,rfl,rfl,aC,rfl,hg.succ M t⟩,aC,?_⟩
   .simp;omega
   .simp;omega
   .rw[j3 M,bu];exact MT
  .rw[if_pos ⟨R,hg.all aC⟩]at d;rw[bt aC];exact aF (λg=>d.big (.refl _) rfl bg) (λg F h' f j=>d.ok f rfl bg j)
 .rw[beq_eq_false_iff_ne]at o y A;have G:=beq_iff_eq.1 D;rw[if_neg o,if_neg y,if_neg A,if_pos G]at d;refine⟨v.on,a,b,on,n,C,rfl,x.on_,B,L,λr z=>aD (λu=>d.err (.refl _) (if_neg λe=>?_)) (λu=>aD (λ_=>⟨C.map eI,BL _,L.row,bf,bf,?_⟩) (λt=>?_))⟩
  .grind
  .rw[if_pos (z.1 bg)]at d;rw[<-bu];exact aF (λg=>d.big (.refl _) rfl bg) (λg F h' f j=>d.ok f rfl bg j)
  grind
 .rw[beq_eq_false_iff_ne]at o y A;have G:=beq_eq_false_iff_ne.1 D;rw[beq_iff_eq]at E;rw[if_neg o,if_neg y,if_neg A,if_neg G,if_pos E]at d;refine⟨v.on,a,b,on,n,C,rfl,x.on_,B,L,λr z=>aD (λu=>d.err (.refl _) (if_neg λe=>?_)) (λu=>aD (λt=>?_) (λt=>?_))⟩
  .grind
  .grind
  .rw[if_pos (z.1 bg)]at d;exact aF (λg=>d.big (.refl _) rfl bg) (λg F h' f j=>d.ok f rfl aC j)
 .rw[beq_eq_false_iff_ne]at o y A D E;rw[beq_iff_eq]at I;rw[if_neg o,if_neg y,if_neg A,if_neg D,if_neg E,if_pos I]at d;refine⟨v,a,gr,od,n,rfl,x.group_,x.order_,B,λr z=>aD (λu=>d.err (.refl _) (if_neg λe=>?_)) (λu=>?_)⟩
  .grind
  rw[if_pos (z.1 bg)]at d;exact aF (λg=>d.big (.refl _) rfl bg) (λg F h' f j=>d.ok f rfl aC j)
 .rw[beq_eq_false_iff_ne]at o y A D E I;rw[if_neg o,if_neg y,if_neg A,if_neg D,if_neg E,if_neg I]at d;refine⟨a,b,n,C,rfl,B,L,λr z=>aD (λu=>d.err (.refl _) ?_) (λu=>aD (λt=>⟨v,a,gr,od,n,rfl,x.group_,x.order_,B,λr2 V=>aD (λd4=>d.err (.refl _) ?_) (λd4=>?_)⟩) (λt=>?_))⟩
  .grind
  .grind
  .rw[beq_iff_eq]at t;rw[if_pos t,if_pos ⟨z.1 bg,V.1 bg⟩]at d;exact aF (λg=>d.big (.refl _) rfl bg) (λg F h' f j=>d.ok f rfl aC j)
  .rw[beq_eq_false_iff_ne]at t;rw[if_neg t,if_pos (z.1 bg)]at d;exact aF (λg=>d.big (.refl _) rfl bg) (λg F h' f j=>d.ok f rfl aC j)
theorem auQ:cm 127 cIJ:=by
 refine iU func127 ?_;rintro c m h K ⟨sc,p,v,a,b,s,ps,q,y,z,rfl,d,e,f,g,j,n,o,t,u⟩;refine⟨bUX m,rfl,aE RS (aE amX (aE I7 (aE Nb (aE J7 (aE amQ (aE alJ (aE alZ aH))))))),NI sc p v a b m h K,ax,?_⟩;exact cAZ d e f g j n o t u
mutual
noncomputable def aK(s:jP)(ps:cq):Query->cq×Int
 |.mk op ta w co on gr od li args=>
  match fQ s ps args with
  |(ks,e)=>if e=0 then(if(ks.length:Int)=arity op then eT s ps (.mk op ta w co on gr od li args) (ks.getD 0 []) (ks.getD 1 [])else eF 100)else eF e
noncomputable def fQ(s:jP)(ps:cq):dc->List cq×Int
 |[]=>([],0)
 |q::qs=>
  match aK s ps q with
  |(k,e)=>if e=0 then(match fQ s ps qs with|(ks,c)=>if c=0 then(k::ks,0)else([],c))else([],e)
end
theorem vE{s:jP}{ps:cq}:∀{c:dc}{ks:List cq},c.map (aK s ps)=ks.map (λk=>(k,0))->fQ s ps c=(ks,0)
 |[],[],_=>by simp[fQ]
 |q::c,k::ks,h=>by
  simp only[map_cons,List.cons.injEq]at h;simp only[fQ,h.1,vE h.2,if_true]
 |[],_::_,h=>by simp at h
 |_::_,[],h=>by simp at h
theorem HG{s:jP}{ps:cq}{e:Int}(d:e≠0):∀{c:dc}{ks:List cq}{i:Nat}{q:Query},(c.take i).map (aK s ps)=ks.map (λk=>(k,0))->c[i]? =some q->(aK s ps q).2=e->fQ s ps c=([],e)
 |[],_,_,_,_,h,_=>by simp at h
 |q::c,_,0,g,_,h,f=>by
  simp at h;subst h;simp only[fQ,f,if_neg d]
 |q::c,[],i+1,_,h,_,_=>by simp at h
 |q::c,k::ks,i+1,g,h,j,f=>by
  simp only[take_succ_cons,map_cons,List.cons.injEq]at h;have:=HG d h.2 bg f;simp only[fQ,h.1,this,if_true,if_neg d]
theorem bCQ l:(nF l).1.length<=12:=by unfold nF;grind
theorem a4X s ps q a b:(eT s ps q a b).1.length<=12:=by
 obtain⟨op,ta,w,co,on,gr,od,li,args⟩:=q;unfold eT;dsimp only
 repeat' split
 all_goals first|exact bCQ _|(simp[eF];done)
theorem lV s ps q:(aK s ps q).1.length<=12:=by
 obtain⟨op,ta,w,co,on,gr,od,li,args⟩:=q;simp only[aK]
 repeat' split
 all_goals first|exact a4X .. |simp[eF]
noncomputable def gH s ps q:=
 if eK s=0 then(if ps.all gS=true then(if pY q=true then aK s ps q else eF 2)else eF 1)else eF (eK s)
def Slices(h:PH)(c:cu)(ks:List cq):=c.length=ks.length/\∀(j:Nat) s k,c[j]? =some s->ks[j]? =some k->Ints h s k
theorem Slices.mono{c}(x:Slices h c ks)(le:PH.le h h'):Slices h' c ks:=⟨x.1,λj s k d e=>(x.2 j s k d e).mono le⟩
theorem Slices.snoc{c s k}(x:Slices h c ks)(o:Ints h s k):Slices h (c++[s]) (ks++[k]):=by
 refine⟨by simp[x.1],λj g n d e=>?_⟩;by_cases f:j<c.length
 .rw[getElem?_append_left f]at d;rw[getElem?_append_left (by rw[<-x.1];exact f)]at e;exact x.2 j g n d e
 .rw[getElem?_append_right aC]at d;rw[getElem?_append_right (by have:=x.1;omega), <-x.1]at e
  grind
def G1 N:=λc m h K=>∃sc p v s ps q,c=[aS sc,cS p,aQ v]/\iK h s sc/\oE s/\Ints h p ps/\dK h q v/\SizeOf.sizeOf q<N/\KR K m h (aK s ps q)
def OX:=λc m h K=>∃sc p v s ps q,c=[aS sc,cS p,aQ v]/\iK h s sc/\Ints h p ps/\dK h q v/\KR K m h (gH s ps q)
noncomputable def cqX(N:Nat)(sc:cA)(p:Sl)(v:QV)(m:MH):=
 dJ [(64,G1 N),(126,Sx),(127,cIJ)] [(3,{A:=Nat×cu×PH,st:=λ⟨i,c,h⟩=>bZ 58 61 [(1,sv p),(3,.at (.ptr 3 0)),(5,.at (.ptr 5 0)),(8,.at (.lst 35)),(14,iv v.args.len),(15,iv i)] [(3,.cells 27 (sc.enc.map .val)),(5,.cells 41 (v.enc.map .val)),(35,.lst 36 1 (c.map eS))] m h})] [] [] false
abbrev PE(a:(Nat×cu×PH->Prop)->(Nat×cu×PH)->Prop)(b:(Nat×cu×PH->Prop)->(Nat×cu×PH->Nat)->(Nat×cu×PH)->Prop):=∃(x:Nat×cu×PH->Prop)(d:Nat×cu×PH->Nat),(∃(c:Nat×cu×PH),a x c)/\∀(c:Nat×cu×PH),b x d c
abbrev J1 a b c:=bV a b []=c
noncomputable abbrev nX a b:=bV a 1 (List.map eS b)
noncomputable abbrev pE(a:Nat×cu×PH):=a.2.2
abbrev EL(a:cA->Sl->Prop):=∃(x:cA)(c:Sl),a x c
abbrev EO(a:jP->cq->Prop):=∃(x:jP)(c:cq),a x c
abbrev K6(a:cA)(b:Sl)(c:QV)(d:PH)(e:Nat)(g:jP->cq->Query->Sl->PH->Prop):=EL (λx t=>∃(u:QV),EO (λf n=>∃(j:Query),aA (cE (cN a) (gT b (cZ c))=cE (cN x) (gT t (cZ u))) (iK d f x) (aA (oE f) (Ints d t n) (aA (dK d j u) (yH j e) (∀(y:Sl)(o:PH),bR d o (Ints o y (aK f n j).1) (g f n j y o))))))
abbrev kP a:=jA (j4 a 1) 24
noncomputable abbrev iC a:=List.map eS a
noncomputable abbrev wQ(a:Nat×cu×PH):=iC a.2.1
noncomputable abbrev mE a b:=a::lY b
noncomputable abbrev Lq a:=wQ a++mE iP iP
abbrev mQ(a:List cr)(b:Nat)(c:cr):=a[b]? =Option.some c
abbrev CM(a:Prop)(b c:Int)(d:List cr)(e:cr->Prop):=aI a (b<=c) (c<tE d) (∃(x:cr),e x)
abbrev uK(a:Nat)(b c:cr):=List.take a (List.drop 0 b)=c
attribute [push_cast] PE J1 nX pE EL EO K6 kP iC wQ mE Lq mQ CM uK
def X3 N sc p v m h K:=
  PE (λI x=>aA (I x) (aJ p) (aA (eP 3) eM (aA (eL 35) (wF v) (aA (bE x.1) (cL sc) (aA (eO v) (J1 36 1 (nX 36 x.2.1)) (aA (m=m) (h=pE x) True)))))) (λI t x=>I x->bA (↑x.1:Int) (aG v.args) (bK (λb o=>aI (aW v.args.a b o) (0<=(↑x.1:Int)) ((↑x.1:Int)<aG v.args) (∃(y:QV),aL m (pE x) b (o+bM x.1 21) y.enc/\K6 sc p y (pE x) N (λs f q c d=>cX (aK s f q).2 0 (K (CV.tup (gC Ft (CV.val (fV (aK s f q).2)))) m d) (aA (kP (wQ x)) (dR (wQ x)) (∃(g:Nat×cu×PH),aA (I g) (t g<t x) (aA (aJ p) jU (aA eM (eL 35) (aA (wF v) (gX (bH x.1 1)=bP g.1) (aA (cL sc) (eO v) (aA (bV 36 1 (dN (wQ x) (aM c))=nX 36 g.2.1) (m=m) (bU d (pE g)))))))))))))
 (A8 v.op (λo=>cX (tE (wQ x)) (arity o) (cC K 100 m (pE x)) (aA (jA (j4 (wQ x) 2) 24) (oC (j4 (wQ x) 2)) (aA (cM 0) (0<tE (Lq x)) (∃(e:cr),mQ (Lq x) 0 e/\∃(y:Sl),CM (uK 1 e (aM y)) 0 1 (Lq x) (λu=>mQ (Lq x) 1 u/\∃(z:Sl),uK 1 u (aM z)/\EL (λs f=>∃(A:QV),sG (λa b=>EO (λc n=>∃(q:Query),J3 (λl j=>aA (cE (cN sc) (dE p (cE v.enc (cJ y z)))=cE (cN s) (dE f (cE A.enc (cJ a b)))) (iK (pE x) c s) (aA (oE c) (Ints (pE x) f n) (aA (dK (pE x) q A) (Ints (pE x) a l) (aA (Ints (pE x) b j) (l.length<=12) (j.length<=12/\∀(B:Sl)(d:PH),bR (pE x) d (Ints d B (eT c n q l j).1) (K (CV.tup (gT B
 (CV.val (fV (eT c n q l j).2)))) m d))))))))))))))))
abbrev Lg(a:cA)(b:PH)(c:jP->Prop):=rE (λx d=>aA (fY (kE (cN a)) (kE (cN x))) (iK b d x) (c d))
attribute [push_cast] Lg
def Yn N sc p v m h K:=
  Lg sc h (λs=>cX (eK s) 0 (cC K (eK s) m h) (xQ p h (λl=>oF (EJ l) (cC K 1 m h) (qC (λc d=>aA (fY (cZ v) (cZ c)) (dK h d c) (oF (pY d) (cC K 2 m h) (K6 sc p v h N (λe f q g j=>K (CV.tup (gT g (CV.val (fV (aK e f q).2)))) m j))))))))
theorem M3{c:dc}(h:c.map (aK s ps)=ks.map (λk=>(k,0))) j:(ks.getD j []).length<=12:=by
 rw[getD_eq_getElem?_getD];cases e:ks[j]? with
 |none=>simp
 |some k=>
  have d:(c.map (aK s ps))[j]? =some (k,0):=bg
  rw[getElem?_map,Option.map_eq_some_iff]at d;obtain⟨q,_,f⟩:=d;have:=lV s ps q
  grind
theorem Slices.pick{c}(x:Slices h c ks) j(f:j<c.length+2):∃y:Sl,(c.map eS++[[.slice none 0 0],[.slice none 0 0]])[j]? =some [.slice y.a y.len y.cap]/\Ints h y (ks.getD j []):=by
 by_cases d:j<c.length
 .refine⟨c[j],?_,?_⟩
  .rw[getElem?_append_left bg];simp[d,eS]
  .have e:j<ks.length:=by rw[<-x.1];exact d
   rw[getD_eq_getElem?_getD,bn e];exact x.2 j _ _ (bn d) (bn e)
 .refine⟨⟨none,0,0⟩,?_,?_⟩
  .grind
  .rw[getD_eq_getElem?_getD,getElem?_eq_none (by have:=x.1;omega)];exact⟨.nil _ _,ay⟩
theorem aOQ:∀N,cm 64 (G1 N)
 |0=>by
  refine fP (fn:=Tryz.f64) (c:=dY Tryz.f64) func64 rfl az ?_;rintro C m h K ⟨sc,p,v,s,ps,q,rfl,_,_,_,_,Y,_⟩;omega
 |N+1=>by
  refine iU func64 ?_;rintro C m h K ⟨sc,p,v,s,ps,q,rfl,Q,R,S,T,Y,n⟩;refine⟨cqX N sc p v m,rfl,aE (aOQ N) (aE RS (aE auQ aH)),X3 N sc p v m h K,ax,?_⟩;dsimp only[X3,push_cast];have D:=@Dp q;have E:=T;obtain⟨op,ta,w,co,on,gr,od,li,args⟩:=q;have x:=T.parts;have e0:=x.op_;have Z:=x.args_.slen;have U:=x.args_.len;simp only[Query.args]at D;simp only[aK]at n;refine⟨λ⟨i,z,F⟩=>i<=args.length/\PH.le h F/\∃ks,Slices F z ks/\(args.take i).map (aK s ps)=ks.map (λk=>(k,0)),λ⟨i,_,_⟩=>args.length-i,⟨(0,[],h),⟨aC,.refl _,[],⟨rfl,λj s k y=>by simp at y⟩,ay⟩,MT⟩,?_⟩;rintro⟨i,z,F⟩ ⟨V,d,ks,A,g⟩;have G:ks.length=i:=by have:=congrArg List.length g;grind
  have a':z.length=i:=by rw[A.1,G]
  dsimp only;refine aF (λo=>?_) (λa0=>?_)
  .obtain⟨B,t⟩:=fF Z o;obtain⟨b1,o1,u,H,r1,I⟩:=(x.args_.mono d).at t;refine⟨b1,o1,H,aC,o,u,.imm r1,sc,p,u,s,ps,B,rfl,Q.mono d,R,S.mono d,I,?_,λJ h' f L=>aD (λy=>?_) (λy=>?_)⟩
   .grind
   .have M:(aK s ps B).2≠0:=bg
    rw[HG M g t rfl]at n;exact n.err (d.trans f) (if_neg M)
   .have M:(aK s ps B).2=0:=bg
    refine⟨bf,bf,(i+1,z++[J],h'),⟨aC,d.trans f,ks++[(aK s ps B).1],(A.mono f).snoc L,?_⟩,aC,?_⟩
    .rw[j3 t,g,bu]
     grind
    .rw[bu];exact MT
  .rw[bt aC]at g;rw[vE g]at n;simp only[if_true]at n;refine⟨v.op,rfl,aD (λy=>n.err d (if_neg λe=>?_)) (λy=>?_)⟩
   .grind
   have y:(z.length:Int)=arity op:=bg
   rw[if_pos aC]at n;obtain⟨W,O,i0⟩:=A.pick 0 aC;obtain⟨X,P,i1⟩:=A.pick 1 aC;exact⟨bf,bf,aC,bf,_,O,W,rfl,aC,bf,_,P,X,rfl,sc,p,v,W,X,s,ps,_,_,_,rfl,Q.mono d,R,S.mono d,E.mono d,i0,i1,M3 g 0,M3 g 1,λJ h' f V=>n J h' (d.trans f) V⟩
theorem a1Q(h:eK s=0):oE s:=by
 have c:EV s:=Classical.byContradiction λd=>by rw[yE d]at h;cases h
 intro t e;obtain⟨j,f⟩:=mem_iff_getElem?.1 e;exact(c.2 j t f).1
theorem biQ:cm 26 OX:=by
 refine iU func26 ?_;rintro n m h K ⟨sc,p,v,s,ps,q,rfl,f,g,j,c⟩;refine⟨dJ [(61,Df),(62,Sn),(63,aSZ),(64,G1 (SizeOf.sizeOf q+1))] [] [] [] false,rfl,aE bfQ (aE Tz (aE beJ (aE (aOQ _) aH))),Yn (SizeOf.sizeOf q+1) sc p v m h K,ax,?_⟩;dsimp only[Yn,push_cast];unfold gH at c;refine⟨sc,s,rfl,f,aD (λd=>c.err (.refl _) (if_neg bg)) (λd=>?_)⟩;have d:eK s=0:=bg
 rw[if_pos d]at c;refine⟨p,ps,rfl,g,aD (λo=>c.err (.refl _) (if_neg λe=>bg)) (λo=>?_)⟩;rw[if_pos bg]at c;refine⟨v,q,rfl,j,aD (λt=>c.err (.refl _) (if_neg λe=>bg)) (λt=>?_)⟩;rw[if_pos bg]at c;exact⟨sc,p,v,s,ps,q,rfl,f,a1Q d,g,j,aC,c⟩
def aN(n:NV):CV:=.val (.agg ⟨n.enc⟩)
structure Cj(h:PH)(s:jP)(ps:cq)(q:Query)(ks:List cq)(n:NV):Prop where
 s_:iK h s n.s
 ps_:Ints h n.params ps
 q_:dK h q n.q
 ks_:bN h 1 eS (λk sl=>Ints h sl k) n.args ks
 len:∀k∈ks,k.length<=12
def Query.withOf(u q:Query):Query:=match u,q with|.mk _ ta w co on gr od li _,.mk op _ _ _ _ _ _ _ args=>.mk op ta w co on gr od li args
def Er:Vc.Spec:=λc m h K=>∃n k u s ps q ks d,c=[aN n,cI k,aQ u]/\Cj h s ps q ks n/\dK h d u/\∀r:Bool,(r=true↔(ks.length:Int)=k/\q=d.withOf q)->K (cB r) m h
def Sd:Vc.Spec:=λc m h K=>∃n s ps q ks,c=[aN n]/\Cj h s ps q ks n/\K (aQ ⟨0,0,⟨0,0,gA,gA,⟨none,0,0⟩⟩,⟨none,0,0⟩,⟨none,0,0⟩,n.q.group,n.q.order,n.q.limit,⟨none,0,0⟩⟩) m h
def Se:Vc.Spec:=λc m h K=>∃n s ps q ks a,c=[aN n]/\Cj h s ps q ks n/\ks[0]? =some a/\∀r:Bool,(r=true↔∃op ta w co on gr od li args,q= .mk op ta w co on gr od li args/\nJ a gr od li)->K (cB r) m h
def Pm(ks:List cq):Query->Prop
 |.mk op ta w co on gr od li _=>ks.length=2/\ta=0/\w=fW/\co=[]/\gr=[]/\od=[]/\li=0/\Good (nT (ks.getD 0 []) (ks.getD 1 [])) on
def Si:Vc.Spec:=λc m h K=>∃n s ps q ks,c=[aN n]/\Cj h s ps q ks n/\∀r:Bool,(r=true↔Pm ks q)->K (cB r) m h
noncomputable def bKX(n:NV)(h:PH):=
 rI [] [(4,{A:=Nat×Nat×Nat×MH,st:=λ⟨i,c,b,d⟩=>bZ 72 73 [(1,.at (.ptr 1 0)),(3,iv c),(4,vv (.pointer (some ⟨b,0,none⟩))),(16,sv n.q.group),(17,iv n.q.group.len),(18,iv i)] [(1,.cells 190 (n.enc.map .val))] d h}),
  (11,{A:=Nat×Nat×MH,st:=λ⟨i,c,d⟩=>bZ 72 73 [(1,.at (.ptr 1 0)),(3,iv c),(39,sv n.q.order),(40,iv n.q.order.len),(41,iv i)] [(1,.cells 190 (n.enc.map .val))] d h})] [] [] [280] [] false
noncomputable def bKZ(n:NV)(h:PH):=
 rI [(236,Er)] [(6,{A:=Nat×Sl×Sl×Nat×Nat×MH,st:=λ⟨i,s,t,b,c,d⟩=>bZ 80 81 [(3,sv s),(4,sv t),(5,vv (.pointer (some ⟨b,0,none⟩))),(6,vv (.pointer (some ⟨c,0,none⟩))),(28,sv n.q.on),(29,iv n.q.on.len),(30,iv i)] [] d h})] [] [] [280] [] false
noncomputable abbrev sF(a:QV):=fV a.table
noncomputable abbrev tC(a:QV):=fV a.where_.op
noncomputable abbrev tH(a:QV):=a.where_.cmp
noncomputable abbrev oB(a:OV):=fV a.kind
noncomputable abbrev nE(a:QV):=a.where_.left
noncomputable abbrev zB(a:OV):=fV a.index
noncomputable abbrev G7(a:OV):=a.value.int
noncomputable abbrev uF a:=fV (G7 a)
noncomputable abbrev vS(a b:QV)(c:cr):=aX (fV a.op) (sF b) (aX (tC b) (fV (tH b)) (aX (oB (nE b)) (zB (nE b)) (aX (fV (qL (nE b))) (uF (nE b)) c)))
noncomputable abbrev BR(a:OV):=a.value.text
noncomputable abbrev qD a:=Value.string (BR a)
noncomputable abbrev pX(a:QV):=a.where_.right
noncomputable abbrev zF(a:QV):=dX a.where_.args
noncomputable abbrev z7(a:QV):=dX a.columns
noncomputable abbrev vZ a b:=aX (qD (nE a)) (oB (pX a)) (aX (zB (pX a)) (fV (qL (pX a))) (aX (uF (pX a)) (qD (pX a)) (aX (zF a) (z7 a) b)))
noncomputable abbrev wY(a:QV):=dX a.group
noncomputable abbrev wZ(a:QV):=dX a.order
noncomputable abbrev zN a b c:=aX a (wY b) (aX (wZ b) (fV b.limit) c)
attribute [push_cast] sF tC tH oB nE zB G7 uF vS BR qD pX zF z7 vZ wY wZ zN
def TS(n:NV)(k:Int)(u:QV)(m:MH)(h:PH)(K:cn):=
  eY (aG n.args) k (∃(v:QV),qC (λw p=>∃(q:Query),aI (gC (cZ n.q) (kE (vS n.q u (vZ u (zN (dX u.on) u (aM n.q.args)))))=gC (cZ v) (cZ w)) (dK h p v) (dK h q w) (∀(r:Bool),iD r (p=q)->K (As r) m h))) (K bG m h)
noncomputable abbrev IE a:=aX bI bI (aX bI bI (aX bI bI (aX bI bI a)))
noncomputable abbrev uD a b:=aX vQz bI (aX bI bI (aX bI vQz (aX pV a b)))
attribute [push_cast] IE uD
def TR(n:NV)(m:MH)(h:PH)(K:cn):=
  K (kE (IE (uD pV (zN pV n.q iP)))) m h
noncomputable abbrev w9:=Value.bool false
abbrev Pu(a:MH)(b:PH)(c:Nat->MH->Prop):=∀(x:Nat)(d:MH),bF (cK a b x) (bL a d x (aX w9 w9 (aX w9 w9 (aX w9 w9 (aX w9 w9 (aX w9 w9 (aX w9 w9 [])))))) 280) (c x d)
noncomputable abbrev zE(a:QV):=kF a.table
noncomputable abbrev B9(a:QV)(b:Sl)(c d:At)(e:dn):=pQ a.where_ (gL (BY a.columns) (BY b) (gL c d e))
noncomputable abbrev EA(a:QV):=BY a.group
noncomputable abbrev EB(a:QV):=BY a.order
abbrev FY(a:NV):=eQ (oQ 190 (gL (KT a.s) (KS a.s) (gL (BY a.params) (kF a.q.op) (zE a.q::B9 a.q a.q.on (EA a.q) (EB a.q) (gL (kF a.q.limit) (BY a.q.args) (pG a.args))))))
noncomputable abbrev uA a:=oW (Value.bool a)
abbrev tF(a:MH)(b c:Nat)(d:cr)(e:MH->Prop):=jN (λx f=>aA (yP a b (gO x f 0)) (c<x.size) (∀(g:MH),bL a g b (splice x.toList c d) f->e g))
attribute [push_cast] w9 Pu zE B9 EA EB FY uA tF
def Ja n m h K:=
  bK (λb o=>aI (aW n.args.a b o) ((0:Int)<=0) (0<aG n.args) (∃(y:Sl),aL m h b (o+0) (aM y)/\Pu m h (λz A=>∃(I:Nat×Nat×Nat×MH->Prop)(t:Nat×Nat×Nat×MH->Nat),(∃(x:Nat×Nat×Nat×MH),aA (I x) eW (aA (bP y.len=bP x.2.1) (bY z (kA x.2)) (aA (aJ n.q.group) (bJ n.q.group) (aA (bE x.1) (FY n) (eG A (i7 x.2) h h)))))/\∀(x:Nat×Nat×Nat×MH),I x->bA (↑x.1:Int) (aG n.q.group) (bK (λe f=>aI (aW n.q.group.a e f) (0<=(↑x.1:Int)) ((↑x.1:Int)<aG n.q.group) (∃(d:Int),aL (i7 x.2) h e (f+bM x.1 1) (bC d)/\bA d 0 (mY K x.2 h) (iG d (↑x.2.1:Int) (mY K x.2 h) (aA (cM d) (d<12) (∃(u:Bool),aL (i7 x.2) h (kA x.2) (0+iA d 1) (uA u)/\branch u (mY K x.2 h)
 (aA (cM d) (d<12) (tF (i7 x.2) (kA x.2) (0+iA d 1) (oW Du) (λj=>∃(c:Nat×Nat×Nat×MH),aA (I c) (t c<t x) (aA eW (cG x.2.1 c.2.1) (aA (bY (kA x.2) (kA c.2)) (aJ n.q.group) (aA (bJ n.q.group) (gX (bH x.1 1)=bP c.1) (dL (FY n) j (i7 c.2) h h))))))))))))) (∃(I1:Nat×Nat×MH->Prop)(j:Nat×Nat×MH->Nat),PU (λc=>aA (I1 c) eW (aA (cG x.2.1 (kA c)) (aJ n.q.order) (aA (bJ n.q.order) (bE c.1) (aA (FY n) (i7 x.2=i7 c) (bU h h))))) (λc=>I1 c->bA (↑c.1:Int) (aG n.q.order) (bK (λe f=>aI (aW n.q.order.a e f) (0<=(↑c.1:Int)) ((↑c.1:Int)<aG n.q.order) (∃(d:Int×Bool),aL (i7 c) h e (f+bM c.1 2) (Bl d)/\bA d.1 0 (mY K c h) (iG
 d.1 (↑(kA c):Int) (mY K c h) (∃(g:Nat×Nat×MH),aA (I1 g) (j g<j c) (aA eW (cG (kA c) (kA g)) (aA (aJ n.q.order) (bJ n.q.order) (aA (gX (bH c.1 1)=bP g.1) (FY n) (eG (i7 c) (i7 g) h h))))))))) (branch (decide (aG n.q.order<=12)) (iG n.q.limit 0 (K (As (decide (n.q.limit<=100))) (i7 c) h) (mY K c h)) (mY K c h)))))))
abbrev FP(a:jP->cq->Query->(List cq)->Prop):=EO (λx c=>∃(d:Query)(e:List cq),a x c d e)
abbrev DZ(a:dl)(b:NV->Int->QV->dl)(c:PH)(d:Int->Query->(List cq)->Query->Bool->Prop):=∃(x:NV)(e:Int)(f:QV),FP (λo t g j=>∃(n:Query),aI (a=b x e f) (Cj c o t g j x) (dK c n f) (∀(u:Bool),d e g j n u))
noncomputable abbrev jK(a:NV)(b:cr):=aX (zB (nE a.q)) (fV (qL (nE a.q))) (aX (uF (nE a.q)) (qD (nE a.q)) (aX (oB (pX a.q)) (zB (pX a.q)) (aX (fV (qL (pX a.q))) (uF (pX a.q)) b)))
noncomputable abbrev wX(a:QV):=dX a.args
noncomputable abbrev gR(a:NV):=aX (qD (pX a.q)) (zF a.q) (aX (z7 a.q) (dX a.q.on) (aX (wY a.q) (wZ a.q) (aX (fV a.q.limit) (wX a.q) (aM a.args))))
noncomputable abbrev uC a b:=aX a pV (aX pV bI b)
noncomputable abbrev vX a b:=gC (gG a) (cZ b)
abbrev D3(a:List cq)(b:Int)(c d:Query):=(↑a.length:Int)=b/\c=Query.withOf d c
noncomputable abbrev mP(a:Nat×Sl×Sl×Nat×Nat×MH):=a.2.2.2
attribute [push_cast] FP DZ jK wX gR uC vX D3 mP
def Jb n m h K:=
  DZ (cE (aX (AB n.s) (AA n.s) (aX (dX n.params) (fV n.q.op) (aX (sF n.q) (tC n.q) (aX (fV (tH n.q)) (oB (nE n.q)) (jK n (gR n)))))) (gC (gG 2) (kE (IE (uD pV (uC (dX n.q.on) iP)))))) (λd k u=>cE (aX (AB d.s) (AA d.s) (aX (dX d.params) (fV d.q.op) (aX (sF d.q) (tC d.q) (aX (fV (tH d.q)) (oB (nE d.q)) (jK d (gR d)))))) (vX k u)) h (λk q L u r=>hX (iD r (D3 L k q u)) (!r) (K bG m h) (bK (λb o=>aI (aW n.args.a b o) ((0:Int)<=0) (0<aG n.args) (∃(y:Sl),aL m h b (o+0) (aM y)/\bK (λf g=>aI (aW n.args.a f g) ((0:Int)<=1) (1<aG n.args) (∃(j:Sl),aL m h f (g+1) (aM j)/\Pu m h (λM O=>Pu O h (λP Q=>∃(I:Nat×Sl×Sl×Nat×Nat×MH
 ->Prop)(t:Nat×Sl×Sl×Nat×Nat×MH->Nat),(∃(x:Nat×Sl×Sl×Nat×Nat×MH),aA (I x) (aZ y x.2.1) (aA (aZ j x.2.2.1) (bY M (mP x).1) (aA (bY P (kA (mP x))) (aJ n.q.on) (aA (bJ n.q.on) (bE x.1) (eG Q (i7 (mP x)) h h)))))/\∀(x:Nat×Sl×Sl×Nat×Nat×MH),I x->bA (↑x.1:Int) (aG n.q.on) (bK (λz A=>aI (aW n.q.on.a z A) (0<=(↑x.1:Int)) ((↑x.1:Int)<aG n.q.on) (∃(c:Int×Int),aA (aL (i7 (mP x)) h z (A+bM x.1 2) (vY c)) (cM 0) (aA ((0:Int)<2) (cM 1) ((1:Int)<2/\bA c.1 0 (mY K (mP x) h) (iG c.1 (aG x.2.1) (mY K (mP x) h) (bA c.2 0 (mY K (mP x) h) (iG c.2 (aG x.2.2.1) (mY K (mP x) h) (bK (λB C=>aI (aW x.2.1.a B C) (0<=c.1) (c.1<aG x.2.1) (∃
 (D:Int),aL (i7 (mP x)) h B (C+iA c.1 1) (bC D)/\bK (λE F=>aI (aW x.2.2.1.a E F) (0<=c.2) (c.2<aG x.2.2.1) (∃(G:Int),aL (i7 (mP x)) h E (F+iA c.2 1) (bC G)/\cX D G (mY K (mP x) h) (aA (cM c.1) (c.1<12) (∃(H:Bool),aL (i7 (mP x)) h (mP x).1 (0+iA c.1 1) (uA H)/\branch H (mY K (mP x) h) (aA (cM c.2) (c.2<12) (∃(J:Bool),aL (i7 (mP x)) h (kA (mP x)) (0+iA c.2 1) (uA J)/\branch J (mY K (mP x) h) (aA (cM c.1) (c.1<12) (tF (i7 (mP x)) (mP x).1 (0+iA c.1 1) (oW Du) (λR=>aA (cM c.2) (c.2<12) (tF R (kA (mP x)) (0+iA c.2 1) (oW Du) (λS=>∃(e:Nat×Sl×Sl×Nat×Nat×MH),aA (I e) (t e<t x) (aA
 (aZ x.2.1 e.2.1) (aZ x.2.2.1 e.2.2.1) (aA (bY (mP x).1 (mP e).1) (bY (kA (mP x)) (kA (mP e))) (aA (aJ n.q.on) (bJ n.q.on) (dL (gX (bH x.1 1)=bP e.1) S (i7 (mP e)) h h)))))))))))))))))))))))))) (K iQ (i7 (mP x)) h)))))))))
structure Arr(m:MH)(b:Nat)(seen:cq):Prop where
 ex:∃bs:dk,m b=some (.cells ⟨bs.map Value.bool⟩ 280 (0,0))/\bs.length=12/\∀k:Nat,k<12->(bs[k]? =some true↔(k:Int)∈seen)
theorem Arr.zero(h:m b=some (.cells ⟨[.bool false,.bool false,.bool false,.bool false,.bool false,.bool false,.bool false,.bool false,.bool false,.bool false,.bool false,.bool false]⟩ 280 (0,0))):Arr m b []:=
 ⟨⟨replicate 12 false,h,rfl,λk c=>bg⟩⟩
theorem Arr.look{c}(x:Arr m b c){n}(f:0<=n)(g:n<12):∃y:Bool,aL m h b (0+n.toNat*1) [.bool y]/\(y=true↔n∈c):=by
 obtain⟨d,e,j,o⟩:=x.ex;have t:n.toNat<d.length:=by omega
 refine⟨d[n.toNat],.lent _ _ _ e ?_,?_⟩
 .simp only[Nat.zero_add,Nat.mul_one,ci,length_nil];rw[drop_eq_getElem_cons bg];simp
 grind
theorem Arr.store{c}(x:Arr m b c){n}(o:0<=n)(t:n<12):∃(cs:Array Value)(E:TypeId),yP m b (.cells cs E (0,0))/\0+n.toNat*1<cs.size/\∀m',lK m m' b (.cells ⟨splice cs.toList (0+n.toNat*1) [.bool true]⟩ E (0,0))->Arr m' b (c++[n]):=by
 obtain⟨d,e,u,y⟩:=x.ex;have f:n.toNat<d.length:=by omega
 refine⟨_,_,⟨e⟩,bg,λm' g=>⟨d.set n.toNat true,?_,bg,λk j=>?_⟩⟩
 .rw[g.at_];congr 3;simp only[splice,Nat.zero_add,Nat.mul_one,ci,length_nil];rw[set_eq_take_append_cons_drop,if_pos f];simp[map_take,map_drop]
 grind
theorem Arr.other{f d}(x:Arr m b d)(g:b≠f)(t:∀c,c≠f->m' c=m c):Arr m' b d:=by
 obtain⟨j,e,n,o⟩:=x.ex;exact⟨j,bg,n,o⟩
theorem Cj.arg{q n}(x:Cj h s ps q ks n){j k}(c:ks[j]? =some k):∃b o sl,n.args.a=some ⟨b,o,none⟩/\cR h b (o+j*1) [.slice sl.a sl.len sl.cap]/\Ints h sl k/\k.length<=12/\j<n.args.len:=by
 obtain⟨b,o,sl,e,r,d⟩:=x.ks_.at c;have:=(bm c);exact⟨b,o,sl,e,r,d,x.len k (bo c),by rw[x.ks_.slen];exact this⟩
theorem cvZ{n}(c:K (aQ ⟨0,0,⟨0,0,gA,gA,⟨none,0,0⟩⟩,⟨none,0,0⟩,⟨none,0,0⟩,n.q.group,n.q.order,n.q.limit,⟨none,0,0⟩⟩) m h):TR n m h K:=c
theorem yO:cm 236 Er:=by
 refine iU func236 ?_;rintro C m h K ⟨n,k,u,s,ps,q,ks,D,rfl,c,E,B⟩;refine⟨dJ [(259,c3Q)] [] [] [] false,rfl,aE aaQ aH,TS n k u m h K,ax,?_⟩;dsimp only[TS,push_cast];have L:=c.ks_.slen;have F:=c.q_;have d:=c.q_;obtain⟨op,ta,w,co,on,gr,od,li,args⟩:=q;obtain⟨G,f,H,g,j,o,t,z,A⟩:=D;have x:=E.parts;have y:=F.parts;refine aD (λI=>⟨n.q,⟨n.q.op,u.table,u.where_,u.columns,u.on,u.group,u.order,u.limit,n.q.args⟩,_,.mk op f H g j o t z args,rfl,d,uH.rep ⟨y.op_,x.table_,x.where_,x.columns_,x.on_,x.group_,x.order_,x.limit_,y.args_⟩,λr J=>B r (J.trans ⟨λe=>⟨?_,e⟩,λe=>e.2⟩)⟩) (λI=>B false ⟨λe=>(by cases e),λe=>?_⟩)
 .grind
 grind
theorem RF:cm 238 Sd:=by
 refine iU func238 ?_;rintro c m h K ⟨n,s,ps,q,ks,rfl,e,d⟩;refine⟨dJ [] [] [] [] false,rfl,aH,TR n m h K,ax,?_⟩;exact cvZ d
theorem cvX{n op w on args}(u:Cj h s ps (.mk op ta w co on gr od li args) ks n)(ha:ks[0]? =some a)(W:∀r:Bool,(r=true↔nJ a gr od li)->K (cB r) m h):Ja n m h (lW h K):=by
 dsimp only[Ja,push_cast];have x:=u.q_.parts;have gl:=x.group_.slen;have X:=x.group_.len;have ol:=x.order_.slen;have Y:=x.order_.len;have el:=x.limit_;obtain⟨b0,o0,Z,e0,r0,J,a',a0⟩:=u.arg ha;have L:=J.slen;have bad:∀f,Sub m f->¬nJ a gr od li->lW h K (.val (.bool false)) f h:=λf hm u=>.sub hm (W false ⟨λe=>(by cases e),λe=>(u e).elim⟩);refine⟨b0,o0,e0,aC,aC,Z,.imm aC,λb m1 hb C=>?_⟩;refine⟨λ⟨i,D,b',f⟩=>D=a.length/\b'=b/\i<=gr.length/\Sub m f/\Arr f b (gr.take i)/\gQ (G2 a) gr i,λ⟨i,_,_,_⟩=>gr.length-i,⟨(0,Z.len,b,m1),⟨L,rfl,aC,(Sub.refl m).upd hb.m_ C.other,.zero C.at_,.zero⟩,MT⟩,?_⟩;rintro⟨i,D,b,f⟩ ⟨rfl,rfl,hi,d,j,M⟩;dsimp only;refine aF (λo=>?_) (λF=>?_)
 .obtain⟨c,z⟩:=fF gl o;obtain⟨O,P,Q,R⟩:=x.group_.at' z;have t:¬G2 a (gr.take i) c->lW h K (.val (.bool false)) f h:=λu=>bad f d λg=>Good.not z u g.group_;refine⟨O,P,Q,aC,o,c,.imm R,aF (λG=>t λg=>?_) (λG=>aF (λB=>t λg=>?_) (λB=>?_))⟩
  .have:=fB.1 g.1;omega
  .have:=fB.1 g.1;omega
  obtain⟨y,hy,S⟩:=j.look (h:=h) (n:=c) aC aC;refine⟨aC,aC,y,hy,aD (λh3=>t λg=>g.2 (S.1 h3)) (λh3=>?_)⟩;obtain⟨cs,E,T,U,V⟩:=j.store (n:=c) aC aC;refine⟨aC,aC,cs,E,T,U,λm2 H=>⟨(i+1,a.length,b,m2),⟨rfl,rfl,aC,d.upd hb.m_ H.other,?_,M.succ z ⟨fB.2 ⟨aC,aC⟩,λe=>?_⟩⟩,aC,MT⟩⟩
  .have:=V m2 H
   rwa [cd,z]
  grind
 have gg:=M.all aC;refine⟨λ⟨i,D,f⟩=>D=a.length/\i<=od.length/\Sub m f/\gQ (Kj a) od i,λ⟨i,_,_⟩=>od.length-i,⟨(0,a.length,f),⟨rfl,aC,d,.zero⟩,MT⟩,?_⟩;clear hi M F d j f;rintro⟨i,D,f⟩ ⟨rfl,hi,d,I⟩;dsimp only;refine aF (λo=>?_) (λF=>?_)
 .obtain⟨c,z⟩:=fF ol o;obtain⟨O,P,Q,R⟩:=x.order_.at z;have A:¬Kj a (od.take i) c->lW h K (.val (.bool false)) f h:=λu=>bad f d λg=>Good.not z u g.order_;refine⟨O,P,Q,aC,o,c,.imm R,aF (λG=>A λg=>?_) (λG=>aF (λB=>A λg=>?_) (λB=>⟨(i+1,a.length,f),⟨rfl,aC,d,I.succ z (fB.2 ⟨aC,aC⟩)⟩,aC,MT⟩))⟩
  .have:=fB.1 (show C9 a c.1=true from g);omega
  .have:=fB.1 (show C9 a c.1=true from g);omega
 have oo:=I.all aC;rw[el];refine aF (λG=>aF (λB=>?_) (λB=>bad f d λg=>?_)) (λG=>bad f d λg=>?_)
 .exact .sub d (W (decide (li<=100)) ⟨λe=>⟨gg,oo,aC,B,bk e⟩,λe=>decide_eq_true e.high⟩)
 .have:=g.low;omega
 .have:=g.len_;omega
theorem RE:cm 239 Se:=by
 refine Fh func239 ?_;rintro c m h K ⟨n,s,ps,q,ks,a,rfl,d,f,g⟩;refine⟨bKX n h,rfl,aH,Ja n m h (lW h K),ax,?_⟩;dsimp only[Ja,push_cast];obtain⟨op,ta,w,co,on,gr,od,li,args⟩:=q;refine cvX d f (λr j=>g r (j.trans ⟨λe=>⟨_,_,_,_,_,_,_,_,_,rfl,e⟩,?_⟩))
 grind
theorem Zt{on sl}(c:jD h sl on):dK h (.mk 0 0 fW [] on [] [] 0 []) ⟨0,0,⟨0,0,gA,gA,⟨none,0,0⟩⟩,⟨none,0,0⟩,sl,⟨none,0,0⟩,⟨none,0,0⟩,0,⟨none,0,0⟩⟩:=
 uH.rep ⟨rfl,rfl,FH h,⟨.nil _ _,ay⟩,c,⟨.nil _ _,ay⟩,⟨.nil _ _,ay⟩,rfl,.nil _ _ _ _⟩
theorem RG:cm 237 Si:=by
 refine Fh func237 ?_;rintro a7 m h K ⟨n,s,ps,q,ks,rfl,t,hK⟩;refine⟨bKZ n h,rfl,aE yO aH,Jb n m h (lW h K),ax,?_⟩;dsimp only[Jb,push_cast];obtain⟨op,ta,w,co,on,gr,od,li,args⟩:=q;show Jb n m h (lW h K);dsimp only[Jb,push_cast];have x:=t.q_.parts;have ol:=x.on_.slen;have a5:=x.on_.len;have bad:∀g,Sub m g->¬Pm ks (.mk op ta w co on gr od li args)->lW h K (.val (.bool false)) g h:=λg T t=>.sub T (hK false ⟨λe=>(by cases e),λe=>(t e).elim⟩);refine⟨n,2,⟨0,0,⟨0,0,gA,gA,⟨none,0,0⟩⟩,⟨none,0,0⟩,n.q.on,⟨none,0,0⟩,⟨none,0,0⟩,0,⟨none,0,0⟩⟩,s,ps,_,ks,.mk 0 0 fW [] on [] [] 0 [],rfl,t,Zt x.on_,λr hr=>aD (λh1=>bad m (Sub.refl m) λf=>?_) (λh1=>?_)⟩
 .have:r=true:=hr.2 ⟨by have:=f.1;omega,by obtain⟨_,rfl,rfl,rfl,rfl,rfl,rfl,_⟩:=f;rfl⟩
  grind
 obtain⟨U,G⟩:=hr.1 bg;simp only[Query.withOf,Query.mk.injEq]at G;obtain⟨_,rfl,rfl,rfl,_,rfl,rfl,rfl,_⟩:=G
 obtain⟨D,F,rfl⟩:∃D F,ks=[D,F]:=by
  match ks,U with
  |[D,F],_=>grind
  |[],h=>simp at h
  |[_],h=>simp at h
  |_::_::_::_,h=>grind
 obtain⟨b0,o0,H,e0,r0,i0,l0,j0⟩:=t.arg (j:=0) rfl;obtain⟨b1,o1,I,e1,r1,i1,l1,j1⟩:=t.arg (j:=1) rfl;have a8:=i0.slen;have a9:=i1.slen;have bad:∀g,Sub m g->¬Good (nT D F) on->lW h K (.val (.bool false)) g h:=λg T t=>bad g T λf=>t f.2.2.2.2.2.2.2;refine⟨b0,o0,e0,aC,aC,H,.imm aC,b1,o1,e1,aC,aC,I,.imm aC,λb m1 hb u c m2 hc A=>?_⟩;have B:b≠c:=λe=>by have:=hc.m_;rw[<-e,u.at_]at this;cases this
 have J:Sub m m1:=(Sub.refl m).upd hb.m_ u.other;have L:m c=none:=J.free hc.m_
 refine⟨λ⟨i,s',t',b',c',g⟩=>s'=H/\t'=I/\b'=b/\c'=c/\i<=on.length/\Sub m g/\Arr g b ((on.take i).map Prod.fst)/\Arr g c ((on.take i).map Prod.snd)/\gQ (nT D F) on i,λ⟨i,_,_,_,_,_⟩=>on.length-i,
  ⟨(0,H,I,b,c,m2),⟨rfl,rfl,rfl,rfl,aC,J.upd L A.other,(Arr.zero u.at_).other B A.other,.zero A.at_,.zero⟩,MT⟩,?_⟩
 rintro⟨i,H,I,b,c,g⟩ ⟨rfl,rfl,rfl,rfl,hi,o,hA,hB,hg⟩;dsimp only;refine aF (λM=>?_) (λb4=>.sub o (hK true ⟨λ_=>⟨rfl,rfl,rfl,rfl,rfl,rfl,rfl,hg.all aC⟩,λ_=>rfl⟩));obtain⟨p,O⟩:=fF ol M;obtain⟨bp,V,ep,rp⟩:=x.on_.at O;have d:¬nT D F (on.take i) p->lW h K (.val (.bool false)) g h:=λt=>bad g o (Good.not O t);refine⟨bp,V,ep,aC,M,p,.imm rp,aC,aC,aC,aC,aF (λd1=>d λf=>?_) (λd1=>aF (λd2=>d λf=>?_) (λd2=>aF (λd3=>d λf=>?_) (λd3=>aF (λd4=>d λf=>?_) (λd4=>?_))))⟩
 .have:=fB.1 f.1;omega
 .have:=fB.1 f.1;omega
 .have:=fB.1 f.2.1;omega
 .have:=fB.1 f.2.1;omega
 obtain⟨b2,o2,e2,r2⟩:=i0.inb (n:=p.1) aC aC;obtain⟨b3,o3,e3,r3⟩:=i1.inb (n:=p.2) aC aC;obtain⟨y,hy,W⟩:=hA.look (h:=h) (n:=p.1) aC aC;obtain⟨z,hz,X⟩:=hB.look (h:=h) (n:=p.2) aC aC;obtain⟨cs,E,Y,Z,a'⟩:=hA.store (n:=p.1) aC aC;refine⟨b2,o2,e2,aC,aC,_,.imm r2,b3,o3,e3,aC,aC,_,.imm r3,aD (λd5=>d λf=>?_) (λd5=>⟨aC,aC,y,hy,aD (λd6=>d λf=>?_) (λd6=>⟨aC,aC,z,hz,aD (λd7=>d λf=>?_) (λd7=>⟨aC,aC,cs,E,Y,Z,λm3 C=>?_⟩)⟩)⟩)⟩
 .rw[f.2.2.1]at d5;simp at d5
 .obtain⟨q,S,e⟩:=mem_map.1 (W.1 d6);exact(f.2.2.2 q S).1 e
 .obtain⟨q,S,e⟩:=mem_map.1 (X.1 d7);exact(f.2.2.2 q S).2 e
 have a2:=a' m3 C;have a3:=hB.other B.symm C.other;obtain⟨a4,E2,P,Q,a6⟩:=a3.store (n:=p.2) aC aC;refine⟨aC,aC,a4,E2,P,Q,λm4 R=>⟨(i+1,H,I,b,c,m4),⟨rfl,rfl,rfl,rfl,aC,(o.upd hb.m_ C.other).upd L R.other,?_,?_,hg.succ O ⟨fB.2 ⟨aC,aC⟩,fB.2 ⟨aC,aC⟩,bg,λq S=>⟨λe=>?_,λe=>?_⟩⟩⟩,aC,MT⟩⟩
 .rw[j3 O];exact a2.other B R.other
 .rw[j3 O];grind
 .grind
 .grind
def fin(r:cq×Int):=if r.2=0 then nF r.1 else eF r.2
def Query.op:Query->Int
 |.mk op .. =>op
noncomputable def Co(s:jP)(ps:cq)(q:Query)(ks:List cq):=if(ks.length:Int)=arity q.op then eT s ps q (ks.getD 0 []) (ks.getD 1 [])else eF 100
def Cp(P:Int->Prop):=λc m h K=>∃n s ps q ks,c=[aN n]/\Cj h s ps q ks n/\oE s/\P q.op/\∀r,fin r=Co s ps q ks->KR K m h r
def cWX h c ks:=bN h 1 eS (λk d=>Ints h d k) c ks
def Mt:Vc.Spec:=λc m h K=>∃d ks,c=[cS d]/\cWX h d ks/\ks.length<=10/\(∀k∈ks,k.length<=12)/\∀e h',PH.le h h'->Ints h' e ks.flatten->K (cS e) m h'
noncomputable def bMZ(n:NV)(m:MH)(h:PH):=
 dJ [(236,Er)] [(5,{A:=Nat×cq,st:=λ⟨i,l⟩=>bZ 57 58 [(1,.at (.ptr 1 0)),(4,.at (.lst 25)),(28,sv n.q.columns),(29,iv n.q.columns.len),(30,iv i)] [(1,.cells 190 (n.enc.map .val)),(25,.lst 3 1 (l.map eI))] m h})] [] [] false
noncomputable abbrev VE a b:=aX a b (aX bI bI (aX bI bI (aX bI bI (uD pV (uC pV iP)))))
attribute [push_cast] VE
def Jj n m h K:=
  DZ (cE (aX (AB n.s) (AA n.s) (aX (dX n.params) (fV n.q.op) (aX (sF n.q) (tC n.q) (aX (fV (tH n.q)) (oB (nE n.q)) (jK n (gR n)))))) (gC (gG 0) (kE (VE bI (sF n.q))))) (λc k u=>cE (aX (AB c.s) (AA c.s) (aX (dX c.params) (fV c.q.op) (aX (sF c.q) (tC c.q) (aX (fV (tH c.q)) (oB (nE c.q)) (jK c (gR c)))))) (vX k u)) h (λk q d u r=>hX (iD r (D3 d k q u)) (!r) (cC K 100 m h) (bA n.q.table 0 (cC K 100 m h) (iG n.q.table (kT n.s) (cC K 100 m h) (A9 n.s n.q.table h (λs e=>lO K s 0 m e)))))
def Ji n m h K:=
  DZ (cE (aX (AB n.s) (AA n.s) (aX (dX n.params) (fV n.q.op) (aX (sF n.q) (tC n.q) (aX (fV (tH n.q)) (oB (nE n.q)) (jK n (gR n)))))) (gC (gG 1) (kE (aX bI bI (aX (tC n.q) (fV (tH n.q)) (aX (oB (nE n.q)) (zB (nE n.q)) (aX (fV (qL (nE n.q))) (uF (nE n.q)) (aX (qD (nE n.q)) (oB (pX n.q)) (aX (zB (pX n.q)) (fV (qL (pX n.q))) (aX (uF (pX n.q)) (qD (pX n.q)) (aX (zF n.q) pV (uC pV iP)))))))))))) (λd k u=>cE (aX (AB d.s) (AA d.s) (aX (dX d.params) (fV d.q.op) (aX (sF d.q) (tC d.q) (aX (fV (tH d.q)) (oB (nE d.q)) (jK d (gR d)))))) (vX k u)) h (λk q t u r=>hX (iD r (D3 t k q u)) (!r) (cC K 100 m h) (bK (λb o=>aI (aW n.args.a b
 o) ((0:Int)<=0) (0<aG n.args) (∃(y:Sl),aL m h b (o+0) (aM y)/\Ga (dE y (gT n.params (lN n.q.where_))) h (λc p e=>cX (iI c p e) 0 (cC K (iI c p e) m h) (bK (λf g=>aI (aW n.args.a f g) ((0:Int)<=0) (0<aG n.args) (∃(j:Sl),aL m h f (g+0) (aM j)/\lO K j 0 m h))))))))
noncomputable abbrev A1(a:NV):=a.q.columns
abbrev Lx(a:(Nat×cq->Prop)->(Nat×cq)->Prop)(b:(Nat×cq->Prop)->(Nat×cq->Nat)->(Nat×cq)->Prop):=∃(x:Nat×cq->Prop)(d:Nat×cq->Nat),(∃(c:Nat×cq),a x c)/\∀(c:Nat×cq),b x d c
noncomputable abbrev qO(a:Nat×cq):=hU a.2
attribute [push_cast] A1 Lx qO
def Jh n m h K:=
  DZ (cE (aX (AB n.s) (AA n.s) (aX (dX n.params) (fV n.q.op) (aX (sF n.q) (tC n.q) (aX (fV (tH n.q)) (oB (nE n.q)) (jK n (gR n)))))) (gC (gG 1) (kE (IE (uD (z7 n.q) (uC pV iP)))))) (λc k u=>cE (aX (AB c.s) (AA c.s) (aX (dX c.params) (fV c.q.op) (aX (sF c.q) (tC c.q) (aX (fV (tH c.q)) (oB (nE c.q)) (jK c (gR c)))))) (vX k u)) h (λk q E u r=>iD r (D3 E k q u)->dP (!r) (cC K 100 m h) (aG n.q.columns==0) (cC K 100 m h) (aA (cM 0) (cM (aG n.q.columns)) (aA (Ah (A1 n) 8) (Af (aG (A1 n))) (Lx (λI x=>aA (I x) eW (aA (eL 25) (aJ (A1 n)) (aA (bJ (A1 n)) (bE x.1) (aA (FY n) (tG x.2) (eG m m h h))))) (λI f x=>I x->bA
 (↑x.1:Int) (aG (A1 n)) (bK (λb o=>aI (aW (A1 n).a b o) (0<=(↑x.1:Int)) ((↑x.1:Int)<aG (A1 n)) (∃(y:Int),aL m h b (o+bM x.1 1) (bC y)/\bA y 0 (cC K 100 m h) (bK (λg j=>aI (aW n.args.a g j) ((0:Int)<=0) (0<aG n.args) (∃(t:Sl),aL m h g (j+0) (aM t)/\iG y (aG t) (cC K 100 m h) (bK (λz A=>aI (aW n.args.a z A) ((0:Int)<=0) (0<aG n.args) (∃(e:Sl),aL m h z (A+0) (aM e)/\bK (λB C=>aI (aW e.a B C) (0<=y) (y<aG e) (∃(D:Int),aI (aL m h B (C+iA y 1) (bC D)) (A4 (qO x)) (dR (qO x)) (∃(d:Nat×cq),aA (I d) (f d<f x) (aA eW (eL 25) (aA (aJ (A1 n)) (bJ (A1 n)) (aA (gX (bH x.1 1)=bP d.1) (FY n) (dL (lS (dN
 (qO x) (bC D)) d.2) m m h h)))))))))))))))) (uL h (qO x) K m))))))
noncomputable abbrev lR(a:NV)(b:cr):=kE (aX (AB a.s) (AA a.s) (aX (dX a.params) (fV a.q.op) (aX (sF a.q) (tC a.q) (aX (fV (tH a.q)) (oB (nE a.q)) b))))
abbrev j8 a b c d e:=cR a b (c+d) e
noncomputable abbrev tA a:=HA (qW a)
attribute [push_cast] lR j8 tA
def Jg n m h K:=
  ∃(c:NV),FP (λs p q k=>aA (fY (lR n (jK n (gR n))) (lR c (jK c (gR c)))) (Cj h s p q k c) (∀(r:Bool),hX (iD r (Pm k q)) (!r) (cC K 100 m h) (bK (λb o=>aI (aW n.args.a b o) ((0:Int)<=0) (0<aG n.args) (∃(y:Sl),aL m h b (o+0) (aM y)/\bK (λe f=>aI (aW n.args.a e f) ((0:Int)<=1) (1<aG n.args) (∃(g:Sl),aI (aL m h e (f+1) (aM g)) (j8 h b o 0 (aM y)) (j8 h e f 1 (aM g)) (cF h 1 (mE (aM y) (aM g)) (λB t=>∃(u:Sl)(d:List cq),aA (tA B=tA u) (cWX t u d) (aA (d.length<=10) (∀(z:cq),List.Mem z d->z.length<=12) (∀(A:Sl)(j:PH),bR t j (Ints j A d.flatten) (lO K A 0 m j))))))))))))
def Jf n m h K:=
  ∃(c:NV),FP (λs p q k=>aA (fY (lR n (jK n (gR n))) (lR c (jK c (gR c)))) (Cj h s p q k c) (∀(r:Bool),hX (iD r (Pm k q)) (!r) (cC K 100 m h) (bK (λb o=>aI (aW n.args.a b o) ((0:Int)<=0) (0<aG n.args) (∃(y:Sl),aL m h b (o+0) (aM y)/\lO K y 0 m h)))))
def Nw n m h K:=
  DZ (cE (aX (AB n.s) (AA n.s) (aX (dX n.params) (fV n.q.op) (aX (sF n.q) (tC n.q) (aX (fV (tH n.q)) (oB (nE n.q)) (jK n (gR n)))))) (gC (gG 2) (kE zV))) (λc k u=>cE (aX (AB c.s) (AA c.s) (aX (dX c.params) (fV c.q.op) (aX (sF c.q) (tC c.q) (aX (fV (tH c.q)) (oB (nE c.q)) (jK c (gR c)))))) (vX k u)) h (λk q A u r=>hX (iD r (D3 A k q u)) (!r) (cC K 100 m h) (bK (λb o=>aI (aW n.args.a b o) ((0:Int)<=0) (0<aG n.args) (∃(y:Sl),aL m h b (o+0) (aM y)/\bK (λd e=>aI (aW n.args.a d e) ((0:Int)<=1) (1<aG n.args) (∃(f:Sl),aL m h d (e+1) (aM f)/\A7 y f h (λa B g=>hX (iD g (a=B)) (!g) (cC K 100 m h) (bK (λj t=>aI (aW n.args.a j t)
 ((0:Int)<=0) (0<aG n.args) (∃(z:Sl),aL m h j (t+0) (aM z)/\lO K z 0 m h))))))))))
abbrev Hz(a:Int->Int->Prop):=∃(x c:Int),a x c
abbrev Q1(a:cq->cv->Prop):=∃(x:cq)(c:cv),a x c
abbrev D7(a:Int->Int->Pred->cq->cw->cq->cv->Int->dc->Prop):=Hz (λx c=>∃(d:Pred)(e:cq)(f:cw),Q1 (λg j=>∃(n:Int)(o:dc),a x c d e f g j n o))
attribute [push_cast] Hz Q1 D7
def Je n m h K:=
  ∃(e:NV),FP (λs p q k=>aA (fY (lR n (jK n (gR n))) (lR e (jK e (gR e)))) (Cj h s p q k e) (DZ (cE (aX (AB n.s) (AA n.s) (aX (dX n.params) (fV n.q.op) (aX (sF n.q) (tC n.q) (aX (fV (tH n.q)) (oB (nE n.q)) (jK n (gR n)))))) (gC (gG 1) (kE (IE (uD pV (zN pV e.q iP)))))) (λd f u=>cE (aX (AB d.s) (AA d.s) (aX (dX d.params) (fV d.q.op) (aX (sF d.q) (tC d.q) (aX (fV (tH d.q)) (oB (nE d.q)) (jK d (gR d)))))) (vX f u)) h (λf C D u r=>hX (iD r (D3 D f C u)) (!r) (cC K 100 m h) (∃(d:NV),FP (λE F j z=>∃(a:cq),aI (fY (lR n (jK n (gR n))) (lR d (jK d (gR d)))) (Cj h E F j z d) (z[0]? =Option.some a)
 (∀(A:Bool),hX (iD A (D7 (λo t w c G g B l H=>j=Query.mk o t w c G g B l H/\nJ a g B l))) (!A) (cC K 100 m h) (bK (λb o=>aI (aW n.args.a b o) ((0:Int)<=0) (0<aG n.args) (∃(y:Sl),aL m h b (o+0) (aM y)/\lO K y 0 m h)))))))))
def Jd n m h K:=
  ∃(e:NV),FP (λs p q k=>aA (fY (lR n (jK n (gR n))) (lR e (jK e (gR e)))) (Cj h s p q k e) (DZ (cE (aX (AB n.s) (AA n.s) (aX (dX n.params) (fV n.q.op) (aX (sF n.q) (tC n.q) (aX (fV (tH n.q)) (oB (nE n.q)) (jK n (gR n)))))) (gC (gG 2) (kE (IE (uD pV (zN pV e.q iP)))))) (λd B u=>cE (aX (AB d.s) (AA d.s) (aX (dX d.params) (fV d.q.op) (aX (sF d.q) (tC d.q) (aX (fV (tH d.q)) (oB (nE d.q)) (jK d (gR d)))))) (vX B u)) h (λB L M u r=>hX (iD r (D3 M B L u)) (!r) (cC K 100 m h) (bK (λb o=>aI (aW n.args.a b o) ((0:Int)<=0) (0<aG n.args) (∃(y:Sl),aL m h b (o+0) (aM y)/\bK (λf j=>aI (aW n.args.a f j) ((0:Int)<=1) (1<
 aG n.args) (∃(z:Sl),aL m h f (j+1) (aM z)/\A7 y z h (λa O C=>hX (iD C (a=O)) (!C) (aA (j8 h b o 0 (aM y)) (j8 h f j 1 (aM z)) (cC K 100 m h)) (aA (j8 h b o 0 (aM y)) (j8 h f j 1 (aM z)) (∃(d:NV),FP (λP Q D E=>∃(F:cq),aI (fY (lR n (jK n (gR n))) (lR d (jK d (gR d)))) (Cj h P Q D E d) (E[0]? =Option.some F) (∀(G:Bool),hX (iD G (D7 (λA t w c R g H l S=>D=Query.mk A t w c R g H l S/\nJ F g H l))) (!G) (cC K 100 m h) (bK (λI A=>aI (aW n.args.a I A) ((0:Int)<=0) (0<aG n.args) (∃(J:Sl),aL m h I (A+0) (aM J)/\lO K J 0 m h))))))))))))))))
theorem VX{e}(h:e≠0):fin (eF e)=eF e:=by unfold fin;rw[if_neg (by simpa[eF]using h)];rfl
theorem aMQ l:fin (l,0)=nF l:=by unfold fin;grind
structure Tst(K:cn)(m:MH)(h:PH)(full:cq×Int):Prop where
 all:∀r,fin r=full->KR K m h r
theorem Tst.err{f e}(x:Tst K m h f)(d:f=eF e)(g:e≠0)(c:PH.le h h'):K (.tup [.val (.slice none 0 0),.val (.int .i64 e)]) m h':=
 (x.all (eF e) (by rw[d,VX g])).err c rfl
theorem Tst.ok{f sl}(x:Tst K m h f)(d:f=nF l)(c:PH.le h h')(e:Ints h' sl l):K (.tup [.val (.slice sl.a sl.len sl.cap),.val (.int .i64 0)]) m h':=
 x.all (l,0) (by rw[d,aMQ]) sl h' c e
theorem Al{q}(h:¬((ks.length:Int)=arity q.op/\cV q)):Co s ps q ks=eF 100:=by
 unfold Co;by_cases c:(ks.length:Int)=arity q.op
 .rw[if_pos c];unfold eT;rw[if_pos (.inr λe=>h ⟨c,e⟩)]
 grind
theorem tY{s:jP}{ps op ta w co on gr od li args ks}(c:(ks.length:Int)=arity op)(d:cV (.mk op ta w co on gr od li args))(e:0<=arity op):
 Co s ps (.mk op ta w co on gr od li args) ks=eT s ps (.mk op ta w co on gr od li args) (ks.getD 0 []) (ks.getD 1 [])/\¬(arity op<0\/¬cV (.mk op ta w co on gr od li args)):=by
 unfold Co;rw[if_pos (show(ks.length:Int)=arity (Query.op (.mk op ta w co on gr od li args))from c)]
 grind
section
variable{n:NV}{s:jP}{ps:cq}{ta:Int}{w:Pred}{co:cq}{on:cw}{gr:cq}{od:cv}{li:Int}{args:dc}{ks:List cq}{m:MH}{h:PH}{K:cn}
theorem ZF(c:(ks.length:Int)=1):∃a,ks=[a]:=by
 match ks,c with
 |[a],_=>grind
 |[],h=>simp at h
 |_::_::_,h=>grind
theorem Vi(c:(ks.length:Int)=2):∃a b,ks=[a,b]:=by
 match ks,c with
 |[a,b],_=>grind
 |[],h=>simp at h
 |[_],h=>simp at h
 |_::_::_::_,h=>grind
theorem cyX(f:Cj h s ps (.mk 1 ta w co on gr od li args) ks n)(u:oE s)(c:Tst K m h (Co s ps (.mk 1 ta w co on gr od li args) ks)):Jj n m h K:=by
 dsimp only[Jj,push_cast];have x:=f.q_.parts;have j:=x.table_;have y:=f.s_.tables.slen;refine⟨n,0,⟨0,n.q.table,⟨0,0,gA,gA,⟨none,0,0⟩⟩,⟨none,0,0⟩,⟨none,0,0⟩,⟨none,0,0⟩,⟨none,0,0⟩,0,⟨none,0,0⟩⟩,s,ps,_,ks,.mk 0 ta fW [] [] [] [] 0 [],rfl,f,uH.rep ⟨rfl,j,FH h,⟨.nil _ _,ay⟩,⟨.nil _ _,ay⟩,⟨.nil _ _,ay⟩,⟨.nil _ _,ay⟩,rfl,.nil _ _ _ _⟩,λr o=>aD (λz=>c.err (Al λe=>?_) aC (.refl _)) (λz=>?_)⟩
 .have:r=true:=o.2 ⟨e.1,by have:=e.2;simp[cV]at this;obtain⟨rfl,rfl,rfl,rfl,rfl,rfl⟩:=this;rfl⟩
  grind
 obtain⟨A,d⟩:=o.1 bg;simp only[Query.withOf,Query.mk.injEq]at d;obtain⟨_,_,rfl,rfl,rfl,rfl,rfl,rfl,_⟩:=d;obtain⟨B,C⟩:=tY (s:=s) (ps:=ps) (op:=1) (ta:=ta) (w:=fW) (co:=[]) (on:=[]) (gr:=[]) (od:=[]) (li:=0) (args:=args) (ks:=ks) A (by simp[cV]) az;rw[B]at c;unfold eT at c;rw[if_neg C]at c;dsimp only at c;rw[if_pos rfl]at c;refine aF (λD=>c.err (if_neg aC) aC (.refl _)) (λD=>aF (λE=>c.err (if_neg aC) aC (.refl _)) (λE=>⟨n.s,s,n.q.table,rfl,f.s_,u,λy h' g t=>?_⟩));rw[j]at t;exact c.ok (if_pos aC) g t
theorem cyQ(f:Cj h s ps (.mk 2 ta w co on gr od li args) ks n)(c:Tst K m h (Co s ps (.mk 2 ta w co on gr od li args) ks)):Ji n m h K:=by
 dsimp only[Ji,push_cast];have x:=f.q_.parts;refine⟨n,1,⟨0,0,n.q.where_,⟨none,0,0⟩,⟨none,0,0⟩,⟨none,0,0⟩,⟨none,0,0⟩,0,⟨none,0,0⟩⟩,s,ps,_,ks,.mk 0 0 w [] [] [] [] 0 [],rfl,f,uH.rep ⟨rfl,rfl,x.where_,⟨.nil _ _,ay⟩,⟨.nil _ _,ay⟩,⟨.nil _ _,ay⟩,⟨.nil _ _,ay⟩,rfl,.nil _ _ _ _⟩,λr o=>aD (λB=>c.err (Al λe=>?_) aC (.refl _)) (λB=>?_)⟩
 .have:r=true:=o.2 ⟨e.1,by have:=e.2;simp[cV]at this;obtain⟨rfl,rfl,rfl,rfl,rfl,rfl⟩:=this;rfl⟩
  grind
 obtain⟨t,d⟩:=o.1 bg;simp only[Query.withOf,Query.mk.injEq]at d;obtain⟨_,rfl,_,rfl,rfl,rfl,rfl,rfl,_⟩:=d;obtain⟨C,D⟩:=tY (s:=s) (ps:=ps) (op:=2) (ta:=0) (w:=w) (co:=[]) (on:=[]) (gr:=[]) (od:=[]) (li:=0) (args:=args) (ks:=ks) t (by simp[cV]) az;rw[C]at c;unfold eT at c;rw[if_neg D]at c;dsimp only at c;rw[if_neg az,if_pos rfl]at c;obtain⟨a,rfl⟩:=ZF t;obtain⟨u,y,g,z,F,A,G,H⟩:=f.arg (j:=0) rfl;simp only[getD_cons_zero]at c;refine⟨u,y,z,aC,aC,g,.imm aC,g,n.params,n.q.where_,a,ps,w,rfl,A,f.ps_,x.where_,aD (λE=>c.err (if_neg bg) bg (.refl _)) (λE=>⟨u,y,z,aC,aC,g,.imm aC,c.ok (if_pos bg) (.refl _) A⟩)⟩
theorem cxQ(t:Cj h s ps (.mk 5 ta w co on gr od li args) ks n)(d:Tst K m h (Co s ps (.mk 5 ta w co on gr od li args) ks)):Jf n m h K:=by
 dsimp only[Jf,push_cast];refine⟨n,s,ps,_,ks,rfl,t,λr u=>aD (λy=>d.err ?_ aC (.refl _)) (λy=>?_)⟩
 .by_cases f:((ks.length:Int)=arity 5/\cV (.mk 5 ta w co on gr od li args))
  .obtain⟨g,o⟩:=tY (s:=s) (ps:=ps) f.1 f.2 az;rw[g];unfold eT;rw[if_neg o];dsimp only;rw[if_neg az,if_neg az,if_neg az,if_neg az,if_pos rfl,if_neg];intro c;have e:=f.2;simp[cV]at e;have:r=true:=u.2 ⟨by have:=f.1;simp[arity]at this;omega,e.1,e.2.1,e.2.2.1,e.2.2.2.1,e.2.2.2.2.1,e.2.2.2.2.2,c⟩
   grind
  .exact Al f
 obtain⟨z,rfl,rfl,rfl,rfl,rfl,rfl,c⟩:=u.1 bg;obtain⟨g,o⟩:=tY (s:=s) (ps:=ps) (op:=5) (ta:=0) (w:=fW) (co:=[]) (on:=on) (gr:=[]) (od:=[]) (li:=0) (args:=args) (ks:=ks) (by rw[z];rfl) (by simp[cV]) az;rw[g]at d;unfold eT at d;rw[if_neg o]at d;dsimp only at d;rw[if_neg az,if_neg az,if_neg az,if_neg az,if_pos rfl,if_pos c]at d;obtain⟨a,b,rfl⟩:=Vi (ks:=ks) aC;obtain⟨A,B,C,D,F,E,G,H⟩:=t.arg (j:=0) rfl;exact⟨A,B,D,aC,aC,C,.imm aC,d.ok rfl (.refl _) E⟩
theorem cxX(y:Cj h s ps (.mk 4 ta w co on gr od li args) ks n)(f:Tst K m h (Co s ps (.mk 4 ta w co on gr od li args) ks)):Jg n m h K:=by
 dsimp only[Jg,push_cast];refine⟨n,s,ps,_,ks,rfl,y,λr D=>aD (λE=>f.err ?_ aC (.refl _)) (λE=>?_)⟩
 .by_cases o:((ks.length:Int)=arity 4/\cV (.mk 4 ta w co on gr od li args))
  .obtain⟨z,A⟩:=tY (s:=s) (ps:=ps) o.1 o.2 az;rw[z];unfold eT;rw[if_neg A];dsimp only;rw[if_neg az,if_neg az,if_neg az,if_pos rfl,if_neg];intro c;have e:=o.2;simp[cV]at e;have:r=true:=D.2 ⟨by have:=o.1;simp[arity]at this;omega,e.1,e.2.1,e.2.2.1,e.2.2.2.1,e.2.2.2.2.1,e.2.2.2.2.2,c⟩
   grind
  .exact Al o
 obtain⟨d,rfl,rfl,rfl,rfl,rfl,rfl,c⟩:=D.1 bg;obtain⟨z,A⟩:=tY (s:=s) (ps:=ps) (op:=4) (ta:=0) (w:=fW) (co:=[]) (on:=on) (gr:=[]) (od:=[]) (li:=0) (args:=args) (ks:=ks) (by rw[d];rfl) (by simp[cV]) az;rw[z]at f;unfold eT at f;rw[if_neg A]at f;dsimp only at f;rw[if_neg az,if_neg az,if_neg az,if_pos rfl,if_pos c]at f;obtain⟨a,b,rfl⟩:=Vi (ks:=ks) aC;obtain⟨F,G,B,H,S,I,T,U⟩:=y.arg (j:=0) rfl;obtain⟨J,L,C,M,V,O,W,X⟩:=y.arg (j:=1) rfl;refine⟨F,G,H,aC,aC,B,.imm aC,J,L,M,aC,aC,C,.imm aC,aC,aC,λP h' g t=>⟨P,[a,b],rfl,⟨⟨[B,C],t,rfl,λj k d=>?_⟩,ay⟩,ay,λk d=>y.len k d,λQ e u R=>f.ok (l:=a++b) ay (g.trans u) bg⟩⟩
 match j,d with
 |0,d=>simp at d;subst d;exact⟨B,rfl,I.mono g⟩
 |1,d=>simp at d;subst d;exact⟨C,rfl,O.mono g⟩
 |_+2,d=>simp at d
theorem cwJ{op}(t:op=6\/op=7\/op=8)(o:Cj h s ps (.mk op ta w co on gr od li args) ks n)(d:Tst K m h (Co s ps (.mk op ta w co on gr od li args) ks)):Nw n m h K:=by
 dsimp only[Nw,push_cast];have x:=o.q_.parts;have P:arity op=2:=by rcases t with rfl|rfl|rfl<;>rfl
 have c:op≠1/\op≠2/\op≠3/\op≠4/\op≠5/\op≠9/\op≠10:=by omega
 refine⟨n,2,⟨0,0,⟨0,0,gA,gA,⟨none,0,0⟩⟩,⟨none,0,0⟩,⟨none,0,0⟩,⟨none,0,0⟩,⟨none,0,0⟩,0,⟨none,0,0⟩⟩,s,ps,_,ks,.mk 0 0 fW [] [] [] [] 0 [],rfl,o,uH.rep ⟨rfl,rfl,FH h,⟨.nil _ _,ay⟩,⟨.nil _ _,ay⟩,⟨.nil _ _,ay⟩,⟨.nil _ _,ay⟩,rfl,.nil _ _ _ _⟩,λr z=>aD (λG=>d.err (Al λe=>?_) aC (.refl _)) (λG=>?_)⟩
 .have A:(ks.length:Int)=arity op:=e.1;have:r=true:=z.2 ⟨aC,by have:=e.2;simp[cV,c]at this;obtain⟨rfl,rfl,rfl,rfl,rfl,rfl,rfl⟩:=this;rfl⟩
  grind
 obtain⟨H,f⟩:=z.1 bg;simp only[Query.withOf,Query.mk.injEq]at f;obtain⟨_,rfl,rfl,rfl,rfl,rfl,rfl,rfl,_⟩:=f;obtain⟨I,J⟩:=tY (s:=s) (ps:=ps) (op:=op) (ta:=0) (w:=fW) (co:=[]) (on:=[]) (gr:=[]) (od:=[]) (li:=0) (args:=args) (ks:=ks) aC (by simp[cV]) aC;rw[I]at d;unfold eT at d;rw[if_neg J]at d;dsimp only at d;rw[if_neg c.1,if_neg c.2.1,if_neg c.2.2.1,if_neg c.2.2.2.1,if_neg c.2.2.2.2.1,if_neg c.2.2.2.2.2.1,if_neg c.2.2.2.2.2.2]at d;obtain⟨a,b,rfl⟩:=Vi H;obtain⟨B,C,u,D,Q,E,R,S⟩:=o.arg (j:=0) rfl;obtain⟨L,M,F,A,T,O,U,V⟩:=o.arg (j:=1) rfl;refine⟨B,C,D,aC,aC,u,.imm aC,L,M,A,aC,aC,F,.imm aC,u,F,a,b,rfl,E,O,λW g=>aD (λy=>d.err (if_neg λe=>?_) aC (.refl _)) (λy=>⟨B,C,D,aC,aC,u,.imm aC,d.ok (if_pos (g.1 bg)) (.refl _) E⟩)⟩;have e:a=b:=e;rw[g.2 e]at y;cases y
theorem cxJ(z:Cj h s ps (.mk 3 ta w co on gr od li args) ks n)(d:Tst K m h (Co s ps (.mk 3 ta w co on gr od li args) ks)):Jh n m h K:=by
 dsimp only[Jh,push_cast];have x:=z.q_.parts;have E:=x.columns_.slen;have F:=x.columns_.len;refine⟨n,1,⟨0,0,⟨0,0,gA,gA,⟨none,0,0⟩⟩,n.q.columns,⟨none,0,0⟩,⟨none,0,0⟩,⟨none,0,0⟩,0,⟨none,0,0⟩⟩,s,ps,_,ks,.mk 0 0 fW co [] [] [] 0 [],rfl,z,uH.rep ⟨rfl,rfl,FH h,x.columns_,⟨.nil _ _,ay⟩,⟨.nil _ _,ay⟩,⟨.nil _ _,ay⟩,rfl,.nil _ _ _ _⟩,λr G=>aD (λQ=>d.err (Al λe=>?_) aC (.refl _)) (λQ=>?_)⟩
 .have:r=true:=G.2 ⟨e.1,by have:=e.2;simp[cV]at this;obtain⟨rfl,rfl,rfl,rfl,rfl,rfl⟩:=this;rfl⟩
  grind
 obtain⟨H,o⟩:=G.1 bg;simp only[Query.withOf,Query.mk.injEq]at o;obtain⟨_,rfl,rfl,_,rfl,rfl,rfl,rfl,_⟩:=o;obtain⟨R,S⟩:=tY (s:=s) (ps:=ps) (op:=3) (ta:=0) (w:=fW) (co:=co) (on:=[]) (gr:=[]) (od:=[]) (li:=0) (args:=args) (ks:=ks) H (by simp[cV]) az;rw[R]at d;unfold eT at d;rw[if_neg S]at d;dsimp only at d;rw[if_neg az,if_neg az,if_pos rfl]at d;obtain⟨a,rfl⟩:=ZF H;obtain⟨I,J,L,M,r0,O,l0,j0⟩:=z.arg (j:=0) rfl;have T:=O.slen;simp only[getD_cons_zero]at d;refine aD (λP=>d.err (if_neg λe=>e.1 ((Ff E).1 P)) aC (.refl _)) (λP=>?_);have A:co≠[]:=λe=>bg
 refine⟨aC,aC,aC,aC,λ⟨i,l⟩=>i<=co.length/\l=(co.take i).map (λc=>a.getD c.toNat 0)/\gQ (λ_ c=>C9 a c=true) co i,λ⟨i,_⟩=>co.length-i,⟨(0,[]),⟨aC,ay,.zero⟩,MT⟩,?_⟩;rintro⟨i,_⟩ ⟨hi,rfl,t⟩;dsimp only;refine aF (λu=>?_) (λU sl h' B f=>?_)
 .obtain⟨c,y⟩:=fF E u;obtain⟨V,W,C,X⟩:=x.columns_.at' y;have g:¬C9 a c=true->K (.tup [.val (.slice none 0 0),.val (.int .i64 100)]) m h:=λY=>d.err (if_neg λe=>Y (e.2 i c y)) aC (.refl _);refine⟨V,W,C,aC,u,c,.imm X,aF (λZ=>g λe=>?_) (λZ=>⟨I,J,M,aC,aC,L,.imm aC,aF (λd3=>g λe=>?_) (λd3=>?_)⟩)⟩
  .have:=fB.1 e;omega
  .have:=fB.1 e;omega
  obtain⟨b2,o2,D,r2⟩:=O.inb (n:=c) aC aC;refine⟨I,J,M,aC,aC,L,.imm aC,b2,o2,D,aC,aC,_,.imm r2,?_,?_,(i+1,(co.take (i+1)).map (λc=>a.getD c.toNat 0)),⟨aC,rfl,t.succ y (fB.2 ⟨aC,aC⟩)⟩,aC,?_⟩
  .simp;omega
  .simp;omega
  .rw[j3 y,bu];exact MT
 .rw[bt aC]at f;exact d.ok (if_pos ⟨A,t.all aC⟩) B ⟨f,bf⟩
theorem cwZ(d:Cj h s ps (.mk 9 ta w co on gr od li args) ks n)(c:Tst K m h (Co s ps (.mk 9 ta w co on gr od li args) ks)):Je n m h K:=by
 dsimp only[Je,push_cast];have x:=d.q_.parts;refine⟨n,s,ps,_,ks,rfl,d,n,1,⟨0,0,⟨0,0,gA,gA,⟨none,0,0⟩⟩,⟨none,0,0⟩,⟨none,0,0⟩,n.q.group,n.q.order,n.q.limit,⟨none,0,0⟩⟩,s,ps,_,ks,.mk 0 0 fW [] [] gr od li [],rfl,d,uH.rep ⟨rfl,rfl,FH h,⟨.nil _ _,ay⟩,⟨.nil _ _,ay⟩,x.group_,x.order_,x.limit_,.nil _ _ _ _⟩,λr g=>aD (λt=>c.err (Al λe=>?_) aC (.refl _)) (λt=>?_)⟩
 .have:r=true:=g.2 ⟨e.1,by have:=e.2;simp[cV]at this;obtain⟨rfl,rfl,rfl,rfl⟩:=this;rfl⟩
  grind
 obtain⟨o,f⟩:=g.1 bg;simp only[Query.withOf,Query.mk.injEq]at f;obtain⟨_,rfl,rfl,rfl,rfl,_,_,_,_⟩:=f;obtain⟨u,y⟩:=tY (s:=s) (ps:=ps) (op:=9) (ta:=0) (w:=fW) (co:=[]) (on:=[]) (gr:=gr) (od:=od) (li:=li) (args:=args) (ks:=ks) o (by simp[cV]) az;rw[u]at c;unfold eT at c;rw[if_neg y]at c;dsimp only at c;rw[if_neg az,if_neg az,if_neg az,if_neg az,if_neg az,if_pos rfl]at c;obtain⟨a,rfl⟩:=ZF o;obtain⟨z,A,B,C,G,D,H,I⟩:=d.arg (j:=0) rfl;refine⟨n,s,ps,_,[a],a,rfl,d,rfl,λJ E=>aD (λF=>c.err (if_neg λe=>?_) aC (.refl _)) (λF=>⟨z,A,C,aC,aC,B,.imm aC,c.ok (if_pos ?_) (.refl _) D⟩)⟩
 .grind
 grind
theorem cwX(d:Cj h s ps (.mk 10 ta w co on gr od li args) ks n)(c:Tst K m h (Co s ps (.mk 10 ta w co on gr od li args) ks)):Jd n m h K:=by
 dsimp only[Jd,push_cast];have x:=d.q_.parts;refine⟨n,s,ps,_,ks,rfl,d,n,2,⟨0,0,⟨0,0,gA,gA,⟨none,0,0⟩⟩,⟨none,0,0⟩,⟨none,0,0⟩,n.q.group,n.q.order,n.q.limit,⟨none,0,0⟩⟩,s,ps,_,ks,.mk 0 0 fW [] [] gr od li [],rfl,d,uH.rep ⟨rfl,rfl,FH h,⟨.nil _ _,ay⟩,⟨.nil _ _,ay⟩,x.group_,x.order_,x.limit_,.nil _ _ _ _⟩,λr t=>aD (λD=>c.err (Al λe=>?_) aC (.refl _)) (λD=>?_)⟩
 .have:r=true:=t.2 ⟨e.1,by have:=e.2;simp[cV]at this;obtain⟨rfl,rfl,rfl,rfl⟩:=this;rfl⟩
  grind
 obtain⟨u,f⟩:=t.1 bg;simp only[Query.withOf,Query.mk.injEq]at f;obtain⟨_,rfl,rfl,rfl,rfl,_,_,_,_⟩:=f;obtain⟨E,F⟩:=tY (s:=s) (ps:=ps) (op:=10) (ta:=0) (w:=fW) (co:=[]) (on:=[]) (gr:=gr) (od:=od) (li:=li) (args:=args) (ks:=ks) u (by simp[cV]) az;rw[E]at c;unfold eT at c;rw[if_neg F]at c;dsimp only at c;rw[if_neg az,if_neg az,if_neg az,if_neg az,if_neg az,if_neg az,if_pos rfl]at c;obtain⟨a,b,rfl⟩:=Vi u;obtain⟨y,z,g,A,P,B,Q,R⟩:=d.arg (j:=0) rfl;obtain⟨G,H,C,I,S,J,T,U⟩:=d.arg (j:=1) rfl;refine⟨y,z,A,aC,aC,g,.imm aC,G,H,I,aC,aC,C,.imm aC,g,C,a,b,rfl,B,J,λV o=>aD (λL=>⟨aC,aC,c.err (if_neg λe=>?_) aC (.refl _)⟩) (λL=>⟨aC,aC,n,s,ps,_,[a,b],a,rfl,d,rfl,λW M=>aD (λO=>c.err (if_neg λe=>?_) aC (.refl _)) (λO=>⟨y,z,A,aC,aC,g,.imm aC,c.ok (if_pos ⟨o.1 bg,?_⟩) (.refl _) B⟩)⟩)⟩
 .grind
 .grind
 .grind
end
def fv(f:Nat):CV:=.val (.func (.func f) #[] #[])
def U0:Vc.Spec:=λc m h K=>∃op,c=[cI op]/\
 branch (op==1) (K (fv 187) m h) (branch (op==2) (K (fv 188) m h) (branch (op==3) (K (fv 189) m h) (branch (op==4) (K (fv 190) m h) (branch (op==5) (K (fv 191) m h) (branch (op==6) (K (fv 192) m h) (branch (op==7) (K (fv 192) m h) (branch (op==8) (K (fv 192) m h) (branch (op==9) (K (fv 193) m h) (branch (op==10) (K (fv 194) m h) (K (.val .nilFunc) m h))))))))))
noncomputable def coX(N:Nat)(sc:cA)(p:Sl)(v:QV)(m:MH):=
 dJ [(75,G1 N),(141,U0),(187,Cp (· =1)),(188,Cp (· =2)),(189,Cp (· =3)),(190,Cp (· =4)),(191,Cp (· =5)),(192,Cp (λop=>op=6\/op=7\/op=8)),(193,Cp (· =9)),(194,Cp (· =10))] [(3,{A:=Nat×cu×PH,st:=λ⟨i,c,h⟩=>bZ 62 65 [(1,sv p),(3,.at (.ptr 3 0)),(5,.at (.ptr 5 0)),(8,.at (.ptr 8 0)),(21,sv v.args),(22,iv v.args.len),(23,iv i)] [(3,.cells 27 (sc.enc.map .val)),(5,.cells 41 (v.enc.map .val)),(8,.cells 190 ((sc.enc++eS p++v.enc).map .val++[.lst 41])),(41,.lst 36 1 (c.map eS))] m h})] [] [] false
noncomputable abbrev LL:=oW Value.nilFunc
noncomputable abbrev qN a:=Value.func (Fn.func a) sR sR
attribute [push_cast] LL qN
def ND(op:Int)(m:MH)(h:PH)(K:cn):=
  ∀(b:Nat)(e:MH),bF (cK m h b) (bL m e b (aX Value.nilFunc Value.nilFunc (aX Value.nilFunc Value.nilFunc (aX Value.nilFunc Value.nilFunc (aX Value.nilFunc Value.nilFunc (aX Value.nilFunc Value.nilFunc LL))))) 241) (jN (λc E=>aA (yP e b (gO c E 0)) (11<=c.size) (∀(d:MH),bL e d b (aX Value.nilFunc (qN 187) (aX (qN 188) (qN 189) (aX (qN 190) (qN 191) (aX (qN 192) (qN 192) (aX (qN 192) (qN 193) (fE (qN 194) 11 c)))))) E->bA op 0 (K (CV.val Value.nilFunc) d h) (iG op 11 (K (CV.val Value.nilFunc) d h) (aA (cM op) (op<11) (∃(y:Option Nat),aL d h b (0+iA op 1) (oW (bYX y))/\K (CV.val (bYX y)) d h))))))
abbrev zI(a:Nat×cu×PH)(b:cA)(c:Sl)(d:QV)(e:Sl->cr)(g:NV->CV)(i:Query->Prop)(j:(cq×Int)->Sl->PH->Prop):=cF (pE a) 1 (wQ a) (λx y=>∃(z:NV),FP (λf A o B=>aA (HA (kE (aX (AB b) (AA b) (aX (dX c) (fV d.op) (aX (sF d) (tC d) (aX (fV (tH d)) (oB (nE d)) (e x))))))=HA (g z)) (Cj y f A o B z) (aA (oE f) (i o) (∀(t:cq×Int),fin t=Co f A o B->∀(C:Sl)(u:PH),bR y u (Ints u C t.1) (j t C u)))))
noncomputable abbrev zM a b:=aX (zB (nE a)) (fV (qL (nE a))) (aX (uF (nE a)) (qD (nE a)) (aX (oB (pX a)) (zB (pX a)) (aX (fV (qL (pX a))) (uF (pX a)) b)))
attribute [push_cast] zI zM
def XW N sc p v m h K:=
  PE (λI x=>aA (I x) (aJ p) (aA (eP 3) eM (aA iM (aJ v.args) (aA (wF v) (bE x.1) (aA (cL sc) (eO v) (aA (eQ (oQ 190 (gL (KT sc) (KS sc) (gL (BY p) (kF v.op) (zE v::B9 v v.on (EA v) (EB v) (gL (kF v.limit) (BY v.args) (DX (At.lst 41)))))))) (J1 36 1 (nX 36 x.2.1)) (eG m m h (pE x)))))))) (λI e x=>I x->bA (↑x.1:Int) (aG v.args) (bK (λb o=>aI (aW v.args.a b o) (0<=(↑x.1:Int)) ((↑x.1:Int)<aG v.args) (∃(y:QV),aL m (pE x) b (o+bM x.1 21) y.enc/\K6 sc p y (pE x) N (λs f q g c=>cX (aK s f q).2 0 (K (CV.tup (gC Ft (CV.val (fV (aK s f q).2)))) m c) (aA (kP (wQ x)) (dR (wQ x)) (∃(d:Nat×cu×PH),aA (I d) (e d<e x) (aA (aJ p) jU (aA eM iM (aA
 (aJ v.args) (wF v) (aA (gX (bH x.1 1)=bP d.1) (cL sc) (aA (eO v) (eQ (oQ 190 (gL (KT sc) (KS sc) (gL (BY p) (kF v.op) (zE v::B9 v v.on (EA v) (EB v) (gL (kF v.limit) (BY v.args) (DX (At.lst 41)))))))) (dL (bV 36 1 (dN (wQ x) (aM g))=nX 36 d.2.1) m m c (pE d))))))))))))) (A8 v.op (λo=>dP (o==1) (zI x sc p v (λs=>zM v (aX (qD (pX v)) (zF v) (aX (z7 v) (dX v.on) (aX (wY v) (wZ v) (aX (fV v.limit) (wX v) (aM s)))))) (λn=>lR n (jK n (gR n))) (λq=>q.op=1) (λr s c=>qB (r.2 !=0) (cC K r.2 m c) (aG s) 12 (cC K 2 m c) (lO K s 0 m c))) (o==2) (zI x sc p v (λs=>zM v (aX (qD (pX v)) (zF v) (aX (z7 v) (dX v.on) (aX (wY v) (wZ v) (aX
 (fV v.limit) (wX v) (aM s)))))) (λn=>lR n (jK n (gR n))) (λq=>q.op=2) (λr s c=>qB (r.2 !=0) (cC K r.2 m c) (aG s) 12 (cC K 2 m c) (lO K s 0 m c))) (dP (o==3) (zI x sc p v (λs=>zM v (aX (qD (pX v)) (zF v) (aX (z7 v) (dX v.on) (aX (wY v) (wZ v) (aX (fV v.limit) (wX v) (aM s)))))) (λn=>lR n (jK n (gR n))) (λq=>q.op=3) (λr s c=>qB (r.2 !=0) (cC K r.2 m c) (aG s) 12 (cC K 2 m c) (lO K s 0 m c))) (o==4) (zI x sc p v (λs=>zM v (aX (qD (pX v)) (zF v) (aX (z7 v) (dX v.on) (aX (wY v) (wZ v) (aX (fV v.limit) (wX v) (aM s)))))) (λn=>lR n (jK n (gR n))) (λq=>q.op=4) (λr s c=>qB (r.2 !=0) (cC K r.2 m c) (aG s) 12 (cC K 2 m
 c) (lO K s 0 m c))) (dP (o==5) (zI x sc p v (λs=>zM v (aX (qD (pX v)) (zF v) (aX (z7 v) (dX v.on) (aX (wY v) (wZ v) (aX (fV v.limit) (wX v) (aM s)))))) (λn=>lR n (jK n (gR n))) (λq=>q.op=5) (λr s c=>qB (r.2 !=0) (cC K r.2 m c) (aG s) 12 (cC K 2 m c) (lO K s 0 m c))) (o==6) (zI x sc p v (λs=>zM v (aX (qD (pX v)) (zF v) (aX (z7 v) (dX v.on) (aX (wY v) (wZ v) (aX (fV v.limit) (wX v) (aM s)))))) (λn=>lR n (jK n (gR n))) (λq=>q.op=6\/q.op=7\/q.op=8) (λr s c=>qB (r.2 !=0) (cC K r.2 m c) (aG s) 12 (cC K 2 m c) (lO K s 0 m c))) (dP (o==7) (zI x sc p v (λs=>zM v (aX (qD (pX v)) (zF v) (aX (z7 v) (dX v.on) (aX (wY v)
 (wZ v) (aX (fV v.limit) (wX v) (aM s)))))) (λn=>lR n (jK n (gR n))) (λq=>q.op=6\/q.op=7\/q.op=8) (λr s c=>qB (r.2 !=0) (cC K r.2 m c) (aG s) 12 (cC K 2 m c) (lO K s 0 m c))) (o==8) (zI x sc p v (λs=>zM v (aX (qD (pX v)) (zF v) (aX (z7 v) (dX v.on) (aX (wY v) (wZ v) (aX (fV v.limit) (wX v) (aM s)))))) (λn=>lR n (jK n (gR n))) (λq=>q.op=6\/q.op=7\/q.op=8) (λr s c=>qB (r.2 !=0) (cC K r.2 m c) (aG s) 12 (cC K 2 m c) (lO K s 0 m c))) (dP (o==9) (zI x sc p v (λs=>zM v (aX (qD (pX v)) (zF v) (aX (z7 v) (dX v.on) (aX (wY v) (wZ v) (aX (fV v.limit) (wX v) (aM s)))))) (λn=>lR n (jK n (gR n))) (λq=>q.op=9) (λr s c=>
 qB (r.2 !=0) (cC K r.2 m c) (aG s) 12 (cC K 2 m c) (lO K s 0 m c))) (o==10) (zI x sc p v (λs=>zM v (aX (qD (pX v)) (zF v) (aX (z7 v) (dX v.on) (aX (wY v) (wZ v) (aX (fV v.limit) (wX v) (aM s)))))) (λn=>lR n (jK n (gR n))) (λq=>q.op=10) (λr s c=>qB (r.2 !=0) (cC K r.2 m c) (aG s) 12 (cC K 2 m c) (lO K s 0 m c))) (cC K 100 m (pE x)))))))))
theorem asX:cm 141 U0:=by
 refine Fh func141 ?_;rintro u m h K ⟨op,rfl,f⟩;refine⟨rI [] [] [] [] [241] [] false,rfl,aH,ND op m h (lW h K),ax,?_⟩;show ND op m h (lW h K);dsimp only[ND,push_cast];intro b L t g;refine⟨_,_,⟨g.at_⟩,az,λy j=>?_⟩;have c:Sub m y:=((Sub.refl m).upd t.m_ g.other).upd t.m_ j.other;have e:=j.at_
 have d:∀k,¬(1<=op/\op<=10)->op=k->K (.val .nilFunc) m h:=λk M _=>by
  have:(op==1)=false/\(op==2)=false/\(op==3)=false/\(op==4)=false/\(op==5)=false/\(op==6)=false/\(op==7)=false/\(op==8)=false/\(op==9)=false/\(op==10)=false:=by
   grind
  obtain⟨z,A,B,C,D,E,F,G,H,o⟩:=this;rw[z,A,B,C,D,E,F,G,H,o]at f;exact f
 refine aF (λI=>.sub c (d _ aC rfl)) (λI=>aF (λJ=>.sub c (d _ aC rfl)) (λJ=>⟨aC,aC,?_⟩));have:op=0\/op=1\/op=2\/op=3\/op=4\/op=5\/op=6\/op=7\/op=8\/op=9\/op=10:=by omega
 rcases this with rfl|rfl|rfl|rfl|rfl|rfl|rfl|rfl|rfl|rfl|rfl
 .exact⟨none,.lent _ _ _ e rfl,.sub c (d 0 aC rfl)⟩
 .exact⟨some 187,.lent _ _ _ e rfl,.sub c f⟩
 .exact⟨some 188,.lent _ _ _ e rfl,.sub c f⟩
 .exact⟨some 189,.lent _ _ _ e rfl,.sub c f⟩
 .exact⟨some 190,.lent _ _ _ e rfl,.sub c f⟩
 .exact⟨some 191,.lent _ _ _ e rfl,.sub c f⟩
 .exact⟨some 192,.lent _ _ _ e rfl,.sub c f⟩
 .exact⟨some 192,.lent _ _ _ e rfl,.sub c f⟩
 .exact⟨some 192,.lent _ _ _ e rfl,.sub c f⟩
 .exact⟨some 193,.lent _ _ _ e rfl,.sub c f⟩
 .exact⟨some 194,.lent _ _ _ e rfl,.sub c f⟩
theorem akX:cm 187 (Cp (· =1)):=by
 refine iU func187 ?_;rintro d m h K ⟨n,s,ps,q,ks,rfl,e,f,c,g⟩;obtain⟨op,ta,w,co,on,gr,od,li,args⟩:=q;refine⟨dJ [(236,Er),(69,vJ)] [] [] [] false,rfl,(aE yO (aE Fo aH)),Jj n m h K,ax,?_⟩;dsimp only[Jj,push_cast];cases (show op=1 from c);exact cyX e f ⟨g⟩
theorem akQ:cm 188 (Cp (· =2)):=by
 refine iU func188 ?_;rintro d m h K ⟨n,s,ps,q,ks,rfl,e,g,c,f⟩;obtain⟨op,ta,w,co,on,gr,od,li,args⟩:=q;refine⟨dJ [(236,Er),(138,vI)] [] [] [] false,rfl,(aE yO (aE Ka aH)),Ji n m h K,ax,?_⟩;dsimp only[Ji,push_cast];cases (show op=2 from c);exact cyQ e ⟨f⟩
theorem ajJ:cm 189 (Cp (· =3)):=by
 refine iU func189 ?_;rintro d m h K ⟨n,s,ps,q,ks,rfl,e,g,c,f⟩;obtain⟨op,ta,w,co,on,gr,od,li,args⟩:=q;refine⟨bMZ n m h,rfl,(aE yO aH),Jh n m h K,ax,?_⟩;dsimp only[Jh,push_cast];cases (show op=3 from c);exact cxJ e ⟨f⟩
theorem ajZ(c:cm 154 Mt):cm 190 (Cp (· =4)):=by
 refine iU func190 ?_;rintro e m h K ⟨n,s,ps,q,ks,rfl,f,j,d,g⟩;obtain⟨op,ta,w,co,on,gr,od,li,args⟩:=q;refine⟨dJ [(237,Si),(154,Mt)] [] [] [] false,rfl,(aE RG (aE c aH)),Jg n m h K,ax,?_⟩;dsimp only[Jg,push_cast];cases (show op=4 from d);exact cxX f ⟨g⟩
theorem ajX:cm 191 (Cp (· =5)):=by
 refine iU func191 ?_;rintro d m h K ⟨n,s,ps,q,ks,rfl,e,g,c,f⟩;obtain⟨op,ta,w,co,on,gr,od,li,args⟩:=q;refine⟨dJ [(237,Si)] [] [] [] false,rfl,(aE RG aH),Jf n m h K,ax,?_⟩;dsimp only[Jf,push_cast];cases (show op=5 from c);exact cxQ e ⟨f⟩
theorem ajQ:cm 192 (Cp (λop=>op=6\/op=7\/op=8)):=by
 refine iU func192 ?_;rintro d m h K ⟨n,s,ps,q,ks,rfl,e,g,c,f⟩;obtain⟨op,ta,w,co,on,gr,od,li,args⟩:=q;refine⟨dJ [(236,Er),(152,DE)] [] [] [] false,rfl,(aE yO (aE GU aH)),Nw n m h K,ax,?_⟩;exact cwJ c e ⟨f⟩
theorem aiJ:cm 193 (Cp (· =9)):=by
 refine iU func193 ?_;rintro d m h K ⟨n,s,ps,q,ks,rfl,e,g,c,f⟩;obtain⟨op,ta,w,co,on,gr,od,li,args⟩:=q;refine⟨dJ [(236,Er),(238,Sd),(239,Se)] [] [] [] false,rfl,(aE yO (aE RF (aE RE aH))),Je n m h K,ax,?_⟩;dsimp only[Je,push_cast];cases (show op=9 from c);exact cwZ e ⟨f⟩
theorem aiZ:cm 194 (Cp (· =10)):=by
 refine iU func194 ?_;rintro d m h K ⟨n,s,ps,q,ks,rfl,e,g,c,f⟩;obtain⟨op,ta,w,co,on,gr,od,li,args⟩:=q;refine⟨dJ [(236,Er),(152,DE),(238,Sd),(239,Se)] [] [] [] false,rfl,(aE yO (aE GU (aE RF (aE RE aH)))),Jd n m h K,ax,?_⟩;dsimp only[Jd,push_cast];cases (show op=10 from c);exact cwX e ⟨f⟩
theorem aNX(F:cm 154 Mt):∀N,cm 75 (G1 N)
 |0=>by
  refine fP (fn:=Tryz.f75) (c:=dY Tryz.f75) func75 rfl az ?_;rintro S m h K ⟨sc,p,v,s,ps,q,rfl,_,_,_,_,hN,_⟩;omega
 |N+1=>by
  refine iU func75 ?_;rintro S m h K ⟨sc,p,v,s,ps,q,rfl,hs,C,hp,hq,hN,B⟩;refine⟨coX N sc p v m,rfl,(aE (aNX F N) (aE asX (aE akX (aE akQ (aE ajJ (aE (ajZ F) (aE ajX (aE ajQ (aE aiJ (aE aiZ aH)))))))))),XW N sc p v m h K,ax,?_⟩;dsimp only[XW,push_cast];have T:=@Dp q;have U:=hq;obtain⟨op,ta,w,co,on,gr,od,li,args⟩:=q;have x:=hq.parts;have D:=x.op_;have hl:=x.args_.slen;have a':=x.args_.len;simp only[Query.args]at T;simp only[aK]at B;refine⟨λ⟨i,G,L⟩=>i<=args.length/\PH.le h L/\∃ks,Slices L G ks/\(args.take i).map (aK s ps)=ks.map (λk=>(k,0)),λ⟨i,_,_⟩=>args.length-i,⟨(0,[],h),⟨aC,.refl _,[],⟨rfl,λj s k V=>by simp at V⟩,ay⟩,MT⟩,?_⟩;rintro⟨i,G,L⟩ ⟨hi,y,ks,P,A⟩;have W:ks.length=i:=by have:=congrArg List.length A;grind
  have X:G.length=i:=by rw[P.1,W]
  dsimp only;refine aF (λH=>?_) (λa0=>?_)
  .obtain⟨Q,I⟩:=fF hl H;obtain⟨b1,o1,u,Y,r1,Z⟩:=(x.args_.mono y).at I;refine⟨b1,o1,Y,aC,H,u,.imm r1,sc,p,u,s,ps,Q,rfl,hs.mono y,C,hp.mono y,Z,?_,λg h' d E=>aD (λV=>?_) (λV=>?_)⟩
   .grind
   .have he:(aK s ps Q).2≠0:=bg
    rw[HG he A I rfl]at B;exact B.err (y.trans d) (if_neg he)
   .have he:(aK s ps Q).2=0:=bg
    refine⟨bf,bf,(i+1,G++[g],h'),⟨aC,y.trans d,ks++[(aK s ps Q).1],(P.mono d).snoc E,?_⟩,aC,?_⟩
    .rw[j3 I,A,bu]
     grind
    .rw[bu];exact MT
  .rw[bt aC]at A;rw[vE A]at B;simp only[if_true]at B;have B:KR K m h (Co s ps (.mk op ta w co on gr od li args) ks):=B
   have o:∀(g:Sl)(h':PH),PH.le L h'->dD h' g 1 (G.map eS)->Cj h' s ps (.mk op ta w co on gr od li args) ks ⟨sc,p,v,g⟩:=λg h' d f=>by
    refine⟨(hs.mono y).mono d,(hp.mono y).mono d,(U.mono y).mono d,⟨⟨G,f,P.1.symm,λj k hk=>?_⟩,aC⟩,λk hk=>?_⟩
    .have hj:j<G.length:=bg
     exact⟨G[j],bn hj,(P.2 j _ _ (bn hj) hk).mono d⟩
    .obtain⟨j,hj⟩:=mem_iff_getElem?.1 hk;have:=M3 A j
     grind
   have t:∀(h':PH),PH.le L h'->∀r,fin r=Co s ps (.mk op ta w co on gr od li args) ks->∀(g:Sl)(z:PH),PH.le h' z->Ints z g r.1->
    branch (r.2 !=0) (K (.tup [.val (.slice none 0 0),.val (.int .i64 r.2)]) m z) (branch (decide ((g.len:Int)>12)) (K (.tup [.val (.slice none 0 0),.val (.int .i64 2)]) m z) (K (.tup [.val (.slice g.a g.len g.cap),.val (.int .i64 0)]) m z)):=by
    intro h' d r hr g z M E;have J:PH.le h z:=(y.trans d).trans M;rw[<-hr]at B;have X:=E.slen;refine aD (λR=>?_) (λR=>aF (λd2=>?_) (λd2=>?_))
    .have R:r.2≠0:=bg
     exact B.err J (by unfold fin;grind)
    .have R:r.2=0:=bg
     exact B.big (l:=r.1) J (by unfold fin;grind) aC
    .have R:r.2=0:=bg
     exact B.ok (l:=r.1) J (by unfold fin;grind) aC E.row
   refine⟨v.op,rfl,?_⟩;rw[D];refine aD (λc1 g h' d f=>⟨⟨sc,p,v,g⟩,s,ps,_,ks,by rw[<-D],o g h' d f,C,beq_iff_eq.1 c1,t h' d⟩) (λc1=>?_);refine aD (λc2 g h' d f=>⟨⟨sc,p,v,g⟩,s,ps,_,ks,by rw[<-D],o g h' d f,C,beq_iff_eq.1 c2,t h' d⟩) (λc2=>?_);refine aD (λc3 g h' d f=>⟨⟨sc,p,v,g⟩,s,ps,_,ks,by rw[<-D],o g h' d f,C,beq_iff_eq.1 c3,t h' d⟩) (λc3=>?_);refine aD (λc4 g h' d f=>⟨⟨sc,p,v,g⟩,s,ps,_,ks,by rw[<-D],o g h' d f,C,beq_iff_eq.1 c4,t h' d⟩) (λc4=>?_);refine aD (λc5 g h' d f=>⟨⟨sc,p,v,g⟩,s,ps,_,ks,by rw[<-D],o g h' d f,C,beq_iff_eq.1 c5,t h' d⟩) (λc5=>?_);refine aD (λc6 g h' d f=>⟨⟨sc,p,v,g⟩,s,ps,_,ks,by rw[<-D],o g h' d f,C,.inl (beq_iff_eq.1 c6),t h' d⟩) (λc6=>?_);refine aD (λc7 g h' d f=>⟨⟨sc,p,v,g⟩,s,ps,_,ks,by rw[<-D],o g h' d f,C,.inr (.inl (beq_iff_eq.1 c7)),t h' d⟩) (λc7=>?_);refine aD (λc8 g h' d f=>⟨⟨sc,p,v,g⟩,s,ps,_,ks,by rw[<-D],o g h' d f,C,.inr (.inr (beq_iff_eq.1 c8)),t h' d⟩) (λc8=>?_);refine aD (λc9 g h' d f=>⟨⟨sc,p,v,g⟩,s,ps,_,ks,by rw[<-D],o g h' d f,C,beq_iff_eq.1 c9,t h' d⟩) (λc9=>?_);refine aD (λO g h' d f=>⟨⟨sc,p,v,g⟩,s,ps,_,ks,by rw[<-D],o g h' d f,C,beq_iff_eq.1 O,t h' d⟩) (λO=>B.err y ?_);refine Al λe=>?_;have:arity op= -1:=by simp only[arity];grind
   have:=e.1;simp only[Query.op]at this;omega
def jI:PV:=⟨0,0,gA,gA,⟨none,0,0⟩⟩
theorem Vt(l:cw):fU 2 (l.map sU):=by
 constructor
 .intro e c;obtain⟨x,_,rfl⟩:=mem_map.1 c;rfl
 .intro e c u d;obtain⟨x,_,rfl⟩:=mem_map.1 c;simp[sU]at d;rcases d with rfl|rfl<;>rfl
theorem Vs(l:cv):fU 2 (l.map DT):=by
 constructor
 .intro e c;obtain⟨x,_,rfl⟩:=mem_map.1 c;rfl
 .intro e c u d;obtain⟨x,_,rfl⟩:=mem_map.1 c;simp[DT]at d;rcases d with rfl|rfl<;>rfl
theorem Qu{n c α}{enc:α->cr}{l}(r:dD h ⟨none,n,c⟩ sz (l.map enc)):l=[]:=by
 rcases r.row with e|⟨b,o,e,_⟩
 .simpa using e
 .cases e
end Go.Ps
