/- Own work. -/
import Derived.Test.YtafjlhgalgfiaaaGreatDoorOb
set_option linter.unusedVariables false
set_option linter.unusedSimpArgs false
namespace Go.Ps
open Go Go.Vc Go.Proofs List Tryz
variable{K:cq}{m:MH}{h:PH}{s:jZ}{ps:cn}{cb:Nat}{sc:bT}{v:QV}{p:Pred}{l:cn}{i:Nat}{N:Nat}{m':MH}{h':PH}{co:cn}{gr:cn}{od:cv}{ta:Int}{li:Int}{xs:List cr}{sz:Nat}{ks:List cn}{rs:cn}{r:Sl}{a:cn}{b:Nat}
theorem U1:Tryz.prog.underlying 9=some .string:=ax
theorem C7:KeyLaw Tryz.prog 9 (λv=>∃s,v= .string s):=by
 refine⟨⟨_,U1⟩,?_,?_,?_⟩
 .rintro _ w b ⟨s,rfl⟩
  have e:∀n:Nat,(Instr.checkKey b (n+1) 9 (.string s)).run Tryz.prog w= .ok () w:=λn=>by
   unfold Instr.checkKey;simp only[Sem.run_bind,run_underlying U1,Result.andThen];simp
  exact e 9999
 .rintro _ _ w ⟨s,rfl⟩ ⟨t,rfl⟩;refine⟨_,run_equalIn_string w 9999 9 s t U1,?_⟩;rw[beq_iff_eq];exact⟨λe=>by rw[C3 e],λe=>bg⟩
 .rintro d _ _ r c ⟨s,rfl⟩ ⟨t,rfl⟩ h;rw[U1]at c;cases c;simp only[Instr.sameNow,bx]at h;subst h;rw[beq_toListBytes,beq_iff_eq];exact⟨λe=>by rw[C3 e],λe=>bg⟩
def gY{α}(T:List α->α->Prop)(l:List α)(i:Nat):=∀j x,j<i->l[j]? =some x->T (l.take j) x
def Good{α}(T:List α->α->Prop)(l:List α):=∀(j:Nat) x,l[j]? =some x->T (l.take j) x
theorem gY.zero{α}{T:List α->α->Prop}{l}:gY T l 0:=λ_ _ h=>by omega
theorem gY.succ{α}{T:List α->α->Prop}{l x}(h:gY T l i)(hx:l[i]? =some x)(t:T (l.take i) x):gY T l (i+1):=by
 intro j y d c;by_cases e:j=i
 .grind
 .exact h j y aC c
theorem gY.all{α}{T:List α->α->Prop}{l}(h:gY T l i)(d:l.length<=i):Good T l:=λj x c=>h j x bg c
theorem Good.not{α}{T:List α->α->Prop}{l x}(hx:l[i]? =some x)(t:¬T (l.take i) x):¬Good T l:=λh=>t (h i x hx)
def Y9(d:List qE)(c:qE):=qZ c.name=true/\iA c.kind=true/\c.name∉d.map qE.name
def Fe(c:List AE)(t:AE):=qZ t.name=true/\1<=t.key/\t.key<=t.columns.length/\t.name∉c.map AE.name/\Good Y9 t.columns
def kH(s:jZ)(t:Int):=if t<0 then[]else match s.tables[t.toNat]? with|none=>[]|some t=>t.columns.map qE.kind
def AQ(s:jZ)(t:Int):=decide (0<=t)&&decide (t<s.tables.length)
def aS(v:bT):CV:=.val (.agg ⟨v.enc⟩)
def oM(s:jZ):=∀t∈s.tables,t.columns.length<=8
def cSZ:Vc.Spec:=λc m h K=>∃v s t,c=[aS v,cI t]/\iU h s v/\K (cB (AQ s t)) m h
def xL:Vc.Spec:=λc m h K=>∃v s t,c=[aS v,cI t]/\iU h s v/\oM s/\∀d h',PH.le h h'->Ints h' d (kH s t)->K (cS d) m h'
noncomputable def VJ m h:=
 dK [] [(5,{A:=Nat×Sl×cn,st:=λx=>bY 35 37 [(5,.at (.lst 32)),(22,sv x.2.1),(23,iv x.2.1.len),(24,iv x.1)] [(32,.lst 3 1 (x.2.2.map eI))] m h})] [] [] false
noncomputable def clQ m h:=
 dK [(132,cSZ)] [(5,{A:=Nat×Sl×cn,st:=λx=>bY 38 40 [(5,.at (.lst 19)),(25,sv x.2.1),(26,iv x.2.1.len),(27,iv x.1)] [(19,.lst 3 1 (x.2.2.map eI))] m h})] [] [] false
abbrev kM(a:bT):=aG a.tables
attribute [push_cast] kM
def Ud(v:bT)(t:Int)(m:MH)(h:PH)(K:cq):=
  iO t 0 (K (Aw (decide (t<kM v))) m h) (K bD m h)
abbrev wY(a:bT):=a.tables.a
abbrev aL a:=pD (dW a)
abbrev Pj(a:bT)(b c:Int)(d:MH)(e:PH)(g i:Nat->Nat)(j:Nat)(k:Sl->Sl)(l:Sl->(Nat×Sl×cn->Prop)->(Nat×Sl×cn)->Prop)(n:(Nat×Sl×cn->Prop)->(Nat×Sl×cn->Nat)->(Nat×Sl×cn)->Prop):=bK (λx o=>aA (aR (wY a) x o) (b<=c) (c<aG a.tables/\∃(t:Sl),aK d e (g x) (gH (i o) c j+1) (aL (k t))/\∃(u:Nat×Sl×cn->Prop)(y:Nat×Sl×cn->Nat),(∃(f:Nat×Sl×cn),l t u f)/\∀(f:Nat×Sl×cn),n u y f))
abbrev aW a b:=sQs a=sQs b
abbrev qA(a:Nat×Sl×cn):=a.2.1
abbrev bN(a b:Sl):=bP a.len=bP b.len
abbrev bW a b c:=Option.some (Own.lst a b c)
abbrev sU a:=bW 3 1 []=bW 3 1 (List.map eI a)
abbrev oK a:=a<=140737488355328
abbrev jN a b:=oK (a*b)
abbrev kB(a:List cr)(b:Nat):=a.length+b
abbrev A5 a:=jN (kB a 1) 8
abbrev iL a:=List.map eI a
abbrev eA(a:List cr):=a.length<140737488355328
abbrev Pg(a:Prop)(b:Nat×Sl×cn)(c:Int)(d:Nat->Nat->qE->Prop)(e:qE->(Nat×Sl×cn)->Prop)(g:Prop):=a->aY (↑b.1:Int) (aG (qA b)) (bK (λx f=>aA (aR (qA b).a x f) (c<=(↑b.1:Int)) ((↑b.1:Int)<aG (qA b)/\∃(j:qE),aA (d x f j) (A5 (iL b.2.2)) (eA (iL b.2.2)/\∃(n:Nat×Sl×cn),e j n)))) g
abbrev rX a b:=kC (Value.string a) (gZ b)
abbrev lW a b:=bW 3 1 a=bW 3 1 (List.map eI b)
abbrev mC(a:cr):=[a]
abbrev dP a b:=a++mC b
abbrev Ph(a:Nat×Sl×cn)(b:qE)(c:Nat×Sl×cn):=lW (dP (iL a.2.2) (bC b.kind)) c.2.2
abbrev bS a b c d:=bH (PH.le a b) c d
abbrev cK(a:Nat->Nat->Option Value)(b:Nat)(c:List cr)(d:Sl->PH->Prop):=∀(x:Sl)(e:PH),bS a e (dH e x b c) (d x e)
abbrev vU(a:PH)(b:List cr)(c:cq)(d:MH):=cK a 1 b (λx e=>c (nW x) d e)
attribute [push_cast] wY aL Pj aW qA bN bW sU oK jN kB A5 iL eA Pg rX lW mC dP Ph bS cK vU
def XR v t m h K:=
  aY t 0 (K EH m h) (iO t (kM v) (K EH m h) (Pj v 0 t m h (λb=>b) (λo=>o) 5 (λy=>y) (λy I x=>aA (I x) (eL 32) (aA (aW y (qA x)) (bN y (qA x)) (aA (bA x.1) (sU x.2.2) (aA (m=m) (h=h) True)))) (λI d x=>Pg (I x) x 0 (λb o y=>aK m h b (bL o x.1 2) (rX y.name y.kind)) (λy c=>aA (I c) (d c<d x) (aA (eL 32) (aW (qA x) (qA c)) (aA (bN (qA x) (qA c)) (iH (bE x.1 1)=bP c.1) (aA (Ph x y c) (m=m) (bU h h))))) (vU h (iL x.2.2) K m))))
abbrev rD(a:bT->jZ->Prop):=∃(x:bT)(c:jZ),a x c
abbrev cC(a:bT):=kC (gZ a.version) (dW a.tables)
abbrev Ae(a:Int):=a<=281474976710656
abbrev Ah a b:=Ae (aG a*b)
attribute [push_cast] rD cC Ae Ah
def XG v t m h K:=
  rD (λg s=>∃(j:Int),aA (cT (jO (cC v)) t=cT (jO (cC g)) j) (iU h s g) (pI (AQ s j) (K EH m h) (bK (λb o=>aA (aR (wY v) b o) (0<=t) (t<aG v.tables/\∃(y:Sl),aA (aK m h b (gH o t 5+1) (aL y)) (cN 0) (aA (cN (aG y)) (Ah y 8) (Ae (aG y)/\Pj v 0 t m h (λe=>e) (λf=>f) 5 (λc=>c) (λc I x=>aA (I x) (eL 19) (aA (aW c (qA x)) (bN c (qA x)) (aA (bA x.1) (sU x.2.2) (aA (m=m) (h=h) True)))) (λI n x=>Pg (I x) x 0 (λe f c=>aK m h e (bL f x.1 2) (rX c.name c.kind)) (λc d=>aA (I d) (n d<n x) (aA (eL 19) (aW (qA x) (qA d)) (aA (bN (qA x) (qA d)) (iH (bE x.1 1)=bP d.1) (aA (Ph x c d) (m=m) (bU h h))))) (vU h (iL x.2.2)
 K m)))))))))
theorem cO.part{o l}(r:cO h b o l) k n:cO h b (o+k) ((l.drop k).take n):=
 ⟨λi v e=>by
  have:l[k+i]? =some v:=by
   grind
  have:=r.rd (k+i) v this
  grind⟩
theorem G6.at{s l}(r:G6 h s l){x}(c:l[i]? =some x):∃b o,s.a=some ⟨b,o,none⟩/\cO h b (o+i*2) (qE.enc x):=by
 obtain⟨b,o,v,e,k,rfl⟩:=bM.at r c
 grind
theorem Hr{t:Int}(h:¬(0<=t/\t<s.tables.length)):kH s t=[]:=by
 unfold kH
 grind
theorem Oh{t x}(h:0<=t)(hx:s.tables[t.toNat]? =some x):kH s t=x.columns.map qE.kind:=by
 unfold kH
 grind
theorem iU.table{v}(c:iU h s v){t}(f:0<=t)(g:t<(v.tables.len:Int)):∃x b o w,s.tables[t.toNat]? =some x/\v.tables.a=some ⟨b,o,none⟩/\cO h b (o+t.toNat*5) (cZ.enc w)/\RW h x w:=by
 have j:=c.tables.slen;have d:s.tables[t.toNat]? =some (s.tables[t.toNat]'(by omega)):=bn _;obtain⟨b,o,w,e,r,k⟩:=c.tables.at d
 grind
theorem kA{α β}{f:α->β}{l:List α}{x}(hx:l[i]? =some x):(l.take (i+1)).map f=(l.take i).map f++[f x]:=by
 rw[cd,hx];simp
theorem RC:cm 132 cSZ:=by
 refine jC func132 ?_;rintro e m h K ⟨v,s,t,rfl,f,d⟩;refine⟨dK [] [] [] [] false,rfl,aH,Ud v t m h K,ax,?_⟩;dsimp only[Ud,push_cast];have g:=f.tables.slen;refine aF (λc=>kR d ?_) (λc=>kR d ?_)
 .have c:0<=t:=c;simp only[AQ,g,decide_eq_true c,Bool.true_and]
 .have c:¬0<=t:=by omega
  simp only[AQ,decide_eq_false c,Bool.false_and]
theorem IN:cm 45 xL:=by
 refine jC func45 ?_;rintro D m h K ⟨v,s,t,rfl,A,E,n⟩;refine⟨VJ m h,rfl,aH,XR v t m h K,ax,?_⟩;dsimp only[XR,push_cast];have M:=A.tables.slen;have d:kH s t=[]->K (.val (.slice none 0 0)) m h:=λe=>n ⟨none,0,0⟩ h (.refl _) (by rw[e];exact⟨.nil _ _,ay⟩);refine aF (λF=>d (Hr aC)) (λF=>aF (λG=>d (Hr aC)) (λG=>?_));obtain⟨x,b,o,w,B,H,I,f⟩:=A.table (t:=t) aC aC;have J:=E x (bo B);have u:=bM.slen f.columns;rw[Oh aC B]at n;refine⟨b,o,H,aC,aC,w.columns,.imm (cO.part I 1 1),λ⟨i,y,l⟩=>y=w.columns/\i<=x.columns.length/\l=(x.columns.take i).map qE.kind,λ⟨i,_,_⟩=>x.columns.length-i,⟨(0,w.columns,[]),⟨rfl,ay,ay⟩,MT⟩,?_⟩;rintro⟨i,_,_⟩ ⟨rfl,O,rfl⟩;dsimp only;refine aF (λj=>?_) (λL y h' z g=>?_)
 .obtain⟨c,C⟩:=fK u j;obtain⟨b,o,e,r⟩:=G6.at f.columns C;refine⟨b,o,e,aC,j,c,.imm r,?_,?_,(i+1,w.columns,(x.columns.take (i+1)).map qE.kind),⟨rfl,aC,rfl⟩,aC,?_⟩
  .simp;omega
  .simp;omega
  .rw[kA C,bu];exact MT
 .rw[bt aC]at g;exact n y h' z ⟨g,bf⟩
theorem IM:cm 69 xL:=by
 refine jC func69 ?_;rintro G m h K ⟨v,s,t,rfl,n,H,u⟩;refine⟨clQ m h,rfl,aE RC aH,XG v t m h K,ax,?_⟩;dsimp only[XG,push_cast];have L:=n.tables.slen;have g:kH s t=[]->K (.val (.slice none 0 0)) m h:=λe=>u ⟨none,0,0⟩ h (.refl _) (by rw[e];exact⟨.nil _ _,ay⟩);refine⟨v,s,t,rfl,n,aD (λy=>g (Hr ?_)) (λy=>?_)⟩
 .simp only[AQ,Bool.not_eq_true',Bool.and_eq_false_iff,decide_eq_false_iff_not]at y;omega
 simp only[AQ,Bool.not_eq_false',bz,ce]at y;obtain⟨x,b,o,w,C,D,E,d⟩:=n.table (t:=t) aC aC;have I:=H x (bo C);have z:=bM.slen d.columns;rw[Oh aC C]at u;refine⟨b,o,D,aC,aC,w.columns,.imm (cO.part E 1 1),aC,aC,aC,aC,b,o,D,aC,aC,w.columns,.imm (cO.part E 1 1),λ⟨i,A,l⟩=>A=w.columns/\i<=x.columns.length/\l=(x.columns.take i).map qE.kind,λ⟨i,_,_⟩=>x.columns.length-i,⟨(0,w.columns,[]),⟨rfl,ay,ay⟩,MT⟩,?_⟩;rintro⟨i,_,_⟩ ⟨rfl,M,rfl⟩;dsimp only;refine aF (λj=>?_) (λJ A h' B f=>?_)
 .obtain⟨c,F⟩:=fK z j;obtain⟨b,o,e,r⟩:=G6.at d.columns F;refine⟨b,o,e,aC,j,c,.imm r,?_,?_,(i+1,w.columns,(x.columns.take (i+1)).map qE.kind),⟨rfl,aC,rfl⟩,aC,?_⟩
  .simp;omega
  .simp;omega
  .rw[kA F,bu];exact MT
 .rw[bt aC]at f;exact u A h' B ⟨f,bf⟩
def Sub(m m':MH):=∀b o,m b=some o->m' b=some o
theorem Sub.refl m:Sub m m:=λ_ _ e=>e
theorem Sub.free(h:Sub m m')(c:m' b=none):m b=none:=by
 cases e:m b with
 |none=>rfl
 |some o=>rw[h b o e]at c;cases c
theorem Sub.upd{f}(h:Sub m f)(j:m b=none)(g:∀c,c≠b->m' c=f c):Sub m m':=λc o e=>by
 have d:c≠b:=λn=>bg
 rw[g c d,h c o e]
def NL(m:MH)(b:Nat)(c:List ByteArray):=uX m b (c.map λn=>(.string n,.bool true))
theorem NL.other{d e}(h:NL m b e)(f:b≠d)(o:∀c,c≠d->m' c=m c):NL m' b e:=by
 obtain⟨g,j,t,n⟩:=h.ex;exact⟨g,j,bg,n⟩
def b2J:Vc.Spec:=λc m h K=>∃v s,c=[aS v]/\iU h s v/\∀r:Bool,(r=true↔Good Fe s.tables)->K (cB r) m h
def bWJ:Vc.Spec:=λc m h K=>∃v s t,∃i:Nat,c=[aS v,cI i]/\iU h s v/\s.tables[i]? =some t/\∀r:Bool,(r=true↔Fe (s.tables.take i) t)->K (cB r) m h
noncomputable def bNQ(v:bT)(h:PH):=
 dK [(183,aQJ)] [(3,{A:=Nat×Nat×MH,st:=λ⟨i,c,d⟩=>bY 79 80 [(3,vv (.map (some c))),(11,sv v.tables),(12,iv v.tables.len),(13,iv i)] [] d h}),
  (10,{A:=Nat×Nat×Nat×Nat×Sl×MH,st:=λ⟨i,k,c,f,e,d⟩=>bY 79 80 [(3,vv (.map (some c))),(6,vv (.map (some f))),(11,sv v.tables),(12,iv v.tables.len),(13,iv i),(45,sv e),(46,iv e.len),(47,iv k)] [] d h})] [] [] false
noncomputable def bPJ(v:bT)(i:Nat)(m:MH)(h:PH):=
 dK [(173,aQJ),(123,b3Z)] [(5,{A:=Nat×cZ,st:=λ⟨k,w⟩=>bY 94 96 [(1,iv i),(2,.at (.ptr 2 0)),(5,.at (.ptr 5 0)),(6,iv k)] [(2,.cells 27 (v.enc.map .val)),(5,.cells 73 (w.enc.map .val))] m h}),
  (10,{A:=Nat×cZ,st:=λ⟨k,w⟩=>bY 94 96 [(5,.at (.ptr 5 0)),(53,iv w.columns.len),(54,iv k)] [(5,.cells 73 (w.enc.map .val))] m h}),
  (15,{A:=Nat×Nat×cZ,st:=λ⟨k,j,w⟩=>bY 94 96 [(5,.at (.ptr 5 0)),(7,iv k),(8,iv j),(53,iv w.columns.len),(54,iv k)] [(5,.cells 73 (w.enc.map .val))] m h})] [] [] false
abbrev xN(a:MH)(b:PH)(c:Nat->MH->Prop):=∀(x:Nat)(d:MH),bH (cW a b x) (lI a d x (Obj.map (Array.mk []) 0)) (c x d)
abbrev Dj a:=Value.map (Option.some a)
abbrev kZ a b:=SV.at (At.val (Dj a))=SV.at (At.val (Dj b))
abbrev uA(a:bT):=aI a.tables
abbrev kO(a:bT):=bI a.tables
abbrev H3(a:Prop)(b:Nat)(c:bT)(d:Nat->Nat->cZ->Prop)(e:Prop):=a->aY (↑b:Int) (aG c.tables) (bK (λx f=>aA (aR (wY c) x f) (0<=(↑b:Int)) ((↑b:Int)<aG c.tables/\∃(g:cZ),d x f g))) e
abbrev Bo(a:cZ):=bG (Value.string a.name) (dW a.columns) (bG (gZ a.key) (dW a.references) (aL a.checks))
abbrev rZ a:=CV.val (Value.string a)
abbrev nD(a:cq)(b:Nat×Nat×MH)(c:PH):=a bD (jE b) c
abbrev Di a:=KeyLaw Proofs.Tryz.prog 9 a
abbrev Bv(a:cZ):=Value.string a.name
abbrev Gh(a:Value×Bool)(b:dw)(c:Value):=bH (List.Mem a b) (a.1=c) False
abbrev BA(a:cZ):=aG a.columns
abbrev Zw(a:da->(Value->Prop)->Prop):=∃(x:da)(c:Value->Prop),a x c
abbrev Lj(a:Nat->Option Obj)(b:Nat)(c:(Value->Prop)->Prop)(d:da->da)(e:(Value×Value)->Value×Value)(g:Value)(i:da->Prop):=Zw (λx j=>aA (uX a b x) (Di j) (aA (c j) (∀(f:Value×Value),List.Mem f x->j f.1) ((∀(f:Value×Value),bH (List.Mem f (d x)) ((e f).1=g) False)/\i x)))
abbrev iK(a:da)(b c:Value)(d:da):=a++(b,c)::d
abbrev Dk:=Value.bool true
abbrev Gt a b:=iK a b Dk []
abbrev Ew(a:Nat×Nat×Nat×Nat×Sl×MH):=a.2.2.2.1
abbrev cJ a b:=bP a=bP b
abbrev yN(a:Nat×Nat×Nat×Nat×Sl×MH):=a.2.2.2.2.1
abbrev wX(a:Nat×Nat×Nat×Nat×Sl×MH):=a.2.2.2.2.2
abbrev Ep(a:qE):=Value.string a.name
abbrev KC(a:Nat×Nat×Nat×Nat×Sl×MH)(b:qE)(c:MH->Prop):=Lj (wX a) (Ew a) (λx=>x (Ep b)) (λx=>x) (λx=>x) (Ep b) (λx=>∀(d:MH),bH (kD (wX a) d (Ew a)) (uX d (Ew a) (Gt x (Ep b))) (c d))
abbrev vS(a:qE)(b:Int)(c:Prop)(d:Nat×Nat×Nat×Nat×Sl×MH->Prop)(e:Nat×Nat×Nat×Nat×Sl×MH->Nat)(g:Nat×Nat×Nat×Nat×Sl×MH)(i:bT)(j:(Nat×Nat×Nat×Nat×Sl×MH)->Prop):=branch (a.kind !=b) c (∃(x:Nat×Nat×Nat×Nat×Sl×MH),aA (d x) (e x<e g) (aA (kZ g.2.2.1 x.2.2.1) (kZ (Ew g) (Ew x)) (aA (aI i.tables) (kO i) (aA (cJ g.1 x.1) (aW (yN g) (yN x)) (j x)))))
abbrev vW(a b:Nat×Nat×Nat×Nat×Sl×MH)(c:MH)(d:PH):=aA (bN (yN a) (yN b)) (iH (bE a.2.1 1)=bP b.2.1) (aA (c=wX b) (d=d) True)
attribute [push_cast] xN Dj kZ uA kO H3 Bo rZ nD Di Bv Gh BA Zw Lj iK Dk Gt Ew cJ yN wX Ep KC vS vW
def Nr v m h K:=
  xN m h (λb H=>∃(I:Nat×Nat×MH->Prop)(D:Nat×Nat×MH->Nat),PC (λx=>aA (I x) (kZ b (j4 x)) (aA (uA v) (kO v) (dJ (bA x.1) H (jE x) h h))) (λx=>H3 (I x) x.1 v (λJ o y=>aK (jE x) h J (bL o x.1 5) (Bo y)/\∃(s:ByteArray),gX (eY (rZ y.name) (rZ s)) (!(qZ s)) (nD K x h) (∃(k:dw)(O:Value->Prop),aA (uX (jE x) (j4 x) (List.map (fun(p:Value×Bool)=>(p.1,Value.bool p.2)) k)) (Di O) (aA (O (Bv y)) (∀(e:Value×Bool),List.Mem e k->O e.1) (((∀(e:Value×Bool),Gh e k (Bv y))->aY y.key 1 (nD K x h) (gA y.key (BA y) (nD K x h) (Lj (jE x) (j4 x) (λO1=>O1 (Bv y)) (λu=>u) (λe=>e) (Bv y) (λu=>∀(z:MH),bH (kD (jE x) z
 (j4 x)) (uX z (j4 x) (Gt u (Bv y))) (xN z h (λE F=>∃(I1:Nat×Nat×Nat×Nat×Sl×MH->Prop)(n:Nat×Nat×Nat×Nat×Sl×MH->Nat),(∃(c:Nat×Nat×Nat×Nat×Sl×MH),aA (I1 c) (kZ (j4 x) c.2.2.1) (aA (kZ E (Ew c)) (uA v) (aA (kO v) (cJ x.1 c.1) (aA (aW y.columns (yN c)) (bN y.columns (yN c)) (dJ (bA c.2.1) F (wX c) h h)))))/\∀(c:Nat×Nat×Nat×Nat×Sl×MH),I1 c->aY (↑c.2.1:Int) (aG (yN c)) (bK (λA B=>aA (aR (yN c).a A B) (0<=(↑c.2.1:Int)) ((↑c.2.1:Int)<aG (yN c)/\∃(g:qE),aK (wX c) h A (bL B c.2.1 2) (rX g.name g.kind)/\∃(C:ByteArray),gX (eY (rZ g.name) (rZ C)) (!(qZ C)) (K bD (wX c) h) (∃(t:dw)(O1:Value
 ->Prop),aA (uX (wX c) (Ew c) (List.map (fun(p:Value×Bool)=>(p.1,Value.bool p.2)) t)) (Di O1) (aA (O1 (Ep g)) (∀(e:Value×Bool),List.Mem e t->O1 e.1) (((∀(e:Value×Bool),Gh e t (Ep g))->KC c g (λf=>vS g 3 (vS g 4 (vS g 5 (K bD f h) I1 n c v (λd=>vW c d f h)) I1 n c v (λd=>vW c d f h)) I1 n c v (λd=>vW c d f h)))/\∀(j:Bool),gS (List.Mem (Ep g,j) t) j (K bD (wX c) h) (KC c g (λf=>vS g 3 (vS g 4 (vS g 5 (K bD f h) I1 n c v (λd=>vW c d f h)) I1 n c v (λd=>vW c d f h)) I1 n c v (λd=>vW c d f h))))))))) (∃(d:Nat×Nat×MH),aA (I d) (D d<D x) (aA (kZ c.2.2.1 (j4 d)) (uA v) (aA (kO v) (iH (bE c.1 1)=
 bP d.1) (aA (wX c=jE d) (h=h) True))))))))))/\∀(g:Bool),gS (List.Mem (Bv y,g) k) g (nD K x h) (aY y.key 1 (nD K x h) (gA y.key (BA y) (nD K x h) (Lj (jE x) (j4 x) (λO1=>O1 (Bv y)) (λu=>u) (λe=>e) (Bv y) (λu=>∀(z:MH),bH (kD (jE x) z (j4 x)) (uX z (j4 x) (Gt u (Bv y))) (xN z h (λE F=>∃(I1:Nat×Nat×Nat×Nat×Sl×MH->Prop)(n:Nat×Nat×Nat×Nat×Sl×MH->Nat),(∃(c:Nat×Nat×Nat×Nat×Sl×MH),aA (I1 c) (kZ (j4 x) c.2.2.1) (aA (kZ E (Ew c)) (uA v) (aA (kO v) (cJ x.1 c.1) (aA (aW y.columns (yN c)) (bN y.columns (yN c)) (dJ (bA c.2.1) F (wX c) h h)))))/\∀(c:Nat×Nat×Nat×Nat×Sl×MH),I1 c->aY (↑c.2.1:Int) (aG
 (yN c)) (bK (λA B=>aA (aR (yN c).a A B) (0<=(↑c.2.1:Int)) ((↑c.2.1:Int)<aG (yN c)/\∃(j:qE),aK (wX c) h A (bL B c.2.1 2) (rX j.name j.kind)/\∃(C:ByteArray),gX (eY (rZ j.name) (rZ C)) (!(qZ C)) (K bD (wX c) h) (∃(t:dw)(O1:Value->Prop),aA (uX (wX c) (Ew c) (List.map (fun(p:Value×Bool)=>(p.1,Value.bool p.2)) t)) (Di O1) (aA (O1 (Ep j)) (∀(e:Value×Bool),List.Mem e t->O1 e.1) (((∀(e:Value×Bool),Gh e t (Ep j))->KC c j (λf=>vS j 3 (vS j 4 (vS j 5 (K bD f h) I1 n c v (λd=>vW c d f h)) I1 n c v (λd=>vW c d f h)) I1 n c v (λd=>vW c d f h)))/\∀(G:Bool),gS (List.Mem (Ep j,G) t) G (K bD (wX c) h)
 (KC c j (λf=>vS j 3 (vS j 4 (vS j 5 (K bD f h) I1 n c v (λd=>vW c d f h)) I1 n c v (λd=>vW c d f h)) I1 n c v (λd=>vW c d f h))))))))) (∃(d:Nat×Nat×MH),aA (I d) (D d<D x) (aA (kZ c.2.2.1 (j4 d)) (uA v) (aA (kO v) (iH (bE c.1 1)=bP d.1) (aA (wX c=jE d) (h=h) True)))))))))))))) (K jF (jE x) h)))
abbrev Pb(a:(Nat×cZ->Prop)->(Nat×cZ)->Prop)(b:(Nat×cZ->Prop)->(Nat×cZ->Nat)->(Nat×cZ)->Prop):=∃(x:Nat×cZ->Prop)(d:Nat×cZ->Nat),(∃(c:Nat×cZ),a x c)/\∀(c:Nat×cZ),b x d c
abbrev KA(a:bT):=kL a.version
abbrev Kz(a:bT):=yY a.tables
abbrev cV a:=eQ (oQ 27 (pA (KA a) (Kz a)))
abbrev uH(a:At):=[a]
abbrev jJ(a:cZ):=gU (NG a.name) (yY a.columns) (gU (kL a.key) (yY a.references) (uH (yY a.checks)))
abbrev F3(a:cZ)(b:Nat×cZ):=oQ 73 (jJ a)=oQ 73 (jJ b.2)
abbrev PB(a:Option Addr)(b:Int)(c:Nat)(d:Sl)(e:Nat->Nat->ByteArray->Prop):=bK (λx f=>aA (aR a x f) (b<=(↑c:Int)) ((↑c:Int)<aG d/\∃(g:ByteArray),e x f g))
abbrev DX(a:Nat×cZ):=a.2.columns
abbrev uP(a:Nat×Nat×cZ):=a.2.1
abbrev oH(a:Nat×Nat×cZ):=a.2.2
attribute [push_cast] Pb KA Kz cV uH jJ F3 PB DX uP oH
def Um(v:bT)(i:Nat)(m:MH)(h:PH)(K:cq):=
  bK (λb o=>aA (aR (wY v) b o) (0<=(↑i:Int)) ((↑i:Int)<aG v.tables/\∃(y:cZ),aK m h b (bL o i 5) (Bo y)/\∃(s:ByteArray),eY (rZ y.name) (rZ s)/\dQ (!(qZ s)) (K bD m h) (BA y==0) (K bD m h) (aY y.key 1 (K bD m h) (gA y.key (BA y) (K bD m h) (Pb (λI x=>aA (I x) (eQ (bP i)) (aA (eP 2) fT (aA (bA x.1) (cV v) (aA (F3 y x) (m=m) (bU h h))))) (λI n x=>I x->aY (↑x.1:Int) (↑i:Int) (PB (wY v) 0 x.1 v.tables (λg j f=>aK m h g (bL j x.1 5+0) (pD (Value.string f))/\branch (f.toList==x.2.name.toList) (K bD m h) (∃(c:Nat×cZ),aA (I c) (n c<n x) (aA (eQ (bP i)) iS (aA fT (iH (bE x.1 1)=bP c.1) (aA (cV v) (F3 x.2 c) (eM m m h h))))))) (Pb (λI1 c=>
 aA (I1 c) fT (aA (bN (DX x) (DX c)) (bA c.1) (dJ (F3 x.2 c) m m h h))) (λI1 t c=>I1 c->aY (↑c.1:Int) (aG (DX c)) (bK (λg j=>aA (aR c.2.columns.a g j) (0<=(↑c.1:Int)) ((↑c.1:Int)<aG (DX c)/\∃(f:ByteArray),aK m h g (bL j c.1 2+0) (pD (Value.string f))/\∃(u:ByteArray),gX (eY (rZ f) (rZ u)) (!(qZ u)) (K bD m h) (bK (λz A=>aA (aR c.2.columns.a z A) (0<=(↑c.1:Int)) ((↑c.1:Int)<aG (DX c)/\∃(B:Int),aK m h z (bL A c.1 2+1) (bC B)/\∃(k:Int),gX (mG B k) (!(iA k)) (K bD m h) (∃(I2:Nat×Nat×cZ->Prop)(C:Nat×Nat×cZ->Nat),(∃(d:Nat×Nat×cZ),aA (I2 d) fT (aA (cJ c.1 d.1) (bA (uP d)) (aA (bN (DX c) (oH
 d).columns) (cJ c.1 d.1) (aA (oQ 73 (jJ c.2)=oQ 73 (jJ (oH d))) (m=m) (bU h h)))))/\∀(d:Nat×Nat×cZ),I2 d->aY (↑(uP d):Int) (↑d.1:Int) (PB (oH d).columns.a 0 (uP d) (oH d).columns (λF G D=>aK m h F (bL G (uP d) 2+0) (pD (Value.string D))/\PB (oH d).columns.a 0 d.1 (oH d).columns (λH J E=>aK m h H (bL J d.1 2+0) (pD (Value.string E))/\branch (D.toList==E.toList) (K bD m h) (∃(e:Nat×Nat×cZ),aA (I2 e) (C e<C d) (aA fT (cJ d.1 e.1) (aA (iH (bE (uP d) 1)=bP (uP e)) (bN (oH d).columns (oH e).columns) (aA (cJ d.1 e.1) (oQ 73 (jJ (oH d))=oQ 73 (jJ (oH e))) (eM m m h h)))))))) (∃(e:Nat×cZ),aA (I1 e) (t e<t c) (aA fT
 (bN (oH d).columns (DX e)) (aA (iH (bE d.1 1)=bP e.1) (F3 (oH d) e) (aA (m=m) (h=h) True))))))))))) (K jF m h)))))))))
theorem NL.snoc{c n}(h:uX m b ((c.map λn=>(Value.string n,Value.bool true))++[(.string n,.bool true)])):NL m b (c++[n]):=by
 unfold NL;grind
theorem NL.look{c}(h:NL m b c):uX m b (List.map (λp:Value×Bool=>(p.fst,Value.bool p.snd)) (c.map λn=>(Value.string n,true))):=by
 rw[map_map];exact h
theorem Ky{β}{c:List ByteArray}{x}:∀e:Value×β,e∈(c.map λn=>(Value.string n,x))->∃s,e.fst= .string s:=λe d=>by
 grind
theorem W7{β}{c:List ByteArray}{x n}(h:n∉c):∀e:Value×β,e∈(c.map λn=>(Value.string n,x))->e.fst= .string n->False:=λe d h'=>by
 grind
theorem H2{β}{c:List ByteArray}{x n}(h:∀e:Value×β,e∈(c.map λn=>(Value.string n,x))->e.fst= .string n->False):n∉c:=λd=>h (.string n,x) (mem_map.2 ⟨n,d,rfl⟩) rfl
theorem W8{β}{c:List ByteArray}{x:β}{y n}(h:(Value.string n,y)∈(c.map λn=>(Value.string n,x))):n∈c/\y=x:=by
 grind
theorem aoX:cm 136 b2J:=by
 refine EY func136 ?_;rintro b' m h K ⟨v,s,rfl,hs,hK⟩;refine⟨bNQ v h,rfl,aE afJ aH,Nr v m h (lZ h K),ax,?_⟩;show Nr v m h (lZ h K);dsimp only[Nr,push_cast];have hl:=hs.tables.slen;have a8:=hs.tables.len;have hf:¬Good Fe s.tables->K (cB false) m h:=λh=>hK false ⟨λe=>(by cases e),λe=>(h e).elim⟩;intro b m1 hb S;refine⟨λ⟨i,C,mx⟩=>i<=s.tables.length/\Sub m mx/\m C=none/\NL mx C ((s.tables.take i).map AE.name)/\gY Fe s.tables i,λ⟨i,_,_⟩=>s.tables.length-i,⟨(0,b,m1),⟨aC,(Sub.refl m).upd hb.m_ S.other,hb.m_,⟨_,_,S.at_,rfl⟩,.zero⟩,MT⟩,?_⟩;rintro⟨i,C,mx⟩ ⟨hi,n,T,E,u⟩;dsimp only;refine aF (λU=>?_) (λb0=>.sub n (hK true ⟨λ_=>u.all aC,λ_=>rfl⟩));obtain⟨t,V⟩:=fK hl U;obtain⟨bb,o,w,ea,hr,f⟩:=hs.tables.at V;have a3:=bM.slen f.columns;have b3:=bM.len f.columns;have W:=f.name;have b4:=f.key;have bad:¬Fe (s.tables.take i) t->lZ h K (.val (.bool false)) mx h:=λhn=>.sub n (hf (Good.not V hn));have X:t.name∉(s.tables.take i).map AE.name->qZ w.name=true->1<=w.key->w.key<=w.columns.len->Good Y9 t.columns->Fe (s.tables.take i) t:=λh1 h2 h3 h4 h5=>⟨bg,aC,aC,h1,h5⟩
 refine⟨bb,o,ea,aC,U,w,.imm hr,w.name,rfl,aD (λh1=>bad λg=>?_) (λh1=>⟨_,_,E.look,C7,⟨_,rfl⟩,Ky,λY=>aF (λh2=>bad λg=>?_) (λh2=>aF (λh3=>bad λg=>?_) (λh3=>⟨_,_,E,C7,⟨_,rfl⟩,Ky,W7 (H2 Y),λm2 a4 z R m3 J L=>?_⟩)),λy hy=>?_⟩)⟩
 .have:=g.1;grind
 .have:=g.2.1;omega
 .have:=g.2.2.1;omega
 .have z:=NL.snoc z;have j:Sub m m2:=n.upd T a4.other;have M:Sub m m3:=j.upd (j.free J.m_) L.other
  have Z:C≠R:=λe=>by
   obtain⟨es,cl,e1,_⟩:=z.ex;rw[e,J.m_]at e1;cases e1
  have a':t.name∉(s.tables.take i).map AE.name:=by rw[<-W];exact H2 Y
  rw[W, <-kA V]at z
  refine⟨λ⟨i',k,a5,a6,sl,O⟩=>i'=i/\a5=C/\a6=R/\sl=w.columns/\k<=t.columns.length/\Sub m O/\NL O C ((s.tables.take (i+1)).map AE.name)/\NL O R ((t.columns.take k).map qE.name)/\gY Y9 t.columns k,λ⟨_,k,_,_,_,_⟩=>t.columns.length-k,
   ⟨(i,0,C,R,w.columns,m3),⟨rfl,rfl,rfl,rfl,aC,M,z.other Z L.other,⟨_,_,L.at_,rfl⟩,.zero⟩,MT⟩,?_⟩
  rintro⟨i,k,C,R,_,O⟩ ⟨rfl,rfl,rfl,rfl,hk,d,F,G,a0⟩;dsimp only;refine aF (λH=>?_) (λa9=>?_)
  .obtain⟨c,hc⟩:=fK a3 H;obtain⟨bc,oc,ec,rc⟩:=G6.at f.columns hc;have A:∀mz,Sub m mz->¬Y9 (t.columns.take k) c->lZ h K (.val (.bool false)) mz h:=λmz hz hn=>.sub hz (hf (Good.not V (λg=>Good.not hc hn g.2.2.2.2)));refine⟨bc,oc,ec,aC,H,c,.imm rc,c.name,rfl,aD (λh4=>A O d λg=>?_) (λh4=>⟨_,_,G.look,C7,⟨_,rfl⟩,Ky,λI=>⟨_,_,G,C7,⟨_,rfl⟩,Ky,W7 (H2 I),λm4 a1 D=>?_⟩,λy hy=>?_⟩)⟩
   .rw[g.1]at h4;cases h4
   .have D:=NL.snoc D;rw[<-kA hc]at D;have B:Sub m m4:=d.upd (j.free J.m_) a1.other;have P:iA c.kind=true->Y9 (t.columns.take k) c:=λe=>⟨bg,e,H2 I⟩
    have Q:iA c.kind=false->¬Y9 (t.columns.take k) c:=λe g=>by rw[g.2.1]at e;cases e
    have a7:=F.other Z a1.other
    repeat' (first|(refine aD (λ_=>?_) (λ_=>?_))|(refine A m4 B (Q ?_);simp_all [iA];done)|exact⟨(i,k+1,C,R,w.columns,m4),⟨rfl,rfl,rfl,rfl,bj,B,a7,D,a0.succ hc (P (by simp_all [iA]))⟩,bi,MT⟩)
   .obtain⟨a2,rfl⟩:=W8 hy;exact aD (λ_=>A O d λg=>g.2.2 a2) (λe=>by cases e)
  .refine⟨(i+1,C,O),⟨aC,d,T,F,u.succ V (X a' bg aC aC (a0.all aC))⟩,?_,MT⟩;omega
 .obtain⟨a2,rfl⟩:=W8 hy;exact aD (λ_=>bad λg=>g.2.2.2.1 bg) (λe=>by cases e)
theorem Qs{α}{f:α->ByteArray}{l:List α}{x n}(hx:l[i]? =some x)(h:n∉(l.take i).map f)(c:f x≠n):n∉(l.take (i+1)).map f:=by
 rw[kA hx,mem_append]
 grind
theorem cBJ{α}{f:α->ByteArray}{l:List α}{k x n}(hx:l[i]? =some x)(d:i<k)(c:f x=n):n∈(l.take k).map f:=
 mem_map.2 ⟨x,mem_of_getElem? (i:=i) bg,c⟩
theorem apZ:cm 121 bWJ:=by
 refine jC func121 ?_;rintro a2 m h K ⟨v,s,t,i,rfl,F,U,V⟩;refine⟨bPJ v i m h,rfl,aE ahZ (aE RE aH),Um v i m h K,ax,?_⟩;dsimp only[Um,push_cast];have hl:=F.tables.slen;have W:=F.tables.len;have a3:i<s.tables.length:=(bm U);have bad:¬Fe (s.tables.take i) t->K (.val (.bool false)) m h:=λh=>V false ⟨λe=>(by cases e),λe=>(h e).elim⟩;obtain⟨bb,o,w,ea,hr,d⟩:=F.tables.at U;have G:=bM.slen d.columns;have a4:=bM.len d.columns;have D:=d.name;have a5:=d.key;refine⟨bb,o,ea,aC,aC,w,.imm hr,w.name,rfl,aD (λh1=>bad λf=>?_) (λh1=>aD (λh2=>bad λf=>?_) (λh2=>aF (λh3=>bad λf=>?_) (λh3=>aF (λh4=>bad λf=>?_) (λh4=>?_))))⟩
 .have:=f.1;grind
 .have:=f.2.1;have:=f.2.2.1;grind
 .have:=f.2.1;omega
 .have:=f.2.2.1;omega
 refine⟨λ⟨k,A⟩=>A=w/\k<=i/\t.name∉(s.tables.take k).map AE.name,λ⟨k,_⟩=>i-k,⟨(0,w),⟨rfl,aC,ay⟩,MT⟩,?_⟩;rintro⟨k,w⟩ ⟨rfl,hk,E⟩;dsimp only;refine aF (λg=>?_) (λa6=>?_)
 .obtain⟨X,B⟩:∃X,s.tables[k]? =some X:=⟨s.tables[k]'(by omega),bn _⟩
  obtain⟨b',o',A,H,I,n⟩:=F.tables.at B;refine⟨b',o',H,aC,aC,A.name,.imm (cO.part I 0 1),aD (λe=>bad λf=>?_) (λe=>?_)⟩
  .refine f.2.2.2.1 (cBJ B aC ?_);rw[<-n.name, <-D];exact C3 (bk e)
  .refine⟨(k+1,w),⟨rfl,aC,Qs B E λY=>?_⟩,aC,MT⟩;rw[<-n.name, <-D]at Y
   grind
 .have J:k=i:=by omega
  subst J;refine⟨λ⟨k,A⟩=>A=w/\k<=t.columns.length/\gY Y9 t.columns k,λ⟨k,_⟩=>t.columns.length-k,⟨(0,w),⟨rfl,aC,.zero⟩,MT⟩,?_⟩;rintro⟨c,w⟩ ⟨rfl,hc,Z⟩;dsimp only;refine aF (λg=>?_) (λa'=>V true ⟨λ_=>⟨bg,aC,aC,E,Z.all aC⟩,λ_=>rfl⟩);obtain⟨x,C⟩:=fK G g;obtain⟨L,M,O,P⟩:=G6.at d.columns C;have u:¬Y9 (t.columns.take c) x->K (.val (.bool false)) m h:=λhn=>bad λf=>Good.not C hn f.2.2.2.2;refine⟨L,M,O,aC,g,x.name,.imm (cO.part P 0 1),x.name,rfl,aD (λQ=>u λf=>?_) (λQ=>⟨L,M,O,aC,g,x.kind,.imm (cO.part P 1 1),x.kind,rfl,aD (λR=>u λf=>?_) (λR=>?_)⟩)⟩
  .rw[f.1]at Q;cases Q
  .rw[f.2.1]at R;cases R
  refine⟨λ⟨c',j,A⟩=>A=w/\c'=c/\j<=c/\x.name∉(t.columns.take j).map qE.name,λ⟨_,j,_⟩=>c-j,⟨(c,0,w),⟨rfl,rfl,aC,ay⟩,MT⟩,?_⟩;rintro⟨c,j,w⟩ ⟨rfl,rfl,hj,z⟩;dsimp only;refine aF (λa0=>?_) (λa1=>?_)
  .obtain⟨y,S⟩:∃y,t.columns[j]? =some y:=⟨t.columns[j]'(by omega),bn _⟩
   obtain⟨T,oy,ey,ry⟩:=G6.at d.columns S;refine⟨T,oy,ey,aC,aC,y.name,.imm (cO.part ry 0 1),L,M,O,aC,g,x.name,.imm (cO.part P 0 1),aD (λe=>u λf=>?_) (λe=>?_)⟩
   .exact f.2.2 (cBJ S aC (C3 (bk e)))
   .refine⟨(c,j+1,w),⟨rfl,rfl,bg,Qs S z λY=>?_⟩,bg,MT⟩
    grind
  .have:j=c:=by omega
   subst this;exact⟨(j+1,w),⟨rfl,aC,Z.succ C ⟨bg,bg,z⟩⟩,aC,MT⟩
def J5(t g:AE)(k:Nat)(c:Int):=0<=c/\c<t.columns.length/\∃x y,t.columns[c.toNat]? =some x/\g.columns[k]? =some y/\x.kind=y.kind
def b0Z(tabs:List AE)(t:AE)(_:List Ref)(r:Ref):=0<=r.table/\r.table<tabs.length/\∃g,tabs[r.table.toNat]? =some g/\(r.columns.length:Int)=g.key/\Good (λd c=>J5 t g d.length c) r.columns
def G0(tabs _:List AE)(t:AE):=Good (b0Z tabs t) t.refs
def b0X:Vc.Spec:=λc m h K=>∃v s,c=[aS v]/\iU h s v/\Good Fe s.tables/\∀r:Bool,(r=true↔Good (G0 s.tables) s.tables)->K (cB r) m h
def aPQ:Vc.Spec:=λc m h K=>∃v s t,∃i:Nat,c=[aS v,cI i]/\iU h s v/\Good Fe s.tables/\s.tables[i]? =some t/\∀r:Bool,(r=true↔G0 s.tables [] t)->K (cB r) m h
noncomputable def bMJ(v:bT)(m:MH)(h:PH):=
 dK [] [(2,{A:=Nat,st:=λi=>bY 82 83 [(1,.at (.ptr 1 0)),(11,sv v.tables),(12,iv v.tables.len),(13,iv i)] [(1,.cells 27 (v.enc.map .val))] m h}),
  (5,{A:=Nat×Nat×cZ,st:=λ⟨i,k,w⟩=>bY 82 83 [(1,.at (.ptr 1 0)),(4,.at (.ptr 4 0)),(11,sv v.tables),(12,iv v.tables.len),(13,iv i),(18,sv w.references),(19,iv w.references.len),(20,iv k)] [(1,.cells 27 (v.enc.map .val)),(4,.cells 73 (w.enc.map .val))] m h}),
  (13,{A:=Nat×Nat×Nat×cZ×cZ×Sl,st:=λ⟨i,k,j,w,g,c⟩=>bY 82 83 [(1,.at (.ptr 1 0)),(4,.at (.ptr 4 0)),(7,.at (.ptr 7 0)),(11,sv v.tables),(12,iv v.tables.len),(13,iv i),(18,sv w.references),(19,iv w.references.len),(20,iv k),(48,sv c),(49,iv c.len),(50,iv j)] [(1,.cells 27 (v.enc.map .val)),(4,.cells 73 (w.enc.map .val)),(7,.cells 73 (g.enc.map .val))] m h})] [] [] false
noncomputable def bPZ(v:bT)(m:MH)(h:PH):=
 dK [] [(3,{A:=Nat×cZ,st:=λ⟨k,w⟩=>bY 85 87 [(2,.at (.ptr 2 0)),(5,.at (.ptr 5 0)),(16,sv w.references),(17,iv w.references.len),(18,iv k)] [(2,.cells 27 (v.enc.map .val)),(5,.cells 73 (w.enc.map .val))] m h}),
  (8,{A:=Nat×Nat×cZ×G5,st:=λ⟨k,j,w,r⟩=>bY 85 87 [(2,.at (.ptr 2 0)),(5,.at (.ptr 5 0)),(7,.at (.ptr 7 0)),(16,sv w.references),(17,iv w.references.len),(18,iv k),(47,sv r.columns),(48,iv r.columns.len),(49,iv j)] [(2,.cells 27 (v.enc.map .val)),(5,.cells 73 (w.enc.map .val)),(7,.cells 129 (r.enc.map .val))] m h})] [] [] false
abbrev nI(a:(Nat->Prop)->Nat->Prop)(b:(Nat->Prop)->(Nat->Nat)->Nat->Prop):=∃(x:Nat->Prop)(d:Nat->Nat),lD (∃(c:Nat),a x c) (λc=>b x d c)
abbrev fB:=eP 1
abbrev Fx(a b:cZ):=aW a.references b.references
abbrev Fy(a b:cZ):=bN a.references b.references
abbrev H5(a:bT)(b:Int)(c:Nat->Nat->Prop):=bK (λx d=>aA (aR (wY a) x d) (0<=b) (b<aG a.tables/\c x d))
abbrev wV(a:Nat×Nat×Nat×cZ×cZ×Sl):=a.2.2.2.1
abbrev A8(a:Nat×Nat×Nat×cZ×cZ×Sl):=a.2.2.2.2.2
abbrev zS(a:Nat×Nat×Nat×cZ×cZ×Sl):=a.2.2.1
abbrev IG(a:Nat×Nat×Nat×cZ×cZ×Sl):=a.2.2.2.2.1
attribute [push_cast] nI fB Fx Fy H5 wV A8 zS IG
def Nq(v:bT)(m:MH)(h:PH)(K:cq):=
  nI (λI x=>aA (I x) fB (aA (uA v) (kO v) (aA (bA x) (cV v) (aA (m=m) (h=h) True)))) (λI n x=>H3 (I x) x v (λb o y=>aK m h b (bL o x 5) (Bo y)/\∃(I1:Nat×Nat×cZ->Prop)(t:Nat×Nat×cZ->Nat),(∃(d:Nat×Nat×cZ),aA (I1 d) fB (aA (eP 4) (uA v) (aA (kO v) (cJ x d.1) (aA (Fx y (oH d)) (Fy y (oH d)) (aA (bA (uP d)) (cV v) (aA (oQ 73 (jJ y)=oQ 73 (jJ (oH d))) (m=m) (bU h h)))))))/\∀(d:Nat×Nat×cZ),I1 d->aY (↑(uP d):Int) (aG (oH d).references) (bK (λu z=>aA (aR (oH d).references.a u z) (0<=(↑(uP d):Int)) ((↑(uP d):Int)<aG (oH d).references/\∃(f:G5),aK m h u (bL z (uP d) 2) (kC (dW f.columns) (gZ f.table))/\
 aY f.table 0 (K bD m h) (iO f.table (kM v) (K bD m h) (H5 v f.table (λL M=>∃(j:cZ),aK m h L (gH M f.table 5) (Bo j)/\dR (aG f.columns) j.key (K bD m h) (∃(I2:Nat×Nat×Nat×cZ×cZ×Sl->Prop)(A:Nat×Nat×Nat×cZ×cZ×Sl->Nat),(∃(c:Nat×Nat×Nat×cZ×cZ×Sl),aA (I2 c) fB (aA (eP 4) (eP 7) (aA (uA v) (kO v) (aA (cJ d.1 c.1) (Fx (oH d) (wV c)) (aA (Fy (oH d) (wV c)) (cJ (uP d) c.2.1) (aA (aW f.columns (A8 c)) (bN f.columns (A8 c)) (aA (bA (zS c)) (cV v) (aA (oQ 73 (jJ (oH d))=oQ 73 (jJ (wV c))) (oQ 73 (jJ j)=oQ 73 (jJ (IG c))) (eM m m h h)))))))))/\∀(c:Nat×Nat×Nat×cZ×cZ×Sl),I2 c->aY (↑(zS c):Int) (aG
 (A8 c)) (bK (λB C=>aA (aR (A8 c).a B C) (0<=(↑(zS c):Int)) ((↑(zS c):Int)<aG (A8 c)/\∃(g:Int),aK m h B (bL C (zS c) 1) (bC g)/\aY g 0 (K bD m h) (iO g (BA (wV c)) (K bD m h) (bK (λD E=>aA (aR (wV c).columns.a D E) (0<=g) (g<aG (wV c).columns/\∃(F:Int),aK m h D (gH E g 2+1) (bC F)/\bK (λG H=>aA (aR (IG c).columns.a G H) (0<=(↑(zS c):Int)) ((↑(zS c):Int)<aG (IG c).columns/\∃(J:Int),aK m h G (bL H (zS c) 2+1) (bC J)/\dR F J (K bD m h) (∃(e:Nat×Nat×Nat×cZ×cZ×Sl),aA (I2 e) (A e<A c) (aA fB (eP 4) (aA (eP 7) (uA v) (aA (kO v) (cJ c.1 e.1) (aA (Fx (wV c) (wV e)) (Fy
 (wV c) (wV e)) (aA (cJ c.2.1 e.2.1) (aW (A8 c) (A8 e)) (aA (bN (A8 c) (A8 e)) (iH (bE (zS c) 1)=bP (zS e)) (aA (cV v) (oQ 73 (jJ (wV c))=oQ 73 (jJ (wV e))) (dJ (oQ 73 (jJ (IG c))=oQ 73 (jJ (IG e))) m m h h)))))))))))))))))) (∃(e:Nat×Nat×cZ),aA (I1 e) (t e<t d) (aA fB (eP 4) (aA (aI v.tables) (kO v) (aA (cJ c.1 e.1) (Fx (wV c) (oH e)) (aA (Fy (wV c) (oH e)) (iH (bE c.2.1 1)=bP (uP e)) (aA (cV v) (oQ 73 (jJ (wV c))=oQ 73 (jJ (oH e))) (eM m m h h)))))))))))))) (∃(c:Nat),aA (I c) (n c<n x) (aA fB (uA v) (aA (kO v) (iH (bE d.1 1)=bP c) (aA (cV v) (m=m) (bU h h)))))) (K jF m h))
abbrev wW(a:Nat×Nat×cZ×G5):=a.2.2.1
abbrev vX(a:Nat×Nat×cZ×G5):=a.2.2.2.columns
abbrev F2(a:Nat×Nat×cZ×G5):=a.2.2.2.table
attribute [push_cast] wW vX F2
def Nt(v:bT)(i:Nat)(m:MH)(h:PH)(K:cq):=
  bK (λb o=>aA (aR (wY v) b o) (0<=(↑i:Int)) ((↑i:Int)<aG v.tables/\∃(y:cZ),aK m h b (bL o i 5) (Bo y)/\Pb (λI x=>aA (I x) iS (aA (eP 5) (Fx y x.2) (aA (Fy y x.2) (bA x.1) (aA (cV v) (F3 y x) (eM m m h h))))) (λI j x=>I x->aY (↑x.1:Int) (aG x.2.references) (bK (λn t=>aA (aR x.2.references.a n t) (0<=(↑x.1:Int)) ((↑x.1:Int)<aG x.2.references/\∃(e:G5),aK m h n (bL t x.1 2) (kC (dW e.columns) (gZ e.table))/\aY e.table 0 (K bD m h) (iO e.table (kM v) (K bD m h) (bK (λu z=>aA (aR (wY v) u z) (0<=e.table) (e.table<aG v.tables/\∃(A:Int),aK m h u (gH z e.table 5+2) (bC A)/\dR (aG e.columns) A (K bD m h) (∃(I1:Nat×Nat×cZ×G5->Prop)(B:Nat×
 Nat×cZ×G5->Nat),(∃(c:Nat×Nat×cZ×G5),aA (I1 c) iS (aA (eP 5) (eP 7) (aA (Fx x.2 (wW c)) (Fy x.2 (wW c)) (aA (cJ x.1 c.1) (aW e.columns (vX c)) (aA (bN e.columns (vX c)) (bA c.2.1) (aA (cV v) (oQ 73 (jJ x.2)=oQ 73 (jJ (wW c))) (dJ (oQ 129 (pA (yY e.columns) (kL e.table))=oQ 129 (pA (yY (vX c)) (kL (F2 c)))) m m h h)))))))/\∀(c:Nat×Nat×cZ×G5),I1 c->aY (↑c.2.1:Int) (aG (vX c)) (bK (λC D=>aA (aR (vX c).a C D) (0<=(↑c.2.1:Int)) ((↑c.2.1:Int)<aG (vX c)/\∃(f:Int),aK m h C (bL D c.2.1 1) (bC f)/\aY f 0 (K bD m h) (iO f (BA (wW c)) (K bD m h) (bK (λE F=>aA (aR (wW c).columns.a E F) (0<=f) (f<aG (wW
 c).columns/\∃(G:Int),aK m h E (gH F f 2+1) (bC G)/\bK (λH J=>aA (aR (wY v) H J) (0<=F2 c) (F2 c<aG v.tables/\∃(g:Sl),aK m h H (gH J (F2 c) 5+1) (aL g)/\bK (λL M=>aA (aR g.a L M) (0<=(↑c.2.1:Int)) ((↑c.2.1:Int)<aG g/\∃(O:Int),aK m h L (bL M c.2.1 2+1) (bC O)/\dR G O (K bD m h) (∃(d:Nat×Nat×cZ×G5),aA (I1 d) (B d<B c) (aA iS fT (aA (eP 7) (Fx (wW c) (wW d)) (aA (Fy (wW c) (wW d)) (cJ c.1 d.1) (aA (aW (vX c) (vX d)) (bN (vX c) (vX d)) (aA (iH (bE c.2.1 1)=bP d.2.1) (cV v) (aA (oQ 73 (jJ (wW c))=oQ 73 (jJ (wW d))) (oQ 129 (pA (yY (vX c)) (kL (F2 c)))=oQ 129 (pA (yY (vX
 d)) (kL (F2 d)))) (aA (m=m) (h=h) True))))))))))))))))))) (∃(d:Nat×cZ),aA (I d) (j d<j x) (aA iS fT (aA (Fx (wW c) d.2) (Fy (wW c) d.2) (aA (iH (bE c.1 1)=bP d.1) (cV v) (dJ (F3 (wW c) d) m m h h))))))))))))) (K jF m h))))
theorem Ints.at'{s}(r:Ints h s l){x}(c:l[i]? =some x):∃b o,s.a=some ⟨b,o,none⟩/\cO h b (o+i*1) [.int .i64 x]:=by
 obtain⟨b,o,e,k⟩:=r.at c
 grind
theorem Wu{α}{l:List α}{x}(h:l[i]? =some x):(l.take i).length=i:=by
 grind
theorem Good.key_le{tabs}(h:Good Fe tabs){g}(c:tabs[i]? =some g):g.key<=g.columns.length:=(h i g c).2.2.1
theorem cvJ{v}(P:iU h s v)(C:Good Fe s.tables)(hK:∀r:Bool,(r=true↔Good (G0 s.tables) s.tables)->K (cB r) m h):Nq v m h K:=by
 dsimp only[Nq,push_cast];have hl:=P.tables.slen;have a8:=P.tables.len;have hf:¬Good (G0 s.tables) s.tables->K (.val (.bool false)) m h:=λh=>hK false ⟨λe=>(by cases e),λe=>(h e).elim⟩;refine⟨λi=>i<=s.tables.length/\gY (G0 s.tables) s.tables i,λi=>s.tables.length-i,⟨0,⟨aC,.zero⟩,MT⟩,λi⟨hi,hg⟩=>aF (λH=>?_) (λb1=>hK true ⟨λ_=>hg.all aC,λ_=>rfl⟩)⟩;obtain⟨t,R⟩:=fK hl H;obtain⟨b,o,w,ea,hr,f⟩:=P.tables.at R;have b7:=bM.slen f.columns;have S:=bM.slen f.refs;have b8:=bM.len f.refs;refine⟨b,o,ea,aC,H,w,.imm hr,λ⟨T,k,U⟩=>T=i/\U=w/\k<=t.refs.length/\gY (b0Z s.tables t) t.refs k,λ⟨_,k,_⟩=>t.refs.length-k,⟨(i,0,w),⟨rfl,rfl,aC,.zero⟩,MT⟩,?_⟩;rintro⟨i,k,w⟩ ⟨rfl,rfl,hk,I⟩;dsimp only;refine aF (λA=>?_) (λa9=>⟨i+1,⟨aC,hg.succ R (I.all aC)⟩,aC,MT⟩);obtain⟨r,D⟩:=fK S A;obtain⟨b2,o2,F,V,W,d⟩:=f.refs.at D;have X:=d.columns.slen;have b9:=d.columns.len;have rt:=d.table;have bad:¬b0Z s.tables t (t.refs.take k) r->K (.val (.bool false)) m h:=λhn=>hf (Good.not R (Good.not D hn));refine⟨b2,o2,V,aC,A,F,.imm W,aF (λh1=>bad λu=>?_) (λh1=>aF (λh2=>bad λu=>?_) (λh2=>?_))⟩
 .have:=u.1;omega
 .have:=u.2.1;omega
 obtain⟨g,b3,o3,G,J,Y,Z,n⟩:=P.table (t:=F.table) aC aC;have c':=bM.slen n.columns;have b':=C.key_le J;have gk:=n.key;refine⟨b3,o3,Y,aC,aC,G,.imm Z,aD (λh3=>bad λu=>?_) (λh3=>?_)⟩
 .obtain⟨_,_,g',E,c0,_⟩:=u
  grind
 have h3:(F.columns.len:Int)=G.key:=bg
 refine⟨λ⟨T,k',j,U,g',sl⟩=>T=i/\k'=k/\U=w/\g'=G/\sl=F.columns/\j<=r.columns.length/\gY (λa' c=>J5 t g a'.length c) r.columns j,λ⟨_,_,j,_,_,_⟩=>r.columns.length-j,⟨(i,k,0,w,G,F.columns),⟨rfl,rfl,rfl,rfl,rfl,aC,.zero⟩,MT⟩,?_⟩;rintro⟨i,k,j,w,G,_⟩ ⟨rfl,rfl,rfl,rfl,rfl,hj,L⟩;dsimp only;refine aF (λB=>?_) (λb0=>⟨(i,k+1,w),⟨rfl,rfl,bg,I.succ D ⟨aC,aC,g,bg,aC,L.all aC⟩⟩,bg,MT⟩);obtain⟨c,Q⟩:=fK X B;obtain⟨b4,o4,a0,a1⟩:=d.columns.at' Q;have a2:=Wu Q
 have z:¬J5 t g j c->K (.val (.bool false)) m h:=λhn=>bad λu=>by
  obtain⟨_,_,g',E,_,a3⟩:=u;rw[<-rt,J]at E;cases E;have:=a3 j c Q
  grind
 refine⟨b4,o4,a0,aC,B,c,.imm a1,aF (λh5=>z λu=>?_) (λh5=>aF (λh6=>z λu=>?_) (λh6=>?_))⟩
 .have:=u.1;omega
 .have:=u.2.1;omega
 obtain⟨x,M⟩:∃x,t.columns[c.toNat]? =some x:=⟨t.columns[c.toNat]'(by omega),bn _⟩
 obtain⟨y,O⟩:∃y,g.columns[j]? =some y:=⟨g.columns[j]'(by omega),bn _⟩
 obtain⟨b5,o5,a4,a5⟩:=G6.at f.columns M;obtain⟨b6,o6,a6,a7⟩:=G6.at n.columns O;refine⟨b5,o5,a4,aC,aC,x.kind,.imm (cO.part a5 1 1),b6,o6,a6,aC,aC,y.kind,.imm (cO.part a7 1 1),aD (λh7=>z λu=>?_) (λh7=>?_)⟩
 .obtain⟨_,_,x',y',e1,e2,e3⟩:=u
  grind
 .exact⟨(i,k,j+1,w,G,F.columns),⟨rfl,rfl,rfl,rfl,rfl,bg,L.succ Q (by show J5 t g (List.take j r.columns).length c;rw[a2];exact⟨aC,aC,x,y,M,O,bg⟩)⟩,bg,MT⟩
theorem aoQ:cm 137 b0X:=by
 refine jC func137 ?_;rintro c m h K ⟨v,s,rfl,d,e,f⟩;refine⟨bMJ v m h,rfl,aH,Nq v m h K,ax,?_⟩;exact cvJ d e f
theorem cwJ{v t}(P:iU h s v)(C:Good Fe s.tables)(hx:s.tables[i]? =some t)(hK:∀r:Bool,(r=true↔G0 s.tables [] t)->K (cB r) m h):Nt v i m h K:=by
 dsimp only[Nt,push_cast];have hl:=P.tables.slen;have a5:=P.tables.len;have a9:i<s.tables.length:=(bm hx);have hf:¬G0 s.tables [] t->K (.val (.bool false)) m h:=λh=>hK false ⟨λe=>(by cases e),λe=>(h e).elim⟩;obtain⟨b,o,w,ea,hr,f⟩:=P.tables.at hx;have b':=bM.slen f.columns;have R:=bM.slen f.refs;have b0:=bM.len f.refs;refine⟨b,o,ea,aC,aC,w,.imm hr,λ⟨k,S⟩=>S=w/\k<=t.refs.length/\gY (b0Z s.tables t) t.refs k,λ⟨k,_⟩=>t.refs.length-k,⟨(0,w),⟨rfl,aC,.zero⟩,MT⟩,?_⟩;rintro⟨k,w⟩ ⟨rfl,hk,G⟩;dsimp only;refine aF (λA=>?_) (λa6=>hK true ⟨λ_=>G.all aC,λ_=>rfl⟩);obtain⟨r,D⟩:=fK R A;obtain⟨b2,o2,E,T,U,d⟩:=f.refs.at D;have V:=d.columns.slen;have b1:=d.columns.len;have rt:=d.table;have bad:¬b0Z s.tables t (t.refs.take k) r->K (.val (.bool false)) m h:=λhn=>hf (Good.not D hn);refine⟨b2,o2,T,aC,A,E,.imm U,aF (λh1=>bad λu=>?_) (λh1=>aF (λh2=>bad λu=>?_) (λh2=>?_))⟩
 .have:=u.1;omega
 .have:=u.2.1;omega
 obtain⟨g,b3,o3,W,H,I,J,n⟩:=P.table (t:=E.table) aC aC;have b7:=bM.slen n.columns;have a7:=C.key_le H;have gk:=n.key;refine⟨b3,o3,I,aC,aC,W.key,.imm (cO.part J 2 1),aD (λh3=>bad λu=>?_) (λh3=>?_)⟩
 .obtain⟨_,_,g',F,b8,_⟩:=u
  grind
 have h3:(E.columns.len:Int)=W.key:=bg
 refine⟨λ⟨k',j,S,r'⟩=>k'=k/\S=w/\r'=E/\j<=r.columns.length/\gY (λX c=>J5 t g X.length c) r.columns j,λ⟨_,j,_,_⟩=>r.columns.length-j,⟨(k,0,w,E),⟨rfl,rfl,rfl,aC,.zero⟩,MT⟩,?_⟩;rintro⟨k,j,w,E⟩ ⟨rfl,rfl,rfl,hj,L⟩;dsimp only;refine aF (λB=>?_) (λa8=>⟨(k+1,w),⟨rfl,aC,G.succ D ⟨aC,aC,g,bg,aC,L.all aC⟩⟩,aC,MT⟩);obtain⟨c,Q⟩:=fK V B;obtain⟨b4,o4,Y,Z⟩:=d.columns.at' Q;have a':=Wu Q
 have z:¬J5 t g j c->K (.val (.bool false)) m h:=λhn=>bad λu=>by
  obtain⟨_,_,g',F,_,a0⟩:=u;rw[<-rt,H]at F;cases F;have:=a0 j c Q
  grind
 refine⟨b4,o4,Y,aC,B,c,.imm Z,aF (λh5=>z λu=>?_) (λh5=>aF (λh6=>z λu=>?_) (λh6=>?_))⟩
 .have:=u.1;omega
 .have:=u.2.1;omega
 obtain⟨x,M⟩:∃x,t.columns[c.toNat]? =some x:=⟨t.columns[c.toNat]'(by omega),bn _⟩
 obtain⟨y,O⟩:∃y,g.columns[j]? =some y:=⟨g.columns[j]'(by omega),bn _⟩
 obtain⟨b5,o5,a1,a2⟩:=G6.at f.columns M;obtain⟨b6,o6,a3,a4⟩:=G6.at n.columns O;refine⟨b5,o5,a1,aC,aC,x.kind,.imm (cO.part a2 1 1),b3,o3,I,aC,aC,W.columns,.imm (cO.part J 1 1),b6,o6,a3,aC,aC,y.kind,.imm (cO.part a4 1 1),aD (λh7=>z λu=>?_) (λh7=>?_)⟩
 .obtain⟨_,_,x',y',e1,e2,e3⟩:=u
  grind
 .exact⟨(k,j+1,w,E),⟨rfl,rfl,rfl,bg,L.succ Q (by show J5 t g (List.take j r.columns).length c;rw[a'];exact⟨aC,aC,x,y,M,O,bg⟩)⟩,bg,MT⟩
theorem apX:cm 122 aPQ:=by
 refine jC func122 ?_;rintro c m h K ⟨v,s,t,i,rfl,d,e,f,g⟩;refine⟨bPZ v m h,rfl,aH,Nt v i m h K,ax,?_⟩;exact cwJ d e f g
def RU(t:AE):=t.columns.length<=8/\t.refs.length<=4/\t.checks.length<=4
def EF(s:jZ):=s.tables.length<=8/\Good (λ_ t=>RU t) s.tables
def L8(s:jZ):=0<=s.version/\s.version<=1000/\Good Fe s.tables/\Good (G0 s.tables) s.tables
def xJ:cn->Int
 |[]=>0
 |e::r=>if e=0 then xJ r else e
def zB(s:jZ)(i:Nat):=match s.tables[i]? with|some t=>t.checks.map (iP (kH s i) [])|none=>[]
theorem Cd a b(h:∀e∈a,e=0):xJ (a++b)=xJ b:=by
 induction a with
 |nil=>rfl
 |cons x a c=>
  simp only[cons_append,xJ];rw[if_pos (h x ay),c λe d=>h e (by simp[d])]
theorem EE a(h:∀e∈a,e=0):xJ a=0:=by
 have:=Cd a [] h;simpa[xJ]using this
theorem Ou{n k f e}(o:i<n)(t:∀j<i,∀x∈f j,x=0)(c:∀x∈(f i).take k,x=0)(d:(f i)[k]? =some e)(g:e≠0):xJ ((List.range n).flatMap f)=e:=by
 obtain⟨r,rfl⟩:∃r,n=i+(1+r):=⟨n-i-1,aC⟩
 rw[range_add,flatMap_append,Cd]
 .rw[show(List.range (1+r)).map (i+ ·)=i::(range' (i+1) r)from ?_,flatMap_cons, <-take_append_drop k (f i),append_assoc,Cd _ _ c,drop_cons d]
  .simp[xJ,g]
  .rw[Nat.add_comm 1 r,range_succ_eq_map];simp[range'_eq_map_range,Nat.add_assoc,Nat.add_comm 1]
 grind
open Classical in
noncomputable def eX(s:jZ):Int:=if EF s then(if L8 s then xJ ((List.range s.tables.length).flatMap (zB s))else 70)else 2
def C5:Vc.Spec:=λc m h K=>∃v s,c=[aS v]/\iU h s v/\K (cI (eX s)) m h
noncomputable def ckZ(v:bT)(m:MH)(h:PH):=
 dK [(136,b2J),(137,b0X),(69,xL),(138,vJ)] [(4,{A:=Nat,st:=λi=>bY 83 84 [(1,.at (.ptr 1 0)),(16,sv v.tables),(17,iv v.tables.len),(18,iv i)] [(1,.cells 27 (v.enc.map .val))] m h}),
  (12,{A:=Nat×PH,st:=λ⟨i,c⟩=>bY 83 84 [(1,.at (.ptr 1 0)),(58,sv v.tables),(59,iv v.tables.len),(60,iv i)] [(1,.cells 27 (v.enc.map .val))] m c}),
  (16,{A:=Nat×Nat×Sl×Sl×PH,st:=λ⟨i,k,ks,d,c⟩=>bY 83 84 [(1,.at (.ptr 1 0)),(7,sv ks),(58,sv v.tables),(59,iv v.tables.len),(60,iv i),(69,sv d),(70,iv d.len),(71,iv k)] [(1,.cells 27 (v.enc.map .val))] m c})] [] [] false
noncomputable def cmZ(v:bT)(m:MH)(h:PH):=
 dK [(121,bWJ),(122,aPQ),(45,xL),(66,vJ)] [(4,{A:=Nat,st:=λi=>bY 96 97 [(1,.at (.ptr 1 0)),(16,sv v.tables),(17,iv v.tables.len),(18,iv i)] [(1,.cells 27 (v.enc.map .val))] m h}),
  (12,{A:=Nat,st:=λi=>bY 96 97 [(1,.at (.ptr 1 0)),(49,iv v.tables.len),(50,iv i)] [(1,.cells 27 (v.enc.map .val))] m h}),
  (18,{A:=Nat,st:=λi=>bY 96 97 [(1,.at (.ptr 1 0)),(60,iv v.tables.len),(61,iv i)] [(1,.cells 27 (v.enc.map .val))] m h}),
  (24,{A:=Nat×PH,st:=λ⟨i,c⟩=>bY 96 97 [(1,.at (.ptr 1 0)),(71,iv v.tables.len),(72,iv i)] [(1,.cells 27 (v.enc.map .val))] m c}),
  (27,{A:=Nat×Nat×Sl×PH,st:=λ⟨i,k,d,c⟩=>bY 96 97 [(1,.at (.ptr 1 0)),(7,iv i),(71,iv v.tables.len),(72,iv i),(80,sv d),(81,iv d.len),(82,iv k)] [(1,.cells 27 (v.enc.map .val))] m c})] [] [] false
abbrev Cr(a:dk)(b:Nat->Nat->Option Value)(c:Sl->PH->Prop):=rD (λx d=>∃(f:Int),aA (a=cT (jO (cC x)) f) (iU b d x) (oM d/\∀(g:Sl)(e:PH),bS b e (Ints e g (kH d f)) (c g e)))
abbrev A9(a:Nat×Nat×Sl×Sl×PH):=a.2.2.2.1
abbrev Ba(a:Nat×Nat×Sl×Sl×PH):=a.2.2.2.2
abbrev FE(a:cn->cn->Prop):=∃(x c:cn),a x c
attribute [push_cast] Cr A9 Ba FE
def Re(v:bT)(m:MH)(h:PH)(K:cq):=
  gA (kM v) 8 (K (jA 2) m h) (nI (λI x=>aA (I x) fB (aA (uA v) (kO v) (aA (bA x) (cV v) (aA (m=m) (h=h) True)))) (λI n x=>H3 (I x) x v (λb o y=>aK m h b (bL o x 5) (Bo y)/\qC (decide (BA y>8)) (K (jA 2) m h) (aG y.references) 4 (K (jA 2) m h) (gA (aG y.checks) 4 (K (jA 2) m h) (∃(e:Nat),aA (I e) (n e<n x) (aA fB (uA v) (aA (kO v) (iH (bE x 1)=bP e) (aA (cV v) (m=m) (bU h h))))))) (aY v.version 0 (K (jA 70) m h) (gA v.version 1000 (K (jA 70) m h) (rD (λu s=>aA (eY (jO (cC v)) (jO (cC u))) (iU h s u) (∀(r:Bool),gS (iX r↔Good Fe s.tables) (!r) (K (jA 70) m h) (rD (λz g=>aA (eY (jO (cC v)) (jO (cC z))) (iU h g z) (Good Fe g.tables/\∀(A:Bool),
 gS (iX A↔Good (G0 g.tables) g.tables) (!A) (K (jA 70) m h) (∃(I1:Nat×PH->Prop)(B:Nat×PH->Nat),(∃(e:Nat×PH),aA (I1 e) fB (aA (uA v) (kO v) (aA (bA e.1) (cV v) (aA (m=m) (h=e.2) True))))/\∀(e:Nat×PH),H3 (I1 e) e.1 v (λb o y=>aK m e.2 b (bL o e.1 5) (Bo y)/\Cr (cT (jO (cC v)) (↑e.1:Int)) e.2 (λJ L=>∃(I2:Nat×Nat×Sl×Sl×PH->Prop)(C:Nat×Nat×Sl×Sl×PH->Nat),(∃(d:Nat×Nat×Sl×Sl×PH),aA (I2 d) fB (aA (aW J d.2.2.1) (uA v) (aA (kO v) (cJ e.1 d.1) (aA (aW y.checks (A9 d)) (bN y.checks (A9 d)) (aA (bA d.2.1) (cV v) (aA (m=m) (L=Ba d) True))))))/\∀(d:Nat×Nat×Sl×Sl×PH),I2 d->aY (↑d.2.1:Int) (aG (A9 d)) (bK (λD E=>aA
 (aR (A9 d).a D E) (0<=(↑d.2.1:Int)) ((↑d.2.1:Int)<aG (A9 d)/\∃(F:PV),aK m (Ba d) D (bL E d.2.1 13) F.enc/\∃(G t:Sl)(H:PV),FE (λc p=>∃(j:Pred),aA (dC d.2.2.1 (tN EH (gR F))=dC G (gO t (gR H))) (Ints (Ba d) G c) (aA (Ints (Ba d) t p) (fP (Ba d) j H) (dR (iP c p j) 0 (K (jA (iP c p j)) m (Ba d)) (∃(f:Nat×Nat×Sl×Sl×PH),aA (I2 f) (C f<C d) (aA fB (aW d.2.2.1 f.2.2.1) (aA (aI v.tables) (kO v) (aA (cJ d.1 f.1) (aW (A9 d) (A9 f)) (aA (bN (A9 d) (A9 f)) (iH (bE d.2.1 1)=bP f.2.1) (aA (cV v) (m=m) (bU (Ba d) (Ba f)))))))))))))) (∃(f:Nat×PH),aA (I1 f) (B f<B e) (aA fB (uA v) (aA (kO v) (iH (bE
 d.1 1)=bP f.1) (aA (cV v) (m=m) (bU (Ba d) f.2))))))) (K (jA 0) m e.2))))))))))))
abbrev Px(a:jZ)(b:Nat)(c:AE):=a.tables[b]? =Option.some c
abbrev Bb(a:Nat×Nat×Sl×PH):=a.2.2.1
abbrev KM(a:dk)(b:PH)(c:cn->cn->Pred->Prop):=rC (λx d=>∃(e:PV),FE (λf g=>∃(j:Pred),aA (a=dC x (gO d (gR e))) (Ints b x f) (aA (Ints b d g) (fP b j e) (c f g j))))
attribute [push_cast] Px Bb KM
def Rg(v:bT)(m:MH)(h:PH)(K:cq):=
  gA (kM v) 8 (K (jA 2) m h) (nI (λI x=>aA (I x) fB (aA (uA v) (kO v) (aA (bA x) (cV v) (aA (m=m) (h=h) True)))) (λI z x=>H3 (I x) x v (λb o y=>aK m h b (bL o x 5) (Bo y)/\qC (decide (BA y>8)) (K (jA 2) m h) (aG y.references) 4 (K (jA 2) m h) (gA (aG y.checks) 4 (K (jA 2) m h) (∃(g:Nat),aA (I g) (z g<z x) (aA fB (uA v) (aA (kO v) (iH (bE x 1)=bP g) (aA (cV v) (m=m) (bU h h))))))) (aY v.version 0 (K (jA 70) m h) (gA v.version 1000 (K (jA 70) m h) (nI (λI1 g=>aA (I1 g) fB (aA (kO v) (bA g) (dJ (cV v) m m h h))) (λI1 A g=>I1 g->aY (↑g:Int) (aG v.tables) (rD (λn s=>∃(t:AE)(i:Nat),aA (cT (jO (cC v)) (↑g:Int)=cT (jO (cC n)) (↑i:Int))
 (iU h s n) (Px s i t/\∀(r:Bool),gS (iX r↔Fe (List.take i s.tables) t) (!r) (K (jA 70) m h) (∃(j:Nat),aA (I1 j) (A j<A g) (aA fB (kO v) (aA (iH (bE g 1)=bP j) (cV v) (aA (m=m) (h=h) True))))))) (nI (λI2 j=>aA (I2 j) fB (aA (kO v) (bA j) (dJ (cV v) m m h h))) (λI2 B j=>I2 j->aY (↑j:Int) (aG v.tables) (rD (λn s=>∃(t:AE)(i:Nat),aA (cT (jO (cC v)) (↑j:Int)=cT (jO (cC n)) (↑i:Int)) (iU h s n) (aA (Good Fe s.tables) (Px s i t) (∀(r:Bool),gS (iX r↔G0 s.tables [] t) (!r) (K (jA 70) m h) (∃(e:Nat),aA (I2 e) (B e<B j) (aA fB (kO v) (aA (iH (bE j 1)=bP e) (cV v) (aA (m=m) (h=h) True)))))))) (∃(I3:Nat×PH->Prop)(C:Nat×PH->Nat),(∃(e:Nat×
 PH),aA (I3 e) fB (aA (kO v) (bA e.1) (dJ (cV v) m m h e.2)))/\∀(e:Nat×PH),I3 e->aY (↑e.1:Int) (aG v.tables) (bK (λb o=>aA (aR (wY v) b o) (0<=(↑e.1:Int)) ((↑e.1:Int)<aG v.tables/\∃(y:Sl),aK m e.2 b (bL o e.1 5+4) (aL y)/\∃(I4:Nat×Nat×Sl×PH->Prop)(D:Nat×Nat×Sl×PH->Nat),(∃(d:Nat×Nat×Sl×PH),aA (I4 d) fB (aA (cJ e.1 d.1) (kO v) (aA (cJ e.1 d.1) (aW y (Bb d)) (aA (bN y (Bb d)) (bA d.2.1) (dJ (cV v) m m e.2 d.2.2.2)))))/\∀(d:Nat×Nat×Sl×PH),I4 d->aY (↑d.2.1:Int) (aG (Bb d)) (bK (λE F=>aA (aR (Bb d).a E F) (0<=(↑d.2.1:Int)) ((↑d.2.1:Int)<aG (Bb d)/\∃(G:PV),aK m d.2.2.2 E (bL F d.2.1 13) G.enc/\Cr (cT (jO
 (cC v)) (↑d.1:Int)) d.2.2.2 (λs u=>KM (dC s (tN EH (gR G))) u (λc p H=>dR (iP c p H) 0 (K (jA (iP c p H)) m u) (∃(f:Nat×Nat×Sl×PH),aA (I4 f) (D f<D d) (aA fB (cJ d.1 f.1) (aA (kO v) (cJ d.1 f.1) (aA (aW (Bb d) (Bb f)) (bN (Bb d) (Bb f)) (aA (iH (bE d.2.1 1)=bP f.2.1) (cV v) (aA (m=m) (u=f.2.2.2) True))))))))))) (∃(f:Nat×PH),aA (I3 f) (C f<C e) (aA fB (kO v) (aA (iH (bE d.1 1)=bP f.1) (cV v) (aA (m=m) (d.2.2.2=f.2) True))))))) (K (jA 0) m e.2))))))))))
theorem lZ.out{hx r}(d:Sub m m')(c:PH.le h hx)(e:K r m h):lZ h K r m' hx:=⟨m,h,d,.refl _,c,e⟩
theorem yF(h:¬EF s):eX s=2:=by unfold eX;rw[if_neg h]
theorem Qb(h:EF s)(h':¬L8 s):eX s=70:=by unfold eX;grind
theorem Mp(h:EF s)(h':L8 s):eX s=xJ ((List.range s.tables.length).flatMap (zB s)):=by unfold eX;grind
theorem Fm{k:Nat}{t}(hx:s.tables[i]? =some t)(c:t.checks[k]? =some p):(zB s i)[k]? =some (iP (kH s i) [] p):=by
 unfold zB;grind
theorem NW{t}(hx:s.tables[i]? =some t):(zB s i).length=t.checks.length:=by
 unfold zB;rw[hx];simp
theorem Sv{k e}(c:l[k]? =some e)(h:∀x∈l.take k,x=0)(f:e=0):∀x∈l.take (k+1),x=0:=by
 intro x d;rw[cd,c,mem_append]at d
 grind
theorem Wk{f:Nat->cn}{k}(h:∀j<i,∀x∈f j,x=0)(d:(f i).length<=k)(c:∀x∈(f i).take k,x=0):∀j<i+1,∀x∈f j,x=0:=by
 intro j n x g;by_cases e:j=i
 .subst e;rw[bt d]at c;exact c x g
 grind
theorem MU:cm 73 C5:=by
 refine EY func73 ?_;rintro a0 m h K ⟨v,s,rfl,y,hK⟩;refine⟨ckZ v m h,rfl,aE aoX (aE aoQ (aE IM (aE JV aH))),Re v m h (lZ h K),ax,?_⟩;show Re v m h (lZ h K);dsimp only[Re,push_cast];have W:=y.tables.slen;have X:=y.tables.len;have Y:=y.version;have out:∀(f:PH)(x:Int),PH.le h f->eX s=x->lZ h K (.val (.int .i64 x)) m f:=λf x g e=>.out (Sub.refl m) g (by rw[<-e];exact hK);refine aF (λh1=>out h _ (.refl _) (yF λe=>by have:=e.1;omega)) (λh1=>?_);refine⟨λi=>i<=s.tables.length/\gY (λ_ t=>RU t) s.tables i,λi=>s.tables.length-i,⟨0,⟨aC,.zero⟩,MT⟩,λi⟨hi,Z⟩=>aF (λn=>?_) (λO=>?_)⟩
 .obtain⟨t,f⟩:=fK W n;obtain⟨b,o,w,P,B,c⟩:=y.tables.at f;have e1:=bM.slen c.columns;have e2:=bM.slen c.refs;have e3:=bM.slen c.checks;have bad:¬RU t->lZ h K (.val (.int .i64 2)) m h:=λQ=>out h _ (.refl _) (yF λe=>Good.not f Q e.2);refine⟨b,o,P,aC,n,w,.imm B,aF (λR=>bad λe=>?_) (λR=>aF (λS=>bad λe=>?_) (λS=>aF (λI=>bad λe=>?_) (λI=>⟨i+1,⟨aC,Z.succ f ⟨aC,aC,aC⟩⟩,bg,MT⟩)))⟩
  .have:=e.1;omega
  .have:=e.2.1;omega
  .have:=e.2.2;omega
 have C:EF s:=⟨aC,Z.all aC⟩
 have h8:oM s:=λt H=>by
  obtain⟨j,hj⟩:=mem_iff_getElem?.1 H;exact(C.2 j t hj).1
 have bad:¬L8 s->lZ h K (.val (.int .i64 70)) m h:=λQ=>out h _ (.refl _) (Qb C Q);refine aF (λR=>bad λe=>?_) (λR=>aF (λS=>bad λe=>?_) (λS=>⟨v,s,rfl,y,λr B=>aD (λI=>bad λe=>?_) (λI=>⟨v,s,rfl,y,B.1 bg,λr2 J=>aD (λT=>bad λe=>?_) (λT=>?_)⟩)⟩))
 .have:=e.1;omega
 .have:=e.2.1;omega
 .rw[B.2 e.2.2.1]at I;cases I
 .rw[J.2 e.2.2.2]at T;cases T
 have ok:L8 s:=⟨aC,aC,B.1 bg,J.1 bg⟩
 rw[Mp C ok]at out;refine⟨λ⟨i,f⟩=>i<=s.tables.length/\PH.le h f/\∀j<i,∀x∈zB s j,x=0,λ⟨i,_⟩=>s.tables.length-i,⟨(0,h),⟨aC,.refl _,λj hj=>by omega⟩,MT⟩,?_⟩;rintro⟨i,f⟩ ⟨hi,g,hz⟩;dsimp only;refine aF (λn=>?_) (λO=>out f _ g (EE _ λe he=>?_))
 .obtain⟨t,H⟩:=fK W n;obtain⟨b,o,w,P,B,c⟩:=(y.mono g).tables.at H;have cl:=bM.slen c.checks;have cb:=bM.len c.checks;refine⟨b,o,P,aC,n,w,.imm B,v,s,i,rfl,y.mono g,h8,λsl h' z D=>?_⟩;refine⟨λ⟨i',k,ks,cs,E⟩=>i'=i/\cs=w.checks/\k<=t.checks.length/\PH.le h' E/\Ints E ks (kH s i)/\∀x∈(zB s i).take k,x=0,λ⟨_,k,_,_,_⟩=>t.checks.length-k,⟨(i,0,sl,w.checks,h'),⟨rfl,rfl,aC,.refl _,D,λx f=>by simp at f⟩,MT⟩,?_⟩;rintro⟨i,k,ks,_,E⟩ ⟨rfl,rfl,hk,u,d,F⟩;dsimp only;have L:PH.le h E:=(g.trans z).trans u;refine aF (λA=>?_) (λa'=>⟨(i+1,E),⟨aC,L,Wk hz (k:=k) (by rw[NW H];omega) F⟩,aC,MT⟩);obtain⟨p,U⟩:=fK cl A;obtain⟨b2,o2,pv,V,M,G⟩:=((c.checks.mono z).mono u).at U;refine⟨b2,o2,V,aC,A,pv,.imm M,ks,⟨none,0,0⟩,pv,kH s i,[],p,rfl,d,⟨.nil _ _,ay⟩,G,aD (λh6=>?_) (λh6=>?_)⟩
  .exact out E _ L (Ou aC hz F (Fm H U) bg)
  .exact⟨(i,k+1,ks,w.checks,E),⟨rfl,rfl,bg,u,d,Sv (Fm H U) F bg⟩,bg,MT⟩
 .grind
theorem a9X:cm 61 C5:=by
 refine EY func61 ?_;rintro a0 m h K ⟨v,s,rfl,C,hK⟩;refine⟨cmZ v m h,rfl,aE apZ (aE apX (aE IN (aE MV aH))),Rg v m h (lZ h K),ax,?_⟩;show Rg v m h (lZ h K);dsimp only[Rg,push_cast];have P:=C.tables.slen;have X:=C.tables.len;have Y:=C.version;have out:∀(c:PH)(x:Int),PH.le h c->eX s=x->lZ h K (.val (.int .i64 x)) m c:=λc x n e=>.out (Sub.refl m) n (by rw[<-e];exact hK);refine aF (λh1=>out h _ (.refl _) (yF λe=>by have:=e.1;omega)) (λh1=>?_);refine⟨λi=>i<=s.tables.length/\gY (λ_ t=>RU t) s.tables i,λi=>s.tables.length-i,⟨0,⟨aC,.zero⟩,MT⟩,λi⟨L,u⟩=>aF (λf=>?_) (λg=>?_)⟩
 .obtain⟨t,c⟩:=fK P f;obtain⟨b,o,w,R,A,d⟩:=C.tables.at c;have e1:=bM.slen d.columns;have e2:=bM.slen d.refs;have e3:=bM.slen d.checks;have bad:¬RU t->lZ h K (.val (.int .i64 2)) m h:=λS=>out h _ (.refl _) (yF λe=>Good.not c S e.2);refine⟨b,o,R,aC,f,w,.imm A,aF (λT=>bad λe=>?_) (λT=>aF (λU=>bad λe=>?_) (λU=>aF (λB=>bad λe=>?_) (λB=>⟨i+1,⟨aC,u.succ c ⟨aC,aC,aC⟩⟩,bg,MT⟩)))⟩
  .have:=e.1;omega
  .have:=e.2.1;omega
  .have:=e.2.2;omega
 have E:EF s:=⟨aC,u.all aC⟩
 have h8:oM s:=λt M=>by
  obtain⟨j,Z⟩:=mem_iff_getElem?.1 M;exact(E.2 j t Z).1
 have bad:¬L8 s->lZ h K (.val (.int .i64 70)) m h:=λS=>out h _ (.refl _) (Qb E S);refine aF (λT=>bad λe=>?_) (λT=>aF (λU=>bad λe=>?_) (λU=>?_))
 .have:=e.1;omega
 .have:=e.2.1;omega
 clear L u g;refine⟨λi=>i<=s.tables.length/\gY Fe s.tables i,λi=>s.tables.length-i,⟨0,⟨aC,.zero⟩,MT⟩,λi⟨L,u⟩=>aF (λf=>?_) (λg=>?_)⟩
 .obtain⟨t,c⟩:=fK P f;refine⟨v,s,t,i,rfl,C,c,λr A=>aD (λB=>bad λe=>?_) (λB=>⟨i+1,⟨aC,u.succ c (A.1 bg)⟩,bg,MT⟩)⟩;rw[A.2 (e.2.2.1 i t c)]at B;cases B
 have good:=u.all aC;clear L u g;refine⟨λi=>i<=s.tables.length/\gY (G0 s.tables) s.tables i,λi=>s.tables.length-i,⟨0,⟨aC,.zero⟩,MT⟩,λi⟨L,u⟩=>aF (λf=>?_) (λg=>?_)⟩
 .obtain⟨t,c⟩:=fK P f;refine⟨v,s,t,i,rfl,C,good,c,λr A=>aD (λB=>bad λe=>?_) (λB=>⟨i+1,⟨aC,u.succ c (A.1 bg)⟩,bg,MT⟩)⟩;rw[A.2 (e.2.2.2 i t c)]at B;cases B
 have F:=u.all aC;clear L u g;have ok:L8 s:=⟨aC,aC,good,F⟩
 rw[Mp E ok]at out;refine⟨λ⟨i,c⟩=>i<=s.tables.length/\PH.le h c/\∀j<i,∀x∈zB s j,x=0,λ⟨i,_⟩=>s.tables.length-i,⟨(0,h),⟨aC,.refl _,λj Z=>by omega⟩,MT⟩,?_⟩;rintro⟨i,c⟩ ⟨L,n,hz⟩;dsimp only;refine aF (λf=>?_) (λg=>out c _ n (EE _ λe he=>?_))
 .obtain⟨t,M⟩:=fK P f;obtain⟨b,o,w,R,A,d⟩:=(C.mono n).tables.at M;have cl:=bM.slen d.checks;have cb:=bM.len d.checks;refine⟨b,o,R,aC,f,w.checks,.imm (cO.part A 4 1),?_⟩;refine⟨λ⟨i',k,cs,Q⟩=>i'=i/\cs=w.checks/\k<=t.checks.length/\PH.le c Q/\∀x∈(zB s i).take k,x=0,λ⟨_,k,_,_⟩=>t.checks.length-k,⟨(i,0,w.checks,c),⟨rfl,rfl,aC,.refl _,λx c=>by simp at c⟩,MT⟩,?_⟩;rintro⟨i,k,_,Q⟩ ⟨rfl,rfl,hk,y,G⟩;dsimp only;have H:PH.le h Q:=n.trans y;refine aF (λD=>?_) (λa'=>⟨(i+1,Q),⟨aC,H,Wk hz (k:=k) (by rw[NW M];omega) G⟩,aC,MT⟩);obtain⟨p,V⟩:=fK cl D;obtain⟨b2,o2,pv,W,O,I⟩:=(d.checks.mono y).at V;refine⟨b2,o2,W,aC,D,pv,.imm O,v,s,i,rfl,C.mono H,h8,λsl h' z J=>⟨sl,⟨none,0,0⟩,pv,kH s i,[],p,rfl,J,⟨.nil _ _,ay⟩,I.mono z,aD (λh6=>?_) (λh6=>?_)⟩⟩
  .exact out h' _ (H.trans z) (Ou aC hz G (Fm M V) bg)
  .exact⟨(i,k+1,w.checks,h'),⟨rfl,rfl,bg,y.trans z,Sv (Fm M V) G bg⟩,bg,MT⟩
 .grind
mutual
def u0:Query->Int->Int
 |.mk _ _ _ _ _ _ _ _ args,n=>qK args (n+1)
def qK:db->Int->Int
 |[],n=>n
 |p::ps,n=>if n<=24 then qK ps (u0 p n)else n
end
mutual
def uV:Query->Nat->Bool
 |.mk _ _ _ _ _ _ _ _ _,0=>true
 |.mk _ _ _ _ _ _ _ _ args,n+1=>Dr args n
def Dr:db->Nat->Bool
 |[],_=>false
 |p::ps,n=>uV p n||Dr ps n
end
mutual
theorem Kx:∀(p:Query)(n:Int),n<=24->n<u0 p n/\u0 p n<=25
 |.mk _ _ _ _ _ _ _ _ args,n,h=>by
  have:=Jk args (n+1) aC;simp only[u0];omega
theorem Jk:∀(ps:db)(n:Int),n<=25->n<=qK ps n/\qK ps n<=25
 |[],n,h=>by simp only[qK];omega
 |p::ps,n,h=>by
  simp only[qK];split
  .rename_i c;have d:=Kx p n c;have e:=Jk ps (u0 p n) d.2;omega
  .omega
end
theorem Vj ps{n}(h:¬n<=24):qK ps n=n:=by
 cases ps
 .simp[qK]
 .simp only[qK,if_neg h]
theorem LU(n:Nat):∀ps:db,Dr ps n=ps.any (uV · n)
 |[]=>by simp[Dr]
 |p::ps=>by simp[Dr,LU n ps]
theorem dO.args{p}(r:dO h p v):Ef h v.args p.args:=by
 cases p;exact r.parts.args_
def tT q:=decide (u0 q 0<=24)&& !uV q 8
def arity(op:Int):=
 if op==1 then 0 else if op==2||op==3||op==9 then 1 else if op==4||op==5||op==6||op==7||op==8||op==10 then 2 else-1
def V6(N:Nat):Vc.Spec:=λc m h K=>∃v p k,c=[aQ v,cI k,cI 24]/\dO h p v/\SizeOf.sizeOf p<N/\0<=k/\k<=24/\K (cI (u0 p k)) m h
def Sb(N:Nat):Vc.Spec:=λc m h K=>∃v p,∃k:Nat,c=[aQ v,cI k]/\dO h p v/\SizeOf.sizeOf p<N/\k<=100/\K (cB (uV p k)) m h
def aNX:Vc.Spec:=λc m h K=>∃v p,c=[aQ v]/\dO h p v/\K (cB (tT p)) m h
def Se:Vc.Spec:=λc m h K=>∃op,c=[cI op]/\K (cI (arity op)) m h
def C0(l:cn)(n:Int):=decide (0<=n)&&decide (n<l.length)
def InS:Vc.Spec:=λc m h K=>∃s l n,c=[cS s,cI n]/\Ints h s l/\K (cB (C0 l n)) m h
noncomputable def bPX(N:Nat)(v:QV)(m:MH)(h:PH):=
 dK [(124,V6 N)] [(3,{A:=Nat×Int,st:=λx=>bY 31 34 [(1,iv x.2),(2,iv 24),(3,.at (.ptr 3 0)),(7,iv x.1)] [(3,.cells 41 (v.enc.map .val))] m h})] [] [] false
noncomputable def bPQ(N:Nat)(v:QV)(k:Nat)(m:MH)(h:PH):=
 dK [(125,Sb N)] [(4,{A:=Nat,st:=λi=>bY 23 25 [(1,iv k),(2,.at (.ptr 2 0)),(10,iv v.args.len),(11,iv i)] [(2,.cells 41 (v.enc.map .val))] m h})] [] [] false
abbrev fU(a:QV):=eQ (qM 41 a.enc)
attribute [push_cast] fU
def Uk(N:Nat)(v:QV)(k:Int)(m:MH)(h:PH)(K:cq):=
  ∃(I:Nat×Int->Prop)(e:Nat×Int->Nat),(∃(x:Nat×Int),aA (I x) (dA (iF (k+1)) x.2) (aA (fI 24) j8 (aA (bA x.1) (fU v) (aA (m=m) (h=h) True))))/\∀(x:Nat×Int),I x->aY (↑x.1:Int) (aG v.args) (branch (decide (x.2<=24)) (bK (λb o=>aA (aR v.args.a b o) (0<=(↑x.1:Int)) ((↑x.1:Int)<aG v.args/\∃(y:QV),aK m h b (bL o x.1 21) y.enc/\rB (λf p=>∃(c:Int),aA (cE y.enc (cT (jA x.2) 24)=cE f.enc (cT (jA c) 24)) (dO h p f) (aA (yI p N) (cN c) (c<=24/\∃(d:Nat×Int),aA (I d) (e d<e x) (aA (dA (u0 p c) d.2) (fI 24) (aA j8 (iH (bE x.1 1)=bP d.1) (aA (fU v) (m=m) (bU h h)))))))))) (K (jA x.2) m h)) (K (jA x.2) m h)
abbrev wG(a:QV):=bI a.args
attribute [push_cast] wG
def Uj(N:Nat)(v:QV)(k:Nat)(m:MH)(h:PH)(K:cq):=
  fC (↑k:Int) 0 (K jF m h) (nI (λI x=>aA (I x) (eQ (bP k)) (aA iS (wG v) (aA (bA x) (fU v) (aA (m=m) (h=h) True)))) (λI e x=>I x->aY (↑x:Int) (aG v.args) (bK (λb o=>aA (aR v.args.a b o) (0<=(↑x:Int)) ((↑x:Int)<aG v.args/\∃(y:QV),aK m h b (bL o x 21) y.enc/\rB (λf p=>∃(c:Nat),aA (cT (cM y) (iF ((↑k:Int)-1))=cT (cM f) (↑c:Int)) (dO h p f) (aA (yI p N) (c<=100) (branch (uV p c) (K jF m h) (∃(d:Nat),aA (I d) (e d<e x) (aA (eQ (bP k)) iS (aA (bI v.args) (iH (bE x 1)=bP d) (aA (fU v) (m=m) (bU h h))))))))))) (K bD m h)))
def XL(N:Nat)(v:QV)(m:MH)(h:PH)(K:cq):=
  rB (λe p=>∃(k:Int),aA (cE v.enc (cT (jA 0) 24)=cE e.enc (cT (jA k) 24)) (dO h p e) (aA (yI p N) (cN k) (gX (k<=24) (decide (u0 p k<=24)) (rB (λf c=>∃(d:Nat),aA (cT (cM v) 8=cT (cM f) (↑d:Int)) (dO h c f) (aA (yI c N) (d<=100) (K (CV.val (Value.bool (!(uV c d)))) m h)))) (K bD m h))))
def Ui(op:Int)(m:MH)(h:PH)(K:cq):=
  dQ (op==1) (K (jA 0) m h) (op==2) (K (jA 1) m h) (dQ (op==3) (K (jA 1) m h) (op==9) (K (jA 1) m h) (dQ (op==4) (K (jA 2) m h) (op==5) (K (jA 2) m h) (dQ (op==6) (K (jA 2) m h) (op==7) (K (jA 2) m h) (dQ (op==8) (K (jA 2) m h) (op==10) (K (jA 2) m h) (K (jA (Int.negSucc 0)) m h)))))
def TO(s:Sl)(n:Int)(m:MH)(h:PH)(K:cq):=
  iO n 0 (K (Aw (decide (n<aG s))) m h) (K bD m h)
theorem Yt:∀N,cm 124 (V6 N)
 |0=>by
  refine fW (fn:=Tryz.f124) (c:=eD Tryz.f124) func124 rfl az ?_;rintro y m h K ⟨v,p,k,rfl,D,F,_⟩;omega
 |N+1=>by
  refine jC func124 ?_;rintro y m h K ⟨v,p,k,rfl,D,F,J,L,E⟩;refine⟨bPX N v m h,rfl,aE (Yt N) aH,Uk N v k m h K,ax,?_⟩;dsimp only[Uk,push_cast];have d:=D.args;have e:=d.slen;have M:=d.len;refine⟨λx=>x.1<=p.args.length/\0<=x.2/\x.2<=25/\qK (p.args.drop x.1) x.2=u0 p k,λx=>p.args.length-x.1,⟨(0,k+1),⟨ay,bf,bf,?_⟩,?_⟩,?_⟩
  .cases p;simp[u0,Query.args]
  .rw[fL aC aC];exact MT
  rintro⟨i,n⟩ ⟨G,f,z,g⟩;dsimp only at G f z g⊢
  refine aF (λj=>aF (λt=>?_) (λt=>BO E ?_)) (λH=>BO E ?_)
  .obtain⟨q,A⟩:=fK e j;obtain⟨b,o,u,I,B,C⟩:=d.at A;have O:=Kx q n t;rw[drop_cons A,qK,if_pos t]at g;refine⟨b,o,I,aC,j,u,.imm B,u,q,n,rfl,C,?_,f,t,(i+1,u0 q n),⟨aC,aC,aC,g⟩,aC,MT⟩;have:=Dg (bo A);omega
  .rw[<-g,Vj _ t]
  .rw[<-g,drop_of_length_le aC];simp[qK]
theorem Ys:∀N,cm 125 (Sb N)
 |0=>by
  refine fW (fn:=Tryz.f125) (c:=eD Tryz.f125) func125 rfl az ?_;rintro j m h K ⟨v,p,k,rfl,A,D,_⟩;omega
 |N+1=>by
  refine jC func125 ?_;rintro j m h K ⟨v,p,k,rfl,A,D,I,g⟩;refine⟨bPQ N v k m h,rfl,aE (Ys N) aH,Uj N v k m h K,ax,?_⟩;dsimp only[Uj,push_cast];have d:=A.args;have e:=d.slen;have J:=d.len;refine aD (λB=>kR g ?_) (λB=>?_)
  .have:k=0:=bg
   subst this;cases p;simp[uV]
  .have B:k≠0:=bg
   have n:uV p k=p.args.any (uV · (k-1)):=by
    obtain⟨C,rfl⟩:∃C,k=C+1:=⟨k-1,aC⟩
    cases p;simp[uV,LU,Query.args]
   rw[n]at g;refine⟨λi=>i<=p.args.length/\(p.args.take i).any (uV · (k-1))=false,λi=>p.args.length-i,⟨0,⟨aC,ay⟩,MT⟩,λi E=>aF (λf=>?_) (λF=>kR g ?_)⟩
   .obtain⟨q,t⟩:=fK e f;obtain⟨b,o,u,G,y,z⟩:=d.at t;refine⟨b,o,G,aC,f,u,.imm y,u,q,k-1,?_,z,?_,aC,aD (λH=>kR g ?_) (λH=>?_)⟩
    .rw[fL aC aC,show((k-1:Nat):Int)=(k:Int)-1 by omega]
    .have:=Dg (bo t);omega
    .grind
    .refine⟨i+1,⟨aC,?_⟩,bg,MT⟩;rw[cd,any_append,E.2,t];grind
   grind
theorem a9Q:cm 63 aNX:=by
 refine jC func63 ?_;rintro f m h K ⟨v,p,rfl,d,e⟩;refine⟨dK [(124,V6 (SizeOf.sizeOf p+1)),(125,Sb (SizeOf.sizeOf p+1))] [] [] [] false,rfl,aE (Yt _) (aE (Ys _) aH),XL (SizeOf.sizeOf p+1) v m h K,ax,?_⟩;dsimp only[XL,push_cast];refine⟨v,p,0,rfl,d,aC,aC,aC,aD (λc=>⟨v,p,8,rfl,d,aC,aC,kR e ?_⟩) (λc=>kR e ?_)⟩
 .simp only[tT,c,Bool.true_and]
 .simp only[tT,c,Bool.false_and]
theorem RD:cm 126 Se:=by
 refine jC func126 ?_;rintro d m h K ⟨op,rfl,c⟩;refine⟨dK [] [] [] [] false,rfl,aH,Ui op m h K,ax,?_⟩;dsimp only[Ui,push_cast]
 repeat' (first|(refine aD (λ_=>?_) (λ_=>?_))|(refine BO c ?_;simp only[arity];simp only[*,Bool.or_false,Bool.false_or,Bool.or_true,Bool.true_or,Bool.and_true,Bool.true_and,Bool.and_false,Bool.false_and,Bool.not_true,Bool.not_false,Bool.false_eq_true,if_true,if_false, ↓reduceIte];done)|(refine BO c ?_;simp only[arity];grind))
theorem JS:cm 175 InS:=by
 refine jC func175 ?_;rintro e m h K ⟨s,l,n,rfl,f,d⟩;refine⟨dK [] [] [] [] false,rfl,aH,TO s n m h K,ax,?_⟩;dsimp only[TO,push_cast];have g:=f.slen;refine aF (λc=>kR d ?_) (λc=>kR d ?_)
 .have c:0<=n:=c;simp only[C0,g,decide_eq_true c,Bool.true_and]
 .have c:¬0<=n:=by omega
  simp only[C0,decide_eq_false c,Bool.false_and]
def oB(a b:cn)(c:cu)(p:Int×Int):=C0 a p.1=true/\C0 b p.2=true/\a.getD p.1.toNat 0=b.getD p.2.toNat 0/\∀q∈c,q.1≠p.1/\q.2≠p.2
def GN(a d:cn)(c:Int):=C0 a c=true/\c∉d
def J4(a:cn)(_:cv)(o:Int×Bool):=C0 a o.1=true
structure nT(a:cn)(group:cn)(order:cv)(limit:Int):Prop where
 group_:Good (GN a) group
 order_:Good (J4 a) order
 len_:order.length<=12
 low:0<=limit
 high:limit<=100
def aPJ:Vc.Spec:=λc m h K=>∃s t u on a b,c=[cS s,cS t,cS u]/\jD h s on/\Ints h t a/\Ints h u b/\∀r:Bool,(r=true↔Good (oB a b) on)->K (cB r) m h
def aPX:Vc.Spec:=λc m h K=>∃v t g o a,c=[aQ v,cS t]/\Ints h v.group g/\jP h v.order o/\Ints h t a/\∀r:Bool,(r=true↔nT a g o v.limit)->K (cB r) m h
noncomputable def bIZ s t u m h:=
 dK [(175,InS)] [(2,{A:=Nat,st:=λi=>bY 66 69 [(0,sv s),(1,sv t),(2,sv u),(10,sv s),(11,iv s.len),(12,iv i)] [] m h}),
  (7,{A:=Nat×Nat×(Int×Int),st:=λ⟨i,k,p⟩=>bY 66 69 [(0,sv s),(1,sv t),(2,sv u),(7,iv i),(8,.at (.ptr 8 0)),(9,iv k),(10,sv s),(11,iv s.len),(12,iv i)] [(8,.cells 130 [.val (.int .i64 p.1),.val (.int .i64 p.2)])] m h})] [] [] false
noncomputable def bIX(v:QV)(t:Sl)(m:MH)(h:PH):=
 dK [(175,InS)] [(2,{A:=Nat,st:=λi=>bY 62 64 [(1,sv t),(2,.at (.ptr 2 0)),(11,sv v.group),(12,iv v.group.len),(13,iv i)] [(2,.cells 41 (v.enc.map .val))] m h}),
  (7,{A:=Nat×Nat×Int,st:=λ⟨i,k,c⟩=>bY 62 64 [(1,sv t),(2,.at (.ptr 2 0)),(5,iv i),(6,iv c),(7,iv k),(11,sv v.group),(12,iv v.group.len),(13,iv i)] [(2,.cells 41 (v.enc.map .val))] m h}),
  (13,{A:=Nat,st:=λi=>bY 62 64 [(1,sv t),(2,.at (.ptr 2 0)),(36,sv v.order),(37,iv v.order.len),(38,iv i)] [(2,.cells 41 (v.enc.map .val))] m h})] [] [] false
abbrev j3 a b:=cT (nW a) b
abbrev Ia(a:Sl)(b:Int)(c:Nat->Nat->Option Value)(d:cn->Int->Prop):=rY (λx e=>∃(f:Int),aA (j3 a b=j3 x f) (Ints c x e) (d e f))
abbrev iT:=eP 8
abbrev F5 a b:=oQ 130 a=oQ 130 b
abbrev xS(a:Int×Int):=pA (kL a.1) (kL a.2)
attribute [push_cast] j3 Ia iT F5 xS
def TN(s t u:Sl)(m:MH)(h:PH)(K:cq):=
  nI (λI x=>aA (I x) (aI s) (aA (aI t) (aI u) (aA (aI s) (bI s) (aA (bA x) (m=m) (bU h h))))) (λI e x=>I x->aY (↑x:Int) (aG s) (bK (λb o=>aA (aR s.a b o) (0<=(↑x:Int)) ((↑x:Int)<aG s/\∃(y:Int×Int),aA (aK m h b (bL o x 2) (vZ y)) ((0:Int)<=0) ((0:Int)<2/\Ia t y.1 h (λl n=>pI (C0 l n) (K bD m h) (aA (cN 1) ((1:Int)<2) (Ia u y.2 h (λL M=>pI (C0 L M) (K bD m h) (aA (cN 0) ((0:Int)<2) (bK (λf g=>aA (aR t.a f g) (0<=y.1) (y.1<aG t/\∃(j:Int),aA (aK m h f (gH g y.1 1) (bC j)) ((0:Int)<=1) ((1:Int)<2/\bK (λz A=>aA (aR u.a z A) (0<=y.2) (y.2<aG u/\∃(B:Int),aK m h z (gH A y.2 1) (bC B)/\dR j B (K bD m h) (∃(I1:Nat×Nat×
 Int×Int->Prop)(C:Nat×Nat×Int×Int->Nat),(∃(c:Nat×Nat×Int×Int),aA (I1 c) (aI s) (aA (aI t) (aI u) (aA (cJ x c.1) iT (aA (bA c.2.1) (aI s) (aA (bI s) (cJ x c.1) (aA (F5 (xS y) (xS c.2.2)) (m=m) (bU h h)))))))/\∀(c:Nat×Nat×Int×Int),I1 c->aY (↑c.2.1:Int) (↑c.1:Int) (bK (λD E=>aA (aR s.a D E) (cN (↑c.2.1:Int)) (aA ((↑c.2.1:Int)<aG s) (cN 0) ((0:Int)<2/\∃(F:Int),aA (aK m h D (bL E c.2.1 2+0) (bC F)) ((0:Int)<=0) ((0:Int)<2/\fC F c.2.2.1 (K bD m h) (bK (λG H=>aA (aR s.a G H) (cN (↑c.2.1:Int)) (aA ((↑c.2.1:Int)<aG s) (cN 1) ((1:Int)<2/\∃(J:Int),aA (aK m h G (bL H c.2.1 2+1) (bC J)) ((0:Int)<=1) ((1:Int)<2/\fC J
 c.2.2.2 (K bD m h) (∃(d:Nat×Nat×Int×Int),aA (I1 d) (C d<C c) (aA (aI s) (aI t) (aA (aI u) (cJ c.1 d.1) (aA iT (iH (bE c.2.1 1)=bP d.2.1) (aA (aI s) (bI s) (aA (cJ c.1 d.1) (F5 (xS c.2.2) (xS d.2.2)) (eM m m h h))))))))))))))))) (∃(d:Nat),aA (I d) (e d<e x) (aA (aI s) (aI t) (aA (aI u) (aI s) (aA (bI s) (iH (bE c.1 1)=bP d) (eM m m h h))))))))))))))))))))) (K jF m h))
def TM(v:QV)(t:Sl)(m:MH)(h:PH)(K:cq):=
  nI (λI x=>aA (I x) (aI t) (aA (eP 2) (aI v.group) (aA (bI v.group) (bA x) (aA (fU v) (m=m) (bU h h))))) (λI f x=>I x->aY (↑x:Int) (aG v.group) (bK (λb o=>aA (aR v.group.a b o) (0<=(↑x:Int)) ((↑x:Int)<aG v.group/\∃(y:Int),aK m h b (bL o x 1) (bC y)/\Ia t y h (λl n=>pI (C0 l n) (K bD m h) (∃(I1:Nat×Nat×Int->Prop)(e:Nat×Nat×Int->Nat),(∃(c:Nat×Nat×Int),aA (I1 c) (aI t) (aA (eP 2) (cJ x c.1) (aA (dA y c.2.2) (bA c.2.1) (aA (aI v.group) (bI v.group) (aA (cJ x c.1) (fU v) (aA (m=m) (h=h) True))))))/\∀(c:Nat×Nat×Int),I1 c->aY (↑c.2.1:Int) (↑c.1:Int) (bK (λg j=>aA (aR v.group.a g j) (0<=(↑c.2.1:Int)) ((↑c.2.1:Int)<aG v.group/\∃(u:Int),aK m h g
 (bL j c.2.1 1) (bC u)/\fC u c.2.2 (K bD m h) (∃(d:Nat×Nat×Int),aA (I1 d) (e d<e c) (aA (aI t) iS (aA (cJ c.1 d.1) (dA c.2.2 d.2.2) (aA (iH (bE c.2.1 1)=bP d.2.1) (aI v.group) (aA (bI v.group) (cJ c.1 d.1) (aA (fU v) (m=m) (bU h h)))))))))) (∃(d:Nat),aA (I d) (f d<f x) (aA (aI t) iS (aA (aI v.group) (bI v.group) (aA (iH (bE c.1 1)=bP d) (fU v) (eM m m h h)))))))))) (nI (λI1 c=>aA (I1 c) (aI t) (aA (eP 2) (aI v.order) (aA (bI v.order) (bA c) (aA (fU v) (m=m) (bU h h))))) (λI1 e c=>I1 c->aY (↑c:Int) (aG v.order) (bK (λb o=>aA (aR v.order.a b o) (0<=(↑c:Int)) ((↑c:Int)<aG v.order/\∃(y:Int×Bool),aK m h b (bL o c 2) (Bi y)/\Ia t y.1 h
 (λl n=>pI (C0 l n) (K bD m h) (∃(d:Nat),aA (I1 d) (e d<e c) (aA (aI t) iS (aA (aI v.order) (bI v.order) (aA (iH (bE c 1)=bP d) (fU v) (eM m m h h))))))))) (branch (decide (aG v.order<=12)) (iO v.limit 0 (K (Aw (decide (v.limit<=100))) m h) (K bD m h)) (K bD m h)))))
theorem QL{α}{l:List α}{k x}(hx:l[i]? =some x)(c:i<k):x∈l.take k:=mem_of_getElem? (i:=i) bg
theorem Wt{α}{l:List α}{x y}(hx:l[i]? =some x)(c:y∈l.take (i+1)):y∈l.take i\/y=x:=by
 rw[cd,hx,mem_append]at c
 grind
theorem fH{n}:C0 l n=true↔0<=n/\n<l.length:=by simp[C0]
theorem ahQ:cm 176 aPJ:=by
 refine jC func176 ?_;rintro S m h K ⟨s,t,u,on,a,b,rfl,n,o,y,F⟩;refine⟨bIZ s t u m h,rfl,aE JS aH,TN s t u m h K,ax,?_⟩;dsimp only[TN,push_cast];have T:=n.slen;have G:=n.len;have ta:=o.slen;have ub:=y.slen;refine⟨λi=>i<=on.length/\gY (oB a b) on i,λi=>on.length-i,⟨0,⟨aC,.zero⟩,MT⟩,λi⟨hi,H⟩=>aF (λf=>?_) (λU=>F true ⟨λ_=>H.all aC,λ_=>rfl⟩)⟩;obtain⟨p,z⟩:=fK T f;obtain⟨V,W,X,Y⟩:=n.at z;have bad:¬oB a b (on.take i) p->K (.val (.bool false)) m h:=λZ=>F false ⟨λe=>(by cases e),λe=>(Good.not z Z e).elim⟩;refine⟨V,W,X,aC,f,p,.imm Y,aC,aC,t,a,p.1,rfl,o,aD (λA=>bad λc=>?_) (λA=>⟨aC,aC,u,b,p.2,rfl,y,aD (λB=>bad λc=>?_) (λB=>?_)⟩)⟩
 .rw[c.1]at A;cases A
 .rw[c.2.1]at B;cases B
 have I:C0 a p.1=true:=bg
 have J:C0 b p.2=true:=bg
 have g:=fH.1 I;have j:=fH.1 J;obtain⟨b2,o2,e2,r2⟩:=o.inb g.1 g.2;obtain⟨b3,o3,e3,r3⟩:=y.inb j.1 j.2;refine⟨aC,aC,b2,o2,e2,aC,aC,_,.imm r2,aC,aC,b3,o3,e3,aC,aC,_,.imm r3,aD (λC=>bad λc=>?_) (λC=>?_)⟩
 .rw[c.2.2.1]at C;simp at C
 refine⟨λ⟨i',k,p'⟩=>i'=i/\p'=p/\k<=i/\∀q∈on.take k,q.1≠p.1/\q.2≠p.2,λ⟨_,k,_⟩=>i-k,⟨(i,0,p),⟨rfl,rfl,aC,λq d=>by simp at d⟩,MT⟩,?_⟩;rintro⟨i,k,p⟩ ⟨rfl,rfl,hk,D⟩;dsimp only;refine aF (λL=>?_) (λM=>?_)
 .obtain⟨q,d⟩:∃q,on[k]? =some q:=⟨on[k]'(by omega),bn _⟩
  obtain⟨O,P,Q,R⟩:=n.at d;refine⟨O,P,Q,aC,aC,aC,aC,q.1,.imm (cO.part R 0 1),aC,aC,aD (λh4=>bad λc=>?_) (λh4=>⟨O,P,Q,aC,aC,aC,aC,q.2,.imm (cO.part R 1 1),aC,aC,aD (λh5=>bad λc=>?_) (λh5=>?_)⟩)⟩
  .exact(c.2.2.2 q (QL d aC)).1 bg
  .exact(c.2.2.2 q (QL d aC)).2 bg
  .refine⟨(i,k+1,p),⟨rfl,rfl,bg,λq' E=>?_⟩,bg,MT⟩;rcases Wt d E with e|rfl
   .grind
   grind
 .have:k=i:=by omega
  subst this;exact⟨k+1,⟨aC,H.succ z ⟨I,J,bg,D⟩⟩,aC,MT⟩
theorem agJ:cm 177 aPX:=by
 refine jC func177 ?_;rintro V m h K ⟨v,t,g,o,a,rfl,C,D,L,M⟩;refine⟨bIX v t m h,rfl,aE JS aH,TM v t m h K,ax,?_⟩;dsimp only[TM,push_cast];have W:=C.slen;have O:=C.len;have X:=D.slen;have P:=D.len;have bad:¬nT a g o v.limit->K (.val (.bool false)) m h:=λY=>M false ⟨λe=>(by cases e),λe=>(Y e).elim⟩;refine⟨λi=>i<=g.length/\gY (GN a) g i,λi=>g.length-i,⟨0,⟨aC,.zero⟩,MT⟩,λi⟨Q,u⟩=>aF (λd=>?_) (λy=>?_)⟩
 .obtain⟨c,n⟩:=fK W d;obtain⟨E,F,G,H⟩:=C.at' n;refine⟨E,F,G,aC,d,c,.imm H,t,a,c,rfl,L,aD (λf=>bad λj=>Good.not n (λz=>?_) j.group_) (λf=>?_)⟩
  .rw[z.1]at f;cases f
  refine⟨λ⟨Z,k,c'⟩=>Z=i/\c'=c/\k<=i/\c∉g.take k,λ⟨_,k,_⟩=>i-k,⟨(i,0,c),⟨rfl,rfl,aC,ay⟩,MT⟩,?_⟩;rintro⟨i,k,c⟩ ⟨rfl,rfl,hk,A⟩;dsimp only;refine aF (λR=>?_) (λS=>?_)
  .obtain⟨q,I⟩:∃q,g[k]? =some q:=⟨g[k]'(by omega),bn _⟩
   obtain⟨b4,o4,e4,r4⟩:=C.at' I;refine⟨b4,o4,e4,aC,aC,q,.imm r4,aD (λT=>bad λj=>Good.not n (λz=>?_) j.group_) (λT=>?_)⟩
   .refine z.2 ?_;have:q=c:=bg
    rw[<-this];exact QL I aC
   .refine⟨(i,k+1,c),⟨rfl,rfl,bg,λJ=>?_⟩,bg,MT⟩;rcases Wt I J with e|rfl
    .exact A e
    .simp at T
  .have:k=i:=by omega
   subst this;exact⟨k+1,⟨aC,u.succ n ⟨bg,A⟩⟩,aC,MT⟩
 have gg:=u.all aC;clear Q u y;refine⟨λi=>i<=o.length/\gY (J4 a) o i,λi=>o.length-i,⟨0,⟨aC,.zero⟩,MT⟩,λi⟨Q,B⟩=>aF (λd=>?_) (λy=>?_)⟩
 .obtain⟨c,n⟩:=fK X d;obtain⟨E,F,G,H⟩:=D.at n;refine⟨E,F,G,aC,d,c,.imm H,t,a,c.1,rfl,L,aD (λf=>bad λj=>Good.not n (λz=>?_) j.order_) (λf=>⟨i+1,⟨aC,B.succ n (by simpa[J4]using f)⟩,bg,MT⟩)⟩;rw[show C0 a c.1=true from z]at f;cases f
 have oo:=B.all aC;refine aF (λf=>aF (λU=>?_) (λU=>bad λj=>?_)) (λf=>bad λj=>?_)
 .refine M (decide (v.limit<=100)) ⟨λe=>⟨gg,oo,aC,U,bk e⟩,λe=>decide_eq_true e.high⟩
 .have:=j.low;omega
 .have:=j.len_;omega
def gG:Pred:=.mk 0 0 gL gL []
def cY:Query->Prop
 |.mk op ta w co on gr od li _=>(op=1\/ta=0)/\(op=2\/w=gG)/\(op=3\/co=[])/\(op=4\/op=5\/on=[])/\(op=9\/op=10\/(gr=[]/\od=[]/\li=0))
def nO(l:cn):cn×Int:=if l.length<=12 then(l,0)else([],2)
def eJ(e:Int):cn×Int:=([],e)
open Classical in
noncomputable def eZ(s:jZ)(ps:cn)(q:Query)(a b:cn):cn×Int:=
 if arity (match q with|.mk op .. =>op)<0\/¬cY q then eJ 100 else
 match q with
 |.mk op ta w co on gr od li _=>
  if op=1 then(if 0<=ta/\ta<s.tables.length then nO (kH s ta)else eJ 100)
  else if op=2 then(if iP a ps w=0 then nO a else eJ (iP a ps w))
  else if op=3 then(if co≠[]/\Good (λ_ c=>C0 a c=true) co then nO (co.map λc=>a.getD c.toNat 0)else eJ 100)
  else if op=4 then(if Good (oB a b) on then nO (a++b)else eJ 100)
  else if op=5 then(if Good (oB a b) on then nO a else eJ 100)
  else if op=9 then(if nT a gr od li then nO a else eJ 100)
  else if op=10 then(if a=b/\nT a gr od li then nO a else eJ 100)
  else(if a=b then nO a else eJ 100)
def aMZ:Vc.Spec:=λc m h K=>∃v q,c=[aQ v]/\dO h q v/\∀r:Bool,(r=true↔cY q)->K (cB r) m h
def KR(K:cq)(m:MH)(h:PH)(r:cn×Int):=∀c h',PH.le h h'->Ints h' c r.1->K (.tup [cS c,cI r.2]) m h'
def cEZ:=λc m h K=>∃sc p v a b s ps q d e,c=[aS sc,cS p,aQ v,cS a,cS b]/\iU h s sc/\oM s/\Ints h p ps/\dO h q v/\Ints h a d/\Ints h b e/\d.length<=12/\e.length<=12/\KR K m h (eZ s ps q d e)
noncomputable def bOJ m:=
 dK [(126,Se),(174,aMZ),(45,xL),(66,vJ),(175,InS),(176,aPJ),(177,aPX),(178,Dw)] [(20,{A:=Nat×Sl×Sl×cn×PH,st:=λ⟨i,a,co,l,h⟩=>bY 121 126 [(3,sv a),(12,.at (.lst 94)),(78,sv co),(79,iv co.len),(80,iv i)] [(94,.lst 3 1 (l.map eI))] m h})] [] [] false
noncomputable def bIJ(v:QV)(m:MH)(h:PH):=
 c1J [(224,cAQ)] [] [(2,{A:=Bool,st:=λr=>bY 78 79 [(1,.at (.ptr 1 0)),(3,bv r)] [(1,.cells 41 (v.enc.map .val))] m h})] [(2,[(9,{A:=Bool×Bool,st:=λx=>bY 78 79 [(1,.at (.ptr 1 0)),(3,bv x.1),(20,bv x.2)] [(1,.cells 41 (v.enc.map .val))] m h}),
  (11,{A:=Bool×Bool,st:=λx=>bY 78 79 [(1,.at (.ptr 1 0)),(3,bv x.1),(31,bv x.2)] [(1,.cells 41 (v.enc.map .val))] m h}),
  (11,{A:=Bool×Bool,st:=λx=>bY 78 79 [(1,.at (.ptr 1 0)),(3,bv x.1),(42,bv x.2)] [(1,.cells 41 (v.enc.map .val))] m h}),
  (16,{A:=Bool×Bool,st:=λx=>bY 78 79 [(1,.at (.ptr 1 0)),(3,bv x.1),(58,bv x.2)] [(1,.cells 41 (v.enc.map .val))] m h})])] [] false
abbrev kN a b:=sQb a=sQb b
abbrev yL a:=kN true a
abbrev K6(a:Prop)(b:(Bool×Bool->Prop)->Prop)(c:(Bool×Bool->Prop)->(Bool×Bool)->Prop):=a->∃(x:Bool×Bool->Prop),b x/\∀(d:Bool×Bool),c x d
abbrev gW:=pD pF
abbrev H9(a:Bool×Bool->Prop)(b:Bool×Bool)(c:(Bool×Bool)->Prop)(d:QV)(e:MH)(g:PH):=∃(x:Bool×Bool),aA (a x) fB (aA (kN b.1 x.1) (c x) (dJ (fU d) e e g g))
abbrev B6 a:=kN false a
attribute [push_cast] kN yL K6 gW H9 B6
def TP(v:QV)(m:MH)(h:PH)(K:cq):=
  ∃(I:Bool->Prop),fC v.op 9 (∃(x:Bool),aA (I x) fB (aA (yL x) (fU v) (eM m m h h))) (∃(x:Bool),aA (I x) fB (aA (kN (v.op==10) x) (fU v) (eM m m h h)))/\∀(x:Bool),K6 (I x) (λI1=>fC v.op 1 (∃(e:Bool×Bool),aA (I1 e) fB (aA (kN x e.1) (yL e.2) (dJ (fU v) m m h h))) (∃(e:Bool×Bool),aA (I1 e) fB (aA (kN x e.1) (kN (v.table==0) e.2) (dJ (fU v) m m h h)))) (λI1 e=>K6 (I1 e) (λI2=>branch e.2 (fC v.op 2 (∃(d:Bool×Bool),aA (I2 d) fB (aA (kN e.1 d.1) (yL d.2) (dJ (fU v) m m h h))) (K5 (λg w p q=>aA (eU v.where_.enc (jO (bG bF bF (bG bF bF (bG bF bF (bG vQz bF (bG bF bF (bG bF vQz gW)))))))=eU g.enc (gR w)) (fP h p g)
 (fP h q w/\∀(r:Bool),(iX r↔p=q)->H9 I2 e (λd=>kN r d.2) v m h)))) (∃(d:Bool×Bool),aA (I2 d) fB (aA (kN e.1 d.1) (B6 d.2) (dJ (fU v) m m h h)))) (λI2 d=>K6 (I2 d) (λI3=>branch d.2 (fC v.op 3 (∃(c:Bool×Bool),aA (I3 c) fB (aA (kN d.1 c.1) (yL c.2) (dJ (fU v) m m h h))) (H9 I3 d (λc=>kN (aG v.columns==0) c.2) v m h)) (∃(c:Bool×Bool),aA (I3 c) fB (aA (kN d.1 c.1) (B6 c.2) (dJ (fU v) m m h h)))) (λI3 c=>K6 (I3 c) (λI4=>branch c.2 (dQ (v.op==4) (H9 I4 c (λf=>yL f.2) v m h) (v.op==5) (H9 I4 c (λf=>yL f.2) v m h) (H9 I4 c (λf=>kN (aG v.on==0) f.2) v m h)) (∃(f:Bool×Bool),aA (I4 f) fB (aA (kN c.1 f.1) (B6 f.2)
 (dJ (fU v) m m h h)))) (λI4 f=>gS (I4 f) f.2 (dQ f.1 (K jF m h) (aG v.group==0) (fC (aG v.order) 0 (K (Aw (v.limit==0)) m h) (K bD m h)) (K bD m h)) (K bD m h)))))
abbrev cG(a:cq)(b:Int)(c:MH)(d:PH):=a (CV.tup (cT EH b)) c d
abbrev dL(a:Sl):=Sl.mk a.a a.len a.cap
abbrev nN(a:List cr):=(↑a.length:Int)
abbrev uK(a:Nat->Nat->Option Value)(b:List cr)(c:cq)(d:Nat->Option Obj):=cK a 1 b (λx e=>c (CV.tup (cT (nW x) 0)) d e)
abbrev Bc(a:Nat×Sl×Sl×cn×PH):=a.2.2.1
abbrev Bd(a:Nat×Sl×Sl×cn×PH):=a.2.2.2.2
abbrev Il(a:Nat×Sl×Sl×cn×PH):=iL a.2.2.2.1
abbrev sQ(a b:List cr)(c:Nat):=jN (kB a b.length) c
abbrev sR(a b:List cr):=oK (kB a b.length)
abbrev QB(a:Sl->cn->cv->Prop):=rY (λx c=>∃(d:cv),a x c d)
abbrev lT a b:=tN (cM a) (nW b)
attribute [push_cast] cG dL nN uK Bc Bd Il sQ sR QB lT
def Ns sc p v a b m h K:=
  ∃(o:Int),mG v.op o/\aY (arity o) 0 (cG K 100 m h) (rB (λC q=>aA (eY (cM v) (cM C)) (dO h q C) (∀(r:Bool),gS (iX r↔cY q) (!r) (cG K 100 m h) (∃(y:List cr),aA (gC 1 y) (dH h (dL a) 1 y) (aA (jN y.length 8) (oK y.length) (dQ (v.op==1) (aY v.table 0 (cG K 100 m h) (iO v.table (kM sc) (cG K 100 m h) (Cr (cT (jO (cC sc)) v.table) h (λs D=>gA (aG s) 12 (cG K 2 m D) (K (CV.tup (cT (nW s) 0)) m D))))) (v.op==2) (KM (dC a (gO p (gR v.where_))) h (λc E F=>qC (iP c E F !=0) (cG K (iP c E F) m h) (nN y) 12 (cG K 2 m h) (uK h y K m))) (dQ (v.op==3) (fC (aG v.columns) 0 (cG K 100 m h) (∃(I:Nat×Sl×Sl×cn×PH->Prop)(G:Nat×Sl×Sl×cn×PH
 ->Nat),(∃(x:Nat×Sl×Sl×cn×PH),aA (I x) (aW a x.2.1) (aA (eL 94) (aW v.columns (Bc x)) (aA (bN v.columns (Bc x)) (bA x.1) (aA (sU x.2.2.2.1) (m=m) (bU h (Bd x))))))/\∀(x:Nat×Sl×Sl×cn×PH),I x->aY (↑x.1:Int) (aG (Bc x)) (bK (λj e=>aA (aR (Bc x).a j e) (0<=(↑x.1:Int)) ((↑x.1:Int)<aG (Bc x)/\∃(d:Int),aK m (Bd x) j (bL e x.1 1) (bC d)/\Ia x.2.1 d (Bd x) (λl n=>pI (C0 l n) (cG K 100 m (Bd x)) (bK (λH J=>aA (aR x.2.1.a H J) (0<=d) (d<aG x.2.1/\∃(L:Int),aA (aK m (Bd x) H (gH J d 1) (bC L)) (A5 (Il x)) (eA (Il x)/\∃(B:Nat×Sl×Sl×cn×PH),aA (I B) (G B<G x) (aA (aW x.2.1 B.2.1) (eL 94) (aA (aW (Bc
 x) (Bc B)) (bN (Bc x) (Bc B)) (aA (iH (bE x.1 1)=bP B.1) (lW (dP (Il x) (bC L)) B.2.2.2.1) (eM m m (Bd x) (Bd B))))))))))))) (gA (nN (Il x)) 12 (cG K 2 m (Bd x)) (uK (Bd x) (Il x) K m)))) (v.op==4) (rC (λs t=>Dl (λu e=>FE (λz j=>aA (dC v.on (cD a b)=dC s (cD t u)) (jD h s e) (aA (Ints h t z) (Ints h u j) (∀(f:Bool),(iX f↔Good (oB z j) e)->dQ (!f) (cG K 100 m h) (v.op==4) (∃(d:List cr),aA (gC 1 d) (dH h (dL b) 1 d) (aA (sQ y d 8) (sR y d) (gA (nN (y++d)) 12 (cG K 2 m h) (uK h (y++d) K m)))) (gA (nN y) 12 (cG K 2 m h) (uK h y K m)))))))) (dQ (v.op==5) (rC (λs t=>Dl (λu e=>FE (λz j=>
 aA (dC v.on (cD a b)=dC s (cD t u)) (jD h s e) (aA (Ints h t z) (Ints h u j) (∀(f:Bool),(iX f↔Good (oB z j) e)->dQ (!f) (cG K 100 m h) (v.op==4) (∃(d:List cr),aA (gC 1 d) (dH h (dL b) 1 d) (aA (sQ y d 8) (sR y d) (gA (nN (y++d)) 12 (cG K 2 m h) (uK h (y++d) K m)))) (gA (nN y) 12 (cG K 2 m h) (uK h y K m)))))))) (v.op==9) (∃(A:QV),QB (λt g e=>∃(z:cn),aA (lT v a=lT A t) (Ints h A.group g) (aA (jP h A.order e) (Ints h t z) (∀(f:Bool),(iX f↔nT z g e A.limit)->qC (!f) (cG K 100 m h) (nN y) 12 (cG K 2 m h) (uK h y K m))))) (DU a b h (λz j f=>(iX f↔z=j)->dQ (!f) (cG K 100 m h) (v.op==10) (∃(A:QV),QB (λt g e=>∃(M:
 cn),aA (lT v a=lT A t) (Ints h A.group g) (aA (jP h A.order e) (Ints h t M) (∀(O:Bool),(iX O↔nT M g e A.limit)->qC (!O) (cG K 100 m h) (nN y) 12 (cG K 2 m h) (uK h y K m))))) (gA (nN y) 12 (cG K 2 m h) (uK h y K m))))))))))))
theorem EW{α n}{l:List α}(h:n=l.length):((n:Int)==0)=true↔l=[]:=by
 rw[beq_iff_eq,h, <-length_eq_zero_iff];omega
theorem Fq h:fP h gG ⟨0,0,gL,gL,⟨none,0,0⟩⟩:=fP.mk (v:=⟨0,0,gL,gL,⟨none,0,0⟩⟩) (.nil _ _ _ _)
theorem ahX:cm 174 aMZ:=by
 refine jC func174 ?_;rintro o m h K ⟨v,q,rfl,t,g⟩;refine⟨bIJ v m h,rfl,aE ZY aH,TP v m h K,ax,?_⟩;dsimp only[TP,push_cast];obtain⟨op,ta,w,co,on,gr,od,li,args⟩:=q;have a:=t.parts;have u:=a.op_;have y:=a.table_;have z:=a.limit_;have D:=EW a.columns_.slen;have E:=EW a.on_.slen;have F:=EW a.group_.slen;have G:=EW a.order_.slen;simp only[cY]at g;subst u y z;refine⟨λr=>(r=true↔v.op=9\/v.op=10),aD (λd=>⟨true,bg,MT⟩) (λd=>⟨_,?_,MT⟩),λr j=>?_⟩
 .grind
 refine⟨λx=>x.1=r/\(x.2=true↔(v.op=1\/v.table=0)),aD (λd=>⟨(r,true),⟨rfl,bg⟩,MT⟩) (λd=>⟨(r,_),⟨rfl,?_⟩,MT⟩),?_⟩
 .grind
 rintro⟨r,c⟩ ⟨rfl,e⟩;dsimp only at e j⊢
 refine⟨λx=>x.1=r/\(x.2=true↔(v.op=1\/v.table=0)/\(v.op=2\/w=gG)),aD (λd=>aD (λf=>⟨(r,true),⟨rfl,⟨λ_=>⟨e.1 d,.inl bg⟩,λ_=>rfl⟩⟩,MT⟩) (λf=>⟨v.where_,⟨0,0,gL,gL,⟨none,0,0⟩⟩,w,gG,rfl,a.where_,Fq h,λA B=>⟨(r,A),⟨rfl,?_⟩,MT⟩⟩)) (λd=>⟨(r,false),⟨rfl,?_⟩,MT⟩),?_⟩
 .grind
 .grind
 clear e c;rintro⟨r,c⟩ ⟨rfl,e⟩;dsimp only at e j⊢
 refine⟨λx=>x.1=r/\(x.2=true↔(v.op=1\/v.table=0)/\(v.op=2\/w=gG)/\(v.op=3\/co=[])),aD (λd=>aD (λf=>⟨(r,true),⟨rfl,⟨λ_=>⟨(e.1 d).1,(e.1 d).2,.inl bg⟩,λ_=>rfl⟩⟩,MT⟩) (λf=>⟨(r,_),⟨rfl,?_⟩,MT⟩)) (λd=>⟨(r,false),⟨rfl,?_⟩,MT⟩),?_⟩
 .grind
 .grind
 clear e c;rintro⟨r,c⟩ ⟨rfl,e⟩;dsimp only at e j⊢
 refine⟨λx=>x.1=r/\(x.2=true↔(v.op=1\/v.table=0)/\(v.op=2\/w=gG)/\(v.op=3\/co=[])/\(v.op=4\/v.op=5\/on=[])),aD (λd=>aD (λf=>⟨(r,true),⟨rfl,⟨λ_=>⟨(e.1 d).1,(e.1 d).2.1,(e.1 d).2.2,.inl bg⟩,λ_=>rfl⟩⟩,MT⟩) (λf=>aD (λn=>⟨(r,true),⟨rfl,⟨λ_=>⟨(e.1 d).1,(e.1 d).2.1,(e.1 d).2.2,.inr (.inl bg)⟩,λ_=>rfl⟩⟩,MT⟩) (λn=>⟨(r,_),⟨rfl,?_⟩,MT⟩))) (λd=>⟨(r,false),⟨rfl,?_⟩,MT⟩),?_⟩
 .grind
 .grind
 clear e c;rintro⟨r,c⟩ ⟨rfl,e⟩;dsimp only at e j⊢
 refine aD (λd=>aD (λf=>g true ⟨λ_=>?_,λ_=>rfl⟩) (λf=>aD (λn=>aD (λC=>g _ ?_) (λC=>g false ?_)) (λn=>g false ?_))) (λd=>g false ?_)
 .grind
 .grind
 .grind
 .grind
 .grind
theorem BM(l:cn):gC 1 (l.map eI):=by
 constructor
 .intro e c;obtain⟨x,_,rfl⟩:=mem_map.1 c;rfl
 .intro e c u d;obtain⟨x,_,rfl⟩:=mem_map.1 c;simp[eI]at d;subst d;rfl
theorem KR.err{r e}(d:KR K m h r)(c:PH.le h h')(f:r=eJ e):K (.tup [.val (.slice none 0 0),.val (.int .i64 e)]) m h':=by
 subst f;exact d ⟨none,0,0⟩ h' c ⟨.nil _ _,by simp[eJ]⟩
theorem KR.big{r}(d:KR K m h r)(c:PH.le h h')(e:r=nO l)(f:12<l.length):K (.tup [.val (.slice none 0 0),.val (.int .i64 2)]) m h':=
 d.err c (by rw[e,nO,if_neg aC];rfl)
theorem KR.ok{r sl}(d:KR K m h r)(c:PH.le h h')(e:r=nO l)(f:l.length<=12)(g:dH h' sl 1 (l.map eI)):K (.tup [.val (.slice sl.a sl.len sl.cap),.val (.int .i64 0)]) m h':=by
 rw[e,nO,if_pos f]at d;exact d sl h' c ⟨g,bg⟩
theorem cwZ{p a:Sl}{b q n C}(W:iU h s sc)(h8:oM s)(hp:Ints h p ps)(X:dO h q v)(B:Ints h a n)(L:Ints h b C)(Y:n.length<=12)(Z:C.length<=12)(d:KR K m h (eZ s ps q n C)):Ns sc p v a b m h K:=by
 dsimp only[Ns,push_cast];have O:=X;obtain⟨op,ta,w,co,on,gr,od,li,args⟩:=q;have x:=X.parts;have e0:=x.op_;have e1:=x.table_;have e2:=x.limit_;have a0:=W.tables.slen;have a1:=B.slen;have H:=x.columns_.slen;have P:=x.columns_.len;subst e0 e1 e2;refine⟨v.op,rfl,aF (λQ=>d.err (.refl _) ?_) (λQ=>⟨v,_,rfl,O,λr z=>aD (λh2=>d.err (.refl _) ?_) (λh2=>?_)⟩)⟩
 .unfold eZ;rw[if_pos (.inl Q)]
 .unfold eZ;rw[if_pos (.inr λe=>bg)]
 have hu:cY (.mk v.op v.table w co on gr od v.limit args):=z.1 bg;unfold eZ at d;rw[if_neg (λe=>e.elim Q (λe=>e hu))]at d;dsimp only at d;clear z h2;refine⟨n.map eI,BM _,B.row,bf,bf,aD (λo=>?_) (λo=>aD (λy=>?_) (λy=>aD (λA=>?_) (λA=>aD (λD=>?_) (λD=>aD (λE=>?_) (λE=>aD (λI=>?_) (λI=>?_))))))⟩
 .rw[beq_iff_eq]at o;rw[if_pos o]at d;refine aF (λu=>d.err (.refl _) (if_neg aC)) (λu=>aF (λt=>d.err (.refl _) (if_neg aC)) (λt=>⟨sc,s,v.table,rfl,W,h8,λF h' f j=>?_⟩));rw[if_pos aC]at d;have:=j.slen;exact aF (λg=>d.big f rfl aC) (λg=>d.ok f rfl aC j.row)
 .rw[beq_eq_false_iff_ne]at o;rw[beq_iff_eq]at y;rw[if_neg o,if_pos y]at d;refine⟨a,p,v.where_,n,ps,w,rfl,B,hp,x.where_,aD (λu=>d.err (.refl _) (if_neg bg)) (λu=>?_)⟩;rw[if_pos bg]at d;exact aF (λg=>d.big (.refl _) rfl bg) (λg F h' f j=>d.ok f rfl aC j)
 .rw[beq_eq_false_iff_ne]at o y;rw[beq_iff_eq]at A;rw[if_neg o,if_neg y,if_pos A]at d;refine aD (λu=>d.err (.refl _) (if_neg λe=>e.1 ((EW H).1 u))) (λu=>?_);have R:co≠[]:=λe=>bg
  refine⟨λ⟨i,a',S,l,hx⟩=>a'=a/\S=v.columns/\hx=h/\i<=co.length/\l=(co.take i).map (λc=>n.getD c.toNat 0)/\gY (λ_ c=>C0 n c=true) co i,λ⟨i,_,_,_,_⟩=>co.length-i,⟨(0,a,v.columns,[],h),⟨rfl,rfl,rfl,aC,ay,.zero⟩,MT⟩,?_⟩;rintro⟨i,a,_,l,h⟩ ⟨rfl,rfl,rfl,j,rfl,hg⟩;dsimp only;refine aF (λJ=>?_) (λa2=>?_)
  .obtain⟨c,M⟩:=fK H J;obtain⟨b1,o1,T,r1⟩:=x.columns_.at' M;refine⟨b1,o1,T,aC,J,c,.imm r1,a,n,c,rfl,B,aD (λt=>d.err (.refl _) (if_neg λe=>?_)) (λt=>?_)⟩
   .have:=e.2 i c M;grind
   have t:C0 n c=true:=bg
   have g:=fH.1 t;obtain⟨b2,o2,U,r2⟩:=B.inb g.1 g.2;refine⟨b2,o2,U,aC,aC,_,.imm r2,?_,?_,(i+1,a,v.columns,(co.take (i+1)).map (λc=>n.getD c.toNat 0),h),⟨rfl,rfl,rfl,aC,rfl,hg.succ M t⟩,aC,?_⟩
   .simp;omega
   .simp;omega
   .rw[kA M,bu];exact MT
  .rw[if_pos ⟨R,hg.all aC⟩]at d;rw[bt aC];exact aF (λg=>d.big (.refl _) rfl bg) (λg F h' f j=>d.ok f rfl bg j)
 .rw[beq_eq_false_iff_ne]at o y A;have G:=beq_iff_eq.1 D;rw[if_neg o,if_neg y,if_neg A,if_pos G]at d;refine⟨v.on,a,b,on,n,C,rfl,x.on_,B,L,λr z=>aD (λu=>d.err (.refl _) (if_neg λe=>?_)) (λu=>aD (λ_=>⟨C.map eI,BM _,L.row,bf,bf,?_⟩) (λt=>?_))⟩
  .grind
  .rw[if_pos (z.1 bg)]at d;rw[<-bu];exact aF (λg=>d.big (.refl _) rfl bg) (λg F h' f j=>d.ok f rfl bg j)
  grind
 .rw[beq_eq_false_iff_ne]at o y A;have G:=beq_eq_false_iff_ne.1 D;rw[beq_iff_eq]at E;rw[if_neg o,if_neg y,if_neg A,if_neg G,if_pos E]at d;refine⟨v.on,a,b,on,n,C,rfl,x.on_,B,L,λr z=>aD (λu=>d.err (.refl _) (if_neg λe=>?_)) (λu=>aD (λt=>?_) (λt=>?_))⟩
  .grind
  .grind
  .rw[if_pos (z.1 bg)]at d;exact aF (λg=>d.big (.refl _) rfl bg) (λg F h' f j=>d.ok f rfl aC j)
 .rw[beq_eq_false_iff_ne]at o y A D E;rw[beq_iff_eq]at I;rw[if_neg o,if_neg y,if_neg A,if_neg D,if_neg E,if_pos I]at d;refine⟨v,a,gr,od,n,rfl,x.group_,x.order_,B,λr z=>aD (λu=>d.err (.refl _) (if_neg λe=>?_)) (λu=>?_)⟩
  .grind
  rw[if_pos (z.1 bg)]at d;exact aF (λg=>d.big (.refl _) rfl bg) (λg F h' f j=>d.ok f rfl aC j)
 .rw[beq_eq_false_iff_ne]at o y A D E I;rw[if_neg o,if_neg y,if_neg A,if_neg D,if_neg E,if_neg I]at d;refine⟨a,b,n,C,rfl,B,L,λr z=>aD (λu=>d.err (.refl _) ?_) (λu=>aD (λt=>⟨v,a,gr,od,n,rfl,x.group_,x.order_,B,λr2 V=>aD (λd4=>d.err (.refl _) ?_) (λd4=>?_)⟩) (λt=>?_))⟩
  .grind
  .grind
  .rw[beq_iff_eq]at t;rw[if_pos t,if_pos ⟨z.1 bg,V.1 bg⟩]at d;exact aF (λg=>d.big (.refl _) rfl bg) (λg F h' f j=>d.ok f rfl aC j)
  .rw[beq_eq_false_iff_ne]at t;rw[if_neg t,if_pos (z.1 bg)]at d;exact aF (λg=>d.big (.refl _) rfl bg) (λg F h' f j=>d.ok f rfl aC j)
theorem apQ:cm 127 cEZ:=by
 refine jC func127 ?_;rintro c m h K ⟨sc,p,v,a,b,s,ps,q,y,z,rfl,d,e,f,g,j,n,o,t,u⟩;refine⟨bOJ m,rfl,aE RD (aE ahX (aE IN (aE MV (aE JS (aE ahQ (aE agJ (aE agZ aH))))))),Ns sc p v a b m h K,ax,?_⟩;exact cwZ d e f g j n o t u
mutual
noncomputable def aJ(s:jZ)(ps:cn):Query->cn×Int
 |.mk op ta w co on gr od li args=>
  match fX s ps args with
  |(ks,e)=>if e=0 then(if(ks.length:Int)=arity op then eZ s ps (.mk op ta w co on gr od li args) (ks.getD 0 []) (ks.getD 1 [])else eJ 100)else eJ e
noncomputable def fX(s:jZ)(ps:cn):db->List cn×Int
 |[]=>([],0)
 |q::qs=>
  match aJ s ps q with
  |(k,e)=>if e=0 then(match fX s ps qs with|(ks,c)=>if c=0 then(k::ks,0)else([],c))else([],e)
end
theorem vD{s:jZ}{ps:cn}:∀{c:db}{ks:List cn},c.map (aJ s ps)=ks.map (λk=>(k,0))->fX s ps c=(ks,0)
 |[],[],_=>by simp[fX]
 |q::c,k::ks,h=>by
  simp only[map_cons,List.cons.injEq]at h;simp only[fX,h.1,vD h.2,if_true]
 |[],_::_,h=>by simp at h
 |_::_,[],h=>by simp at h
theorem Hs{s:jZ}{ps:cn}{e:Int}(d:e≠0):∀{c:db}{ks:List cn}{i:Nat}{q:Query},(c.take i).map (aJ s ps)=ks.map (λk=>(k,0))->c[i]? =some q->(aJ s ps q).2=e->fX s ps c=([],e)
 |[],_,_,_,_,h,_=>by simp at h
 |q::c,_,0,g,_,h,f=>by
  simp at h;subst h;simp only[fX,f,if_neg d]
 |q::c,[],i+1,_,h,_,_=>by simp at h
 |q::c,k::ks,i+1,g,h,j,f=>by
  simp only[take_succ_cons,map_cons,List.cons.injEq]at h;have:=Hs d h.2 bg f;simp only[fX,h.1,this,if_true,if_neg d]
theorem bwZ l:(nO l).1.length<=12:=by unfold nO;grind
theorem aZQ s ps q a b:(eZ s ps q a b).1.length<=12:=by
 obtain⟨op,ta,w,co,on,gr,od,li,args⟩:=q;unfold eZ;dsimp only
 repeat' split
 all_goals first|exact bwZ _|(simp[eJ];done)
theorem lY s ps q:(aJ s ps q).1.length<=12:=by
 obtain⟨op,ta,w,co,on,gr,od,li,args⟩:=q;simp only[aJ]
 repeat' split
 all_goals first|exact aZQ .. |simp[eJ]
noncomputable def eH s ps q:=
 if eX s=0 then(if ps.all iA=true then(if tT q=true then aJ s ps q else eJ 2)else eJ 1)else eJ (eX s)
def Slices(h:PH)(c:cw)(ks:List cn):=c.length=ks.length/\∀(j:Nat) s k,c[j]? =some s->ks[j]? =some k->Ints h s k
theorem Slices.mono{c}(x:Slices h c ks)(le:PH.le h h'):Slices h' c ks:=⟨x.1,λj s k d e=>(x.2 j s k d e).mono le⟩
theorem Slices.snoc{c s k}(x:Slices h c ks)(o:Ints h s k):Slices h (c++[s]) (ks++[k]):=by
 refine⟨by simp[x.1],λj g n d e=>?_⟩;by_cases f:j<c.length
 .rw[getElem?_append_left f]at d;rw[getElem?_append_left (by rw[<-x.1];exact f)]at e;exact x.2 j g n d e
 .rw[getElem?_append_right aC]at d;rw[getElem?_append_right (by have:=x.1;omega), <-x.1]at e
  grind
def GM N:=λc m h K=>∃sc p v s ps q,c=[aS sc,cS p,aQ v]/\iU h s sc/\oM s/\Ints h p ps/\dO h q v/\SizeOf.sizeOf q<N/\KR K m h (aJ s ps q)
def OE:=λc m h K=>∃sc p v s ps q,c=[aS sc,cS p,aQ v]/\iU h s sc/\Ints h p ps/\dO h q v/\KR K m h (eH s ps q)
noncomputable def cmQ(N:Nat)(sc:bT)(p:Sl)(v:QV)(m:MH):=
 dK [(64,GM N),(126,Se),(127,cEZ)] [(3,{A:=Nat×cw×PH,st:=λ⟨i,c,h⟩=>bY 58 61 [(1,sv p),(3,.at (.ptr 3 0)),(5,.at (.ptr 5 0)),(8,.at (.lst 35)),(14,iv v.args.len),(15,iv i)] [(3,.cells 27 (sc.enc.map .val)),(5,.cells 41 (v.enc.map .val)),(35,.lst 36 1 (c.map eS))] m h})] [] [] false
abbrev Pn(a:(Nat×cw×PH->Prop)->(Nat×cw×PH)->Prop)(b:(Nat×cw×PH->Prop)->(Nat×cw×PH->Nat)->(Nat×cw×PH)->Prop):=∃(x:Nat×cw×PH->Prop)(d:Nat×cw×PH->Nat),(∃(c:Nat×cw×PH),a x c)/\∀(c:Nat×cw×PH),b x d c
abbrev oI a b c:=bW a b (List.map eS c)
abbrev pJ(a:Nat×cw×PH):=a.2.2
abbrev Ex(a:bT->Sl->Prop):=∃(x:bT)(c:Sl),a x c
abbrev EA(a:jZ->cn->Prop):=∃(x:jZ)(c:cn),a x c
abbrev KN(a:bT)(b:Sl)(c:QV)(d:PH)(e:Nat)(g:jZ->cn->Query->Sl->PH->Prop):=Ex (λx t=>∃(u:QV),EA (λf n=>∃(j:Query),aA (cE (cC a) (gO b (cM c))=cE (cC x) (gO t (cM u))) (iU d f x) (aA (oM f) (Ints d t n) (aA (dO d j u) (yI j e) (∀(y:Sl)(o:PH),bS d o (Ints o y (aJ f n j).1) (g f n j y o))))))
abbrev lL a:=jN (kB a 1) 24
abbrev fJ a:=List.map eS a
abbrev wT(a:Nat×cw×PH):=fJ a.2.1
abbrev mJ a b:=a::mC b
abbrev K7 a:=wT a++mJ gW gW
abbrev mH(a:List cr)(b:Nat)(c:cr):=a[b]? =Option.some c
abbrev uI(a:Nat)(b c:cr):=List.take a (List.drop 0 b)=c
attribute [push_cast] Pn oI pJ Ex EA KN lL fJ wT mJ K7 mH uI
def XK N sc p v m h K:=
  Pn (λI x=>aA (I x) (aI p) (aA (eP 3) fT (aA (eL 35) (wG v) (aA (bA x.1) (cV sc) (aA (fU v) (bW 36 1 []=oI 36 1 x.2.1) (aA (m=m) (h=pJ x) True)))))) (λI t x=>I x->aY (↑x.1:Int) (aG v.args) (bK (λb o=>aA (aR v.args.a b o) (0<=(↑x.1:Int)) ((↑x.1:Int)<aG v.args/\∃(y:QV),aK m (pJ x) b (bL o x.1 21) y.enc/\KN sc p y (pJ x) N (λs f q c d=>dR (aJ s f q).2 0 (K (CV.tup (tN EH (CV.val (gZ (aJ s f q).2)))) m d) (aA (lL (wT x)) (eA (wT x)) (∃(g:Nat×cw×PH),aA (I g) (t g<t x) (aA (aI p) j8 (aA fT (eL 35) (aA (wG v) (iH (bE x.1 1)=bP g.1) (aA (cV sc) (fU v) (aA (bW 36 1 (dP (wT x) (aL c))=oI 36 1 g.2.1) (m=m) (bU d (pJ g)))))))))))))
 (∃(o:Int),gX (mG v.op o) (nN (wT x) !=arity o) (cG K 100 m (pJ x)) (aA (jN (kB (wT x) 2) 24) (oK (kB (wT x) 2)) (aA (cN 0) (0<nN (K7 x)) (∃(e:cr),mH (K7 x) 0 e/\∃(y:Sl),aA (uI 1 e (aL y)) ((0:Int)<=1) (1<nN (K7 x)/\∃(u:cr),mH (K7 x) 1 u/\∃(z:Sl),uI 1 u (aL z)/\Ex (λs f=>∃(A:QV),rC (λa b=>EA (λc n=>∃(q:Query),FE (λl j=>aA (cE (cC sc) (dC p (cE v.enc (cD y z)))=cE (cC s) (dC f (cE A.enc (cD a b)))) (iU (pJ x) c s) (aA (oM c) (Ints (pJ x) f n) (aA (dO (pJ x) q A) (Ints (pJ x) a l) (aA (Ints (pJ x) b j) (l.length<=12) (j.length<=12/\∀(B:Sl)(d:PH),bS (pJ x) d (Ints d B
 (eZ c n q l j).1) (K (CV.tup (gO B (CV.val (gZ (eZ c n q l j).2)))) m d)))))))))))))))
abbrev KY(a:bT)(b:PH)(c:jZ->Prop):=rD (λx d=>aA (eY (jO (cC a)) (jO (cC x))) (iU b d x) (c d))
attribute [push_cast] KY
def X2 N sc p v m h K:=
  KY sc h (λs=>dR (eX s) 0 (cG K (eX s) m h) (xQ p h (λl=>pI (Ev l) (cG K 1 m h) (rB (λc d=>aA (eY (cM v) (cM c)) (dO h d c) (pI (tT d) (cG K 2 m h) (KN sc p v h N (λe f q g j=>K (CV.tup (gO g (CV.val (gZ (aJ e f q).2)))) m j))))))))
theorem MK{c:db}(h:c.map (aJ s ps)=ks.map (λk=>(k,0))) j:(ks.getD j []).length<=12:=by
 rw[getD_eq_getElem?_getD];cases e:ks[j]? with
 |none=>simp
 |some k=>
  have d:(c.map (aJ s ps))[j]? =some (k,0):=bg
  rw[getElem?_map,Option.map_eq_some_iff]at d;obtain⟨q,_,f⟩:=d;have:=lY s ps q
  grind
theorem Slices.pick{c}(x:Slices h c ks) j(f:j<c.length+2):∃y:Sl,(c.map eS++[[.slice none 0 0],[.slice none 0 0]])[j]? =some [.slice y.a y.len y.cap]/\Ints h y (ks.getD j []):=by
 by_cases d:j<c.length
 .refine⟨c[j],?_,?_⟩
  .rw[getElem?_append_left bg];simp[d,eS]
  .have e:j<ks.length:=by rw[<-x.1];exact d
   rw[getD_eq_getElem?_getD,bn e];exact x.2 j _ _ (bn d) (bn e)
 .refine⟨⟨none,0,0⟩,?_,?_⟩
  .grind
  .rw[getD_eq_getElem?_getD,getElem?_eq_none (by have:=x.1;omega)];exact⟨.nil _ _,ay⟩
theorem aIZ:∀N,cm 64 (GM N)
 |0=>by
  refine fW (fn:=Tryz.f64) (c:=eD Tryz.f64) func64 rfl az ?_;rintro C m h K ⟨sc,p,v,s,ps,q,rfl,_,_,_,_,Y,_⟩;omega
 |N+1=>by
  refine jC func64 ?_;rintro C m h K ⟨sc,p,v,s,ps,q,rfl,Q,R,S,T,Y,n⟩;refine⟨cmQ N sc p v m,rfl,aE (aIZ N) (aE RD (aE apQ aH)),XK N sc p v m h K,ax,?_⟩;dsimp only[XK,push_cast];have D:=@Dg q;have E:=T;obtain⟨op,ta,w,co,on,gr,od,li,args⟩:=q;have x:=T.parts;have e0:=x.op_;have Z:=x.args_.slen;have U:=x.args_.len;simp only[Query.args]at D;simp only[aJ]at n;refine⟨λ⟨i,z,F⟩=>i<=args.length/\PH.le h F/\∃ks,Slices F z ks/\(args.take i).map (aJ s ps)=ks.map (λk=>(k,0)),λ⟨i,_,_⟩=>args.length-i,⟨(0,[],h),⟨aC,.refl _,[],⟨rfl,λj s k y=>by simp at y⟩,ay⟩,MT⟩,?_⟩;rintro⟨i,z,F⟩ ⟨V,d,ks,A,g⟩;have G:ks.length=i:=by have:=congrArg List.length g;grind
  have a':z.length=i:=by rw[A.1,G]
  dsimp only;refine aF (λo=>?_) (λa0=>?_)
  .obtain⟨B,t⟩:=fK Z o;obtain⟨b1,o1,u,H,r1,I⟩:=(x.args_.mono d).at t;refine⟨b1,o1,H,aC,o,u,.imm r1,sc,p,u,s,ps,B,rfl,Q.mono d,R,S.mono d,I,?_,λJ h' f L=>aD (λy=>?_) (λy=>?_)⟩
   .grind
   .have M:(aJ s ps B).2≠0:=bg
    rw[Hs M g t rfl]at n;exact n.err (d.trans f) (if_neg M)
   .have M:(aJ s ps B).2=0:=bg
    refine⟨bf,bf,(i+1,z++[J],h'),⟨aC,d.trans f,ks++[(aJ s ps B).1],(A.mono f).snoc L,?_⟩,aC,?_⟩
    .rw[kA t,g,bu]
     grind
    .rw[bu];exact MT
  .rw[bt aC]at g;rw[vD g]at n;simp only[if_true]at n;refine⟨v.op,rfl,aD (λy=>n.err d (if_neg λe=>?_)) (λy=>?_)⟩
   .grind
   have y:(z.length:Int)=arity op:=bg
   rw[if_pos aC]at n;obtain⟨W,O,i0⟩:=A.pick 0 aC;obtain⟨X,P,i1⟩:=A.pick 1 aC;exact⟨bf,bf,aC,bf,_,O,W,rfl,aC,bf,_,P,X,rfl,sc,p,v,W,X,s,ps,_,_,_,rfl,Q.mono d,R,S.mono d,E.mono d,i0,i1,MK g 0,MK g 1,λJ h' f V=>n J h' (d.trans f) V⟩
theorem aWQ(h:eX s=0):oM s:=by
 have c:EF s:=Classical.byContradiction λd=>by rw[yF d]at h;cases h
 intro t e;obtain⟨j,f⟩:=mem_iff_getElem?.1 e;exact(c.2 j t f).1
theorem bcX:cm 26 OE:=by
 refine jC func26 ?_;rintro n m h K ⟨sc,p,v,s,ps,q,rfl,f,g,j,c⟩;refine⟨dK [(61,C5),(62,R7),(63,aNX),(64,GM (SizeOf.sizeOf q+1))] [] [] [] false,rfl,aE a9X (aE Tj (aE a9Q (aE (aIZ _) aH))),X2 (SizeOf.sizeOf q+1) sc p v m h K,ax,?_⟩;dsimp only[X2,push_cast];unfold eH at c;refine⟨sc,s,rfl,f,aD (λd=>c.err (.refl _) (if_neg bg)) (λd=>?_)⟩;have d:eX s=0:=bg
 rw[if_pos d]at c;refine⟨p,ps,rfl,g,aD (λo=>c.err (.refl _) (if_neg λe=>bg)) (λo=>?_)⟩;rw[if_pos bg]at c;refine⟨v,q,rfl,j,aD (λt=>c.err (.refl _) (if_neg λe=>bg)) (λt=>?_)⟩;rw[if_pos bg]at c;exact⟨sc,p,v,s,ps,q,rfl,f,aWQ d,g,j,aC,c⟩
def aN(n:NV):CV:=.val (.agg ⟨n.enc⟩)
structure Cg(h:PH)(s:jZ)(ps:cn)(q:Query)(ks:List cn)(n:NV):Prop where
 s_:iU h s n.s
 ps_:Ints h n.params ps
 q_:dO h q n.q
 ks_:bM h 1 eS (λk sl=>Ints h sl k) n.args ks
 len:∀k∈ks,k.length<=12
def Query.withOf(u q:Query):Query:=match u,q with|.mk _ ta w co on gr od li _,.mk op _ _ _ _ _ _ _ args=>.mk op ta w co on gr od li args
def Ei:Vc.Spec:=λc m h K=>∃n k u s ps q ks d,c=[aN n,cI k,aQ u]/\Cg h s ps q ks n/\dO h d u/\∀r:Bool,(r=true↔(ks.length:Int)=k/\q=d.withOf q)->K (cB r) m h
def RX:Vc.Spec:=λc m h K=>∃n s ps q ks,c=[aN n]/\Cg h s ps q ks n/\K (aQ ⟨0,0,⟨0,0,gL,gL,⟨none,0,0⟩⟩,⟨none,0,0⟩,⟨none,0,0⟩,n.q.group,n.q.order,n.q.limit,⟨none,0,0⟩⟩) m h
def RY:Vc.Spec:=λc m h K=>∃n s ps q ks a,c=[aN n]/\Cg h s ps q ks n/\ks[0]? =some a/\∀r:Bool,(r=true↔∃op ta w co on gr od li args,q= .mk op ta w co on gr od li args/\nT a gr od li)->K (cB r) m h
def O5(ks:List cn):Query->Prop
 |.mk op ta w co on gr od li _=>ks.length=2/\ta=0/\w=gG/\co=[]/\gr=[]/\od=[]/\li=0/\Good (oB (ks.getD 0 []) (ks.getD 1 [])) on
def R4:Vc.Spec:=λc m h K=>∃n s ps q ks,c=[aN n]/\Cg h s ps q ks n/\∀r:Bool,(r=true↔O5 ks q)->K (cB r) m h
noncomputable def bEJ(n:NV)(h:PH):=
 qD [] [(4,{A:=Nat×Nat×Nat×MH,st:=λ⟨i,c,b,d⟩=>bY 72 73 [(1,.at (.ptr 1 0)),(3,iv c),(4,vv (.pointer (some ⟨b,0,none⟩))),(16,sv n.q.group),(17,iv n.q.group.len),(18,iv i)] [(1,.cells 190 (n.enc.map .val))] d h}),
  (11,{A:=Nat×Nat×MH,st:=λ⟨i,c,d⟩=>bY 72 73 [(1,.at (.ptr 1 0)),(3,iv c),(39,sv n.q.order),(40,iv n.q.order.len),(41,iv i)] [(1,.cells 190 (n.enc.map .val))] d h})] [] [] [280] [] false
noncomputable def bFQ(n:NV)(h:PH):=
 qD [(236,Ei)] [(6,{A:=Nat×Sl×Sl×Nat×Nat×MH,st:=λ⟨i,s,t,b,c,d⟩=>bY 80 81 [(3,sv s),(4,sv t),(5,vv (.pointer (some ⟨b,0,none⟩))),(6,vv (.pointer (some ⟨c,0,none⟩))),(28,sv n.q.on),(29,iv n.q.on.len),(30,iv i)] [] d h})] [] [] [280] [] false
abbrev zG(a:OV):=gZ a.kind
abbrev xD(a:QV):=a.where_.left
abbrev zI(a:OV):=gZ a.index
abbrev GU(a:OV):=a.value.int
abbrev uC a:=gZ (GU a)
abbrev vT(a b:QV)(c:cr):=bG (gZ a.op) (gZ b.table) (bG (gZ b.where_.op) (gZ b.where_.cmp) (bG (zG (xD b)) (zI (xD b)) (bG (gZ (qL (xD b))) (uC (xD b)) c)))
abbrev BR(a:OV):=a.value.text
abbrev Cc a:=Value.string (BR a)
abbrev pY(a:QV):=a.where_.right
abbrev v7 a b:=bG (Cc (xD a)) (zG (pY a)) (bG (zI (pY a)) (gZ (qL (pY a))) (bG (uC (pY a)) (Cc (pY a)) (bG (dW a.where_.args) (dW a.columns) b)))
abbrev yO(a:QV):=dW a.group
abbrev yP(a:QV):=dW a.order
abbrev uT(a:QV):=gZ a.limit
attribute [push_cast] zG xD zI GU uC vT BR Cc pY v7 yO yP uT
def TB(n:NV)(k:Int)(u:QV)(m:MH)(h:PH)(K:cq):=
  fC (aG n.args) k (∃(v:QV),rB (λw p=>∃(q:Query),aA (tN (cM n.q) (jO (vT n.q u (v7 u (bG (dW u.on) (yO u) (bG (yP u) (uT u) (aL n.q.args))))))=tN (cM v) (cM w)) (dO h p v) (dO h q w/\∀(r:Bool),(iX r↔p=q)->K (Aw r) m h))) (K bD m h)
abbrev Im a:=bG bF bF (bG bF bF (bG bF bF (bG bF bF a)))
abbrev tY a b:=bG vQz bF (bG bF bF (bG bF vQz (bG pF a b)))
attribute [push_cast] Im tY
def TA(n:NV)(m:MH)(h:PH)(K:cq):=
  K (jO (Im (tY pF (bG pF (yO n.q) (bG (yP n.q) (uT n.q) gW))))) m h
abbrev wZ:=Value.bool false
abbrev Pc(a:MH)(b:PH)(c:Nat->MH->Prop):=∀(x:Nat)(d:MH),bH (cW a b x) (bJ a d x (bG wZ wZ (bG wZ wZ (bG wZ wZ (bG wZ wZ (bG wZ wZ (bG wZ wZ [])))))) 280) (c x d)
abbrev zJ(a:QV):=kL a.table
abbrev yC(a:QV)(b:Sl)(c d:At)(e:dm):=pQ a.where_ (gU (yY a.columns) (yY b) (gU c d e))
abbrev En(a:QV):=yY a.group
abbrev Eo(a:QV):=yY a.order
abbrev FG(a:NV):=eQ (oQ 190 (gU (KA a.s) (Kz a.s) (gU (yY a.params) (kL a.q.op) (zJ a.q::yC a.q a.q.on (En a.q) (Eo a.q) (gU (kL a.q.limit) (yY a.q.args) (uH (yY a.args)))))))
abbrev tU a:=pD (Value.bool a)
attribute [push_cast] wZ Pc zJ yC En Eo FG tU
def IS n m h K:=
  bK (λb o=>aA (aR n.args.a b o) ((0:Int)<=0) (0<aG n.args/\∃(y:Sl),aK m h b (o+0) (aL y)/\Pc m h (λA B=>∃(I:Nat×Nat×Nat×MH->Prop)(u:Nat×Nat×Nat×MH->Nat),(∃(x:Nat×Nat×Nat×MH),aA (I x) fB (aA (bP y.len=bP x.2.1) (cA A (j4 x.2)) (aA (aI n.q.group) (bI n.q.group) (aA (bA x.1) (FG n) (eM B (jE x.2) h h)))))/\∀(x:Nat×Nat×Nat×MH),I x->aY (↑x.1:Int) (aG n.q.group) (bK (λf g=>aA (aR n.q.group.a f g) (0<=(↑x.1:Int)) ((↑x.1:Int)<aG n.q.group/\∃(e:Int),aK (jE x.2) h f (bL g x.1 1) (bC e)/\aY e 0 (nD K x.2 h) (iO e (↑x.2.1:Int) (nD K x.2 h) (aA (cN e) (e<12) (∃(z:Bool),aK (jE x.2) h (j4 x.2) (gH 0 e 1) (tU z)/\branch z (nD K x.2 h) (aA
 (cN e) (e<12) (gT (λc E=>aA (sL (jE x.2) (j4 x.2) (fA c E 0)) (gH 0 e 1<c.size) (∀(j:MH),bJ (jE x.2) j (j4 x.2) (splice c.toList (gH 0 e 1) (pD Dk)) E->∃(d:Nat×Nat×Nat×MH),aA (I d) (u d<u x) (aA fB (cJ x.2.1 d.2.1) (aA (cA (j4 x.2) (j4 d.2)) (aI n.q.group) (aA (bI n.q.group) (iH (bE x.1 1)=bP d.1) (dJ (FG n) j (jE d.2) h h)))))))))))))) (∃(I1:Nat×Nat×MH->Prop)(j:Nat×Nat×MH->Nat),PC (λd=>aA (I1 d) fB (aA (cJ x.2.1 (j4 d)) (aI n.q.order) (aA (bI n.q.order) (bA d.1) (aA (FG n) (jE x.2=jE d) (bU h h))))) (λd=>I1 d->aY (↑d.1:Int) (aG n.q.order) (bK (λf g=>aA (aR n.q.order.a f g) (0<=(↑d.1:Int)) ((↑d.1:Int)<aG n.q.order/\∃
 (e:Int×Bool),aK (jE d) h f (bL g d.1 2) (Bi e)/\aY e.1 0 (nD K d h) (iO e.1 (↑(j4 d):Int) (nD K d h) (∃(t:Nat×Nat×MH),aA (I1 t) (j t<j d) (aA fB (cJ (j4 d) (j4 t)) (aA (aI n.q.order) (bI n.q.order) (aA (iH (bE d.1 1)=bP t.1) (FG n) (eM (jE d) (jE t) h h))))))))) (branch (decide (aG n.q.order<=12)) (iO n.q.limit 0 (K (Aw (decide (n.q.limit<=100))) (jE d) h) (nD K d h)) (nD K d h)))))))
abbrev FA(a:jZ->cn->Query->(List cn)->Prop):=EA (λx c=>∃(d:Query)(e:List cn),a x c d e)
abbrev DS(a:dk)(b:NV->Int->QV->dk)(c:PH)(d:Int->Query->(List cn)->Query->Bool->Prop):=∃(x:NV)(e:Int)(f:QV),FA (λo t g j=>∃(n:Query),aA (a=b x e f) (Cg c o t g j x) (dO c n f/\∀(u:Bool),d e g j n u))
abbrev hX(a:NV)(b:cr):=bG (gZ a.s.version) (dW a.s.tables) (bG (dW a.params) (gZ a.q.op) (bG (gZ a.q.table) (gZ a.q.where_.op) (bG (gZ a.q.where_.cmp) (zG (xD a.q)) b)))
abbrev jV(a:NV)(b:cr):=bG (zI (xD a.q)) (gZ (qL (xD a.q))) (bG (uC (xD a.q)) (Cc (xD a.q)) (bG (zG (pY a.q)) (zI (pY a.q)) (bG (gZ (qL (pY a.q))) (uC (pY a.q)) b)))
abbrev B9 a b c d:=bG (Cc a) (dW b.where_.args) (bG (dW b.columns) (dW c) (bG (yO b) (yP b) (bG (gZ b.limit) (dW b.args) (aL d))))
abbrev hU(a:NV):=B9 (pY a.q) a.q a.q.on a.args
abbrev tX a b:=bG a pF (bG pF bF b)
abbrev DY(a:List cn)(b:Int)(c d:Query):=(↑a.length:Int)=b/\c=Query.withOf d c
abbrev lM(a:Nat×Sl×Sl×Nat×Nat×MH):=a.2.2.2
attribute [push_cast] FA DS hX jV B9 hU tX DY lM
def IT n m h K:=
  DS (cE (hX n (jV n (hU n))) (gJ 2 (jO (Im (tY pF (tX (dW n.q.on) gW)))))) (λf k u=>cE (hX f (jV f (hU f))) (gJ k (cM u))) h (λk q R u r=>gS (iX r↔DY R k q u) (!r) (K bD m h) (bK (λb o=>aA (aR n.args.a b o) ((0:Int)<=0) (0<aG n.args/\∃(y:Sl),aK m h b (o+0) (aL y)/\bK (λt z=>aA (aR n.args.a t z) ((0:Int)<=1) (1<aG n.args/\∃(A:Sl),aK m h t (z+1) (aL A)/\Pc m h (λS T=>Pc T h (λU V=>∃(I:Nat×Sl×Sl×Nat×Nat×MH->Prop)(B:Nat×Sl×Sl×Nat×Nat×MH->Nat),(∃(x:Nat×Sl×Sl×Nat×Nat×MH),aA (I x) (aW y x.2.1) (aA (aW A x.2.2.1) (cA S (lM x).1) (aA (cA U (j4 (lM x))) (aI n.q.on) (aA (bI n.q.on) (bA x.1) (eM V
 (jE (lM x)) h h)))))/\∀(x:Nat×Sl×Sl×Nat×Nat×MH),I x->aY (↑x.1:Int) (aG n.q.on) (bK (λC D=>aA (aR n.q.on.a C D) (0<=(↑x.1:Int)) ((↑x.1:Int)<aG n.q.on/\∃(d:Int×Int),aA (aK (jE (lM x)) h C (bL D x.1 2) (vZ d)) (cN 0) (aA ((0:Int)<2) (cN 1) ((1:Int)<2/\aY d.1 0 (nD K (lM x) h) (iO d.1 (aG x.2.1) (nD K (lM x) h) (aY d.2 0 (nD K (lM x) h) (iO d.2 (aG x.2.2.1) (nD K (lM x) h) (bK (λF G=>aA (aR x.2.1.a F G) (0<=d.1) (d.1<aG x.2.1/\∃(H:Int),aK (jE (lM x)) h F (gH G d.1 1) (bC H)/\bK (λJ L=>aA (aR x.2.2.1.a J L) (0<=d.2) (d.2<aG x.2.2.1/\∃(M:Int),aK (jE (lM x)) h J (gH L d.2 1) (bC M)/\dR H M (nD K (lM x)
 h) (aA (cN d.1) (d.1<12) (∃(O:Bool),aK (jE (lM x)) h (lM x).1 (gH 0 d.1 1) (tU O)/\branch O (nD K (lM x) h) (aA (cN d.2) (d.2<12) (∃(P:Bool),aK (jE (lM x)) h (j4 (lM x)) (gH 0 d.2 1) (tU P)/\branch P (nD K (lM x) h) (aA (cN d.1) (d.1<12) (gT (λc E=>aA (sL (jE (lM x)) (lM x).1 (fA c E 0)) (gH 0 d.1 1<c.size) (∀(g:MH),bJ (jE (lM x)) g (lM x).1 (splice c.toList (gH 0 d.1 1) (pD Dk)) E->aA (cN d.2) (d.2<12) (gT (λj E1=>aA (sL g (j4 (lM x)) (fA j E1 0)) (gH 0 d.2 1<j.size) (∀(Q:MH),bJ g Q (j4 (lM x)) (splice j.toList (gH 0 d.2 1) (pD Dk)) E1->∃(e:Nat×Sl×Sl×Nat×Nat×MH),aA (I e) (B e<B x) (aA (aW x.2.1 e.2.1) (aW
 x.2.2.1 e.2.2.1) (aA (cA (lM x).1 (lM e).1) (cA (j4 (lM x)) (j4 (lM e))) (aA (aI n.q.on) (bI n.q.on) (dJ (iH (bE x.1 1)=bP e.1) Q (jE (lM e)) h h)))))))))))))))))))))))))))) (K jF (jE (lM x)) h)))))))))
structure Arr(m:MH)(b:Nat)(seen:cn):Prop where
 ex:∃bs:dj,m b=some (.cells ⟨bs.map Value.bool⟩ 280 (0,0))/\bs.length=12/\∀k:Nat,k<12->(bs[k]? =some true↔(k:Int)∈seen)
theorem Arr.zero(h:m b=some (.cells ⟨[.bool false,.bool false,.bool false,.bool false,.bool false,.bool false,.bool false,.bool false,.bool false,.bool false,.bool false,.bool false]⟩ 280 (0,0))):Arr m b []:=
 ⟨⟨replicate 12 false,h,rfl,λk c=>bg⟩⟩
theorem Arr.look{c}(x:Arr m b c){n}(f:0<=n)(g:n<12):∃y:Bool,aK m h b (0+n.toNat*1) [.bool y]/\(y=true↔n∈c):=by
 obtain⟨d,e,j,o⟩:=x.ex;have t:n.toNat<d.length:=by omega
 refine⟨d[n.toNat],.lent _ _ _ e ?_,?_⟩
 .simp only[Nat.zero_add,Nat.mul_one,ci,length_nil];rw[drop_eq_getElem_cons bg];simp
 grind
theorem Arr.store{c}(x:Arr m b c){n}(o:0<=n)(t:n<12):∃(cs:Array Value)(E:TypeId),sL m b (.cells cs E (0,0))/\0+n.toNat*1<cs.size/\∀m',lI m m' b (.cells ⟨splice cs.toList (0+n.toNat*1) [.bool true]⟩ E (0,0))->Arr m' b (c++[n]):=by
 obtain⟨d,e,u,y⟩:=x.ex;have f:n.toNat<d.length:=by omega
 refine⟨_,_,⟨e⟩,bg,λm' g=>⟨d.set n.toNat true,?_,bg,λk j=>?_⟩⟩
 .rw[g.at_];congr 3;simp only[splice,Nat.zero_add,Nat.mul_one,ci,length_nil];rw[set_eq_take_append_cons_drop,if_pos f];simp[map_take,map_drop]
 grind
theorem Arr.other{f d}(x:Arr m b d)(g:b≠f)(t:∀c,c≠f->m' c=m c):Arr m' b d:=by
 obtain⟨j,e,n,o⟩:=x.ex;exact⟨j,bg,n,o⟩
theorem Cg.arg{q n}(x:Cg h s ps q ks n){j k}(c:ks[j]? =some k):∃b o sl,n.args.a=some ⟨b,o,none⟩/\cO h b (o+j*1) [.slice sl.a sl.len sl.cap]/\Ints h sl k/\k.length<=12/\j<n.args.len:=by
 obtain⟨b,o,sl,e,r,d⟩:=x.ks_.at c;have:=(bm c);exact⟨b,o,sl,e,r,d,x.len k (bo c),by rw[x.ks_.slen];exact this⟩
theorem crQ{n}(c:K (aQ ⟨0,0,⟨0,0,gL,gL,⟨none,0,0⟩⟩,⟨none,0,0⟩,⟨none,0,0⟩,n.q.group,n.q.order,n.q.limit,⟨none,0,0⟩⟩) m h):TA n m h K:=c
theorem yT:cm 236 Ei:=by
 refine jC func236 ?_;rintro C m h K ⟨n,k,u,s,ps,q,ks,D,rfl,c,E,B⟩;refine⟨dK [(259,cYJ)] [] [] [] false,rfl,aE ZQ aH,TB n k u m h K,ax,?_⟩;dsimp only[TB,push_cast];have L:=c.ks_.slen;have F:=c.q_;have d:=c.q_;obtain⟨op,ta,w,co,on,gr,od,li,args⟩:=q;obtain⟨G,f,H,g,j,o,t,z,A⟩:=D;have x:=E.parts;have y:=F.parts;refine aD (λI=>⟨n.q,⟨n.q.op,u.table,u.where_,u.columns,u.on,u.group,u.order,u.limit,n.q.args⟩,_,.mk op f H g j o t z args,rfl,d,uE.rep ⟨y.op_,x.table_,x.where_,x.columns_,x.on_,x.group_,x.order_,x.limit_,y.args_⟩,λr J=>B r (J.trans ⟨λe=>⟨?_,e⟩,λe=>e.2⟩)⟩) (λI=>B false ⟨λe=>(by cases e),λe=>?_⟩)
 .grind
 grind
theorem Rq:cm 238 RX:=by
 refine jC func238 ?_;rintro c m h K ⟨n,s,ps,q,ks,rfl,e,d⟩;refine⟨dK [] [] [] [] false,rfl,aH,TA n m h K,ax,?_⟩;exact crQ d
theorem cqJ{n op w on args}(u:Cg h s ps (.mk op ta w co on gr od li args) ks n)(ha:ks[0]? =some a)(W:∀r:Bool,(r=true↔nT a gr od li)->K (cB r) m h):IS n m h (lZ h K):=by
 dsimp only[IS,push_cast];have x:=u.q_.parts;have gl:=x.group_.slen;have X:=x.group_.len;have ol:=x.order_.slen;have Y:=x.order_.len;have el:=x.limit_;obtain⟨b0,o0,Z,e0,r0,J,a',a0⟩:=u.arg ha;have L:=J.slen;have bad:∀f,Sub m f->¬nT a gr od li->lZ h K (.val (.bool false)) f h:=λf hm u=>.sub hm (W false ⟨λe=>(by cases e),λe=>(u e).elim⟩);refine⟨b0,o0,e0,aC,aC,Z,.imm aC,λb m1 hb C=>?_⟩;refine⟨λ⟨i,D,b',f⟩=>D=a.length/\b'=b/\i<=gr.length/\Sub m f/\Arr f b (gr.take i)/\gY (GN a) gr i,λ⟨i,_,_,_⟩=>gr.length-i,⟨(0,Z.len,b,m1),⟨L,rfl,aC,(Sub.refl m).upd hb.m_ C.other,.zero C.at_,.zero⟩,MT⟩,?_⟩;rintro⟨i,D,b,f⟩ ⟨rfl,rfl,hi,d,j,M⟩;dsimp only;refine aF (λo=>?_) (λF=>?_)
 .obtain⟨c,z⟩:=fK gl o;obtain⟨O,P,Q,R⟩:=x.group_.at' z;have t:¬GN a (gr.take i) c->lZ h K (.val (.bool false)) f h:=λu=>bad f d λg=>Good.not z u g.group_;refine⟨O,P,Q,aC,o,c,.imm R,aF (λG=>t λg=>?_) (λG=>aF (λB=>t λg=>?_) (λB=>?_))⟩
  .have:=fH.1 g.1;omega
  .have:=fH.1 g.1;omega
  obtain⟨y,hy,S⟩:=j.look (h:=h) (n:=c) aC aC;refine⟨aC,aC,y,hy,aD (λh3=>t λg=>g.2 (S.1 h3)) (λh3=>?_)⟩;obtain⟨cs,E,T,U,V⟩:=j.store (n:=c) aC aC;refine⟨aC,aC,cs,E,T,U,λm2 H=>⟨(i+1,a.length,b,m2),⟨rfl,rfl,aC,d.upd hb.m_ H.other,?_,M.succ z ⟨fH.2 ⟨aC,aC⟩,λe=>?_⟩⟩,aC,MT⟩⟩
  .have:=V m2 H
   rwa [cd,z]
  grind
 have gg:=M.all aC;refine⟨λ⟨i,D,f⟩=>D=a.length/\i<=od.length/\Sub m f/\gY (J4 a) od i,λ⟨i,_,_⟩=>od.length-i,⟨(0,a.length,f),⟨rfl,aC,d,.zero⟩,MT⟩,?_⟩;clear hi M F d j f;rintro⟨i,D,f⟩ ⟨rfl,hi,d,I⟩;dsimp only;refine aF (λo=>?_) (λF=>?_)
 .obtain⟨c,z⟩:=fK ol o;obtain⟨O,P,Q,R⟩:=x.order_.at z;have A:¬J4 a (od.take i) c->lZ h K (.val (.bool false)) f h:=λu=>bad f d λg=>Good.not z u g.order_;refine⟨O,P,Q,aC,o,c,.imm R,aF (λG=>A λg=>?_) (λG=>aF (λB=>A λg=>?_) (λB=>⟨(i+1,a.length,f),⟨rfl,aC,d,I.succ z (fH.2 ⟨aC,aC⟩)⟩,aC,MT⟩))⟩
  .have:=fH.1 (show C0 a c.1=true from g);omega
  .have:=fH.1 (show C0 a c.1=true from g);omega
 have oo:=I.all aC;rw[el];refine aF (λG=>aF (λB=>?_) (λB=>bad f d λg=>?_)) (λG=>bad f d λg=>?_)
 .exact .sub d (W (decide (li<=100)) ⟨λe=>⟨gg,oo,aC,B,bk e⟩,λe=>decide_eq_true e.high⟩)
 .have:=g.low;omega
 .have:=g.len_;omega
theorem Rp:cm 239 RY:=by
 refine EY func239 ?_;rintro c m h K ⟨n,s,ps,q,ks,a,rfl,d,f,g⟩;refine⟨bEJ n h,rfl,aH,IS n m h (lZ h K),ax,?_⟩;dsimp only[IS,push_cast];obtain⟨op,ta,w,co,on,gr,od,li,args⟩:=q;refine cqJ d f (λr j=>g r (j.trans ⟨λe=>⟨_,_,_,_,_,_,_,_,_,rfl,e⟩,?_⟩))
 grind
theorem Zc{on sl}(c:jD h sl on):dO h (.mk 0 0 gG [] on [] [] 0 []) ⟨0,0,⟨0,0,gL,gL,⟨none,0,0⟩⟩,⟨none,0,0⟩,sl,⟨none,0,0⟩,⟨none,0,0⟩,0,⟨none,0,0⟩⟩:=
 uE.rep ⟨rfl,rfl,Fq h,⟨.nil _ _,ay⟩,c,⟨.nil _ _,ay⟩,⟨.nil _ _,ay⟩,rfl,.nil _ _ _ _⟩
theorem Rr:cm 237 R4:=by
 refine EY func237 ?_;rintro a7 m h K ⟨n,s,ps,q,ks,rfl,t,hK⟩;refine⟨bFQ n h,rfl,aE yT aH,IT n m h (lZ h K),ax,?_⟩;dsimp only[IT,push_cast];obtain⟨op,ta,w,co,on,gr,od,li,args⟩:=q;show IT n m h (lZ h K);dsimp only[IT,push_cast];have x:=t.q_.parts;have ol:=x.on_.slen;have a5:=x.on_.len;have bad:∀g,Sub m g->¬O5 ks (.mk op ta w co on gr od li args)->lZ h K (.val (.bool false)) g h:=λg T t=>.sub T (hK false ⟨λe=>(by cases e),λe=>(t e).elim⟩);refine⟨n,2,⟨0,0,⟨0,0,gL,gL,⟨none,0,0⟩⟩,⟨none,0,0⟩,n.q.on,⟨none,0,0⟩,⟨none,0,0⟩,0,⟨none,0,0⟩⟩,s,ps,_,ks,.mk 0 0 gG [] on [] [] 0 [],rfl,t,Zc x.on_,λr hr=>aD (λh1=>bad m (Sub.refl m) λf=>?_) (λh1=>?_)⟩
 .have:r=true:=hr.2 ⟨by have:=f.1;omega,by obtain⟨_,rfl,rfl,rfl,rfl,rfl,rfl,_⟩:=f;rfl⟩
  grind
 obtain⟨U,G⟩:=hr.1 bg;simp only[Query.withOf,Query.mk.injEq]at G;obtain⟨_,rfl,rfl,rfl,_,rfl,rfl,rfl,_⟩:=G
 obtain⟨D,F,rfl⟩:∃D F,ks=[D,F]:=by
  match ks,U with
  |[D,F],_=>grind
  |[],h=>simp at h
  |[_],h=>simp at h
  |_::_::_::_,h=>grind
 obtain⟨b0,o0,H,e0,r0,i0,l0,j0⟩:=t.arg (j:=0) rfl;obtain⟨b1,o1,I,e1,r1,i1,l1,j1⟩:=t.arg (j:=1) rfl;have a8:=i0.slen;have a9:=i1.slen;have bad:∀g,Sub m g->¬Good (oB D F) on->lZ h K (.val (.bool false)) g h:=λg T t=>bad g T λf=>t f.2.2.2.2.2.2.2;refine⟨b0,o0,e0,aC,aC,H,.imm aC,b1,o1,e1,aC,aC,I,.imm aC,λb m1 hb u c m2 hc A=>?_⟩;have B:b≠c:=λe=>by have:=hc.m_;rw[<-e,u.at_]at this;cases this
 have J:Sub m m1:=(Sub.refl m).upd hb.m_ u.other;have L:m c=none:=J.free hc.m_
 refine⟨λ⟨i,s',t',b',c',g⟩=>s'=H/\t'=I/\b'=b/\c'=c/\i<=on.length/\Sub m g/\Arr g b ((on.take i).map Prod.fst)/\Arr g c ((on.take i).map Prod.snd)/\gY (oB D F) on i,λ⟨i,_,_,_,_,_⟩=>on.length-i,
  ⟨(0,H,I,b,c,m2),⟨rfl,rfl,rfl,rfl,aC,J.upd L A.other,(Arr.zero u.at_).other B A.other,.zero A.at_,.zero⟩,MT⟩,?_⟩
 rintro⟨i,H,I,b,c,g⟩ ⟨rfl,rfl,rfl,rfl,hi,o,hA,hB,hg⟩;dsimp only;refine aF (λM=>?_) (λb4=>.sub o (hK true ⟨λ_=>⟨rfl,rfl,rfl,rfl,rfl,rfl,rfl,hg.all aC⟩,λ_=>rfl⟩));obtain⟨p,O⟩:=fK ol M;obtain⟨bp,V,ep,rp⟩:=x.on_.at O;have d:¬oB D F (on.take i) p->lZ h K (.val (.bool false)) g h:=λt=>bad g o (Good.not O t);refine⟨bp,V,ep,aC,M,p,.imm rp,aC,aC,aC,aC,aF (λd1=>d λf=>?_) (λd1=>aF (λd2=>d λf=>?_) (λd2=>aF (λd3=>d λf=>?_) (λd3=>aF (λd4=>d λf=>?_) (λd4=>?_))))⟩
 .have:=fH.1 f.1;omega
 .have:=fH.1 f.1;omega
 .have:=fH.1 f.2.1;omega
 .have:=fH.1 f.2.1;omega
 obtain⟨b2,o2,e2,r2⟩:=i0.inb (n:=p.1) aC aC;obtain⟨b3,o3,e3,r3⟩:=i1.inb (n:=p.2) aC aC;obtain⟨y,hy,W⟩:=hA.look (h:=h) (n:=p.1) aC aC;obtain⟨z,hz,X⟩:=hB.look (h:=h) (n:=p.2) aC aC;obtain⟨cs,E,Y,Z,a'⟩:=hA.store (n:=p.1) aC aC;refine⟨b2,o2,e2,aC,aC,_,.imm r2,b3,o3,e3,aC,aC,_,.imm r3,aD (λd5=>d λf=>?_) (λd5=>⟨aC,aC,y,hy,aD (λd6=>d λf=>?_) (λd6=>⟨aC,aC,z,hz,aD (λd7=>d λf=>?_) (λd7=>⟨aC,aC,cs,E,Y,Z,λm3 C=>?_⟩)⟩)⟩)⟩
 .rw[f.2.2.1]at d5;simp at d5
 .obtain⟨q,S,e⟩:=mem_map.1 (W.1 d6);exact(f.2.2.2 q S).1 e
 .obtain⟨q,S,e⟩:=mem_map.1 (X.1 d7);exact(f.2.2.2 q S).2 e
 have a2:=a' m3 C;have a3:=hB.other B.symm C.other;obtain⟨a4,E2,P,Q,a6⟩:=a3.store (n:=p.2) aC aC;refine⟨aC,aC,a4,E2,P,Q,λm4 R=>⟨(i+1,H,I,b,c,m4),⟨rfl,rfl,rfl,rfl,aC,(o.upd hb.m_ C.other).upd L R.other,?_,?_,hg.succ O ⟨fH.2 ⟨aC,aC⟩,fH.2 ⟨aC,aC⟩,bg,λq S=>⟨λe=>?_,λe=>?_⟩⟩⟩,aC,MT⟩⟩
 .rw[kA O];exact a2.other B R.other
 .rw[kA O];grind
 .grind
 .grind
def fin(r:cn×Int):=if r.2=0 then nO r.1 else eJ r.2
def Query.op:Query->Int
 |.mk op .. =>op
noncomputable def Ck(s:jZ)(ps:cn)(q:Query)(ks:List cn):=if(ks.length:Int)=arity q.op then eZ s ps q (ks.getD 0 []) (ks.getD 1 [])else eJ 100
def Cm(P:Int->Prop):=λc m h K=>∃n s ps q ks,c=[aN n]/\Cg h s ps q ks n/\oM s/\P q.op/\∀r,fin r=Ck s ps q ks->KR K m h r
def cSQ h c ks:=bM h 1 eS (λk d=>Ints h d k) c ks
def Mc:Vc.Spec:=λc m h K=>∃d ks,c=[cS d]/\cSQ h d ks/\ks.length<=10/\(∀k∈ks,k.length<=12)/\∀e h',PH.le h h'->Ints h' e ks.flatten->K (cS e) m h'
noncomputable def bHQ(n:NV)(m:MH)(h:PH):=
 dK [(236,Ei)] [(5,{A:=Nat×cn,st:=λ⟨i,l⟩=>bY 57 58 [(1,.at (.ptr 1 0)),(4,.at (.lst 25)),(28,sv n.q.columns),(29,iv n.q.columns.len),(30,iv i)] [(1,.cells 190 (n.enc.map .val)),(25,.lst 3 1 (l.map eI))] m h})] [] [] false
abbrev Vo a b:=bG a b (bG bF bF (bG bF bF (bG bF bF (tY pF (tX pF gW)))))
attribute [push_cast] Vo
def I6 n m h K:=
  DS (cE (hX n (jV n (hU n))) (gJ 0 (jO (Vo bF (gZ n.q.table))))) (λc k u=>cE (hX c (jV c (hU c))) (gJ k (cM u))) h (λk q d u r=>gS (iX r↔DY d k q u) (!r) (cG K 100 m h) (aY n.q.table 0 (cG K 100 m h) (iO n.q.table (kM n.s) (cG K 100 m h) (Cr (cT (jO (cC n.s)) n.q.table) h (λs e=>K (CV.tup (cT (nW s) 0)) m e)))))
def I0 n m h K:=
  DS (cE (hX n (jV n (hU n))) (gJ 1 (jO (bG bF bF (bG (gZ n.q.where_.op) (gZ n.q.where_.cmp) (bG (zG (xD n.q)) (zI (xD n.q)) (bG (gZ (qL (xD n.q))) (uC (xD n.q)) (bG (Cc (xD n.q)) (zG (pY n.q)) (bG (zI (pY n.q)) (gZ (qL (pY n.q))) (bG (uC (pY n.q)) (Cc (pY n.q)) (bG (dW n.q.where_.args) pF (tX pF gW)))))))))))) (λd k u=>cE (hX d (jV d (hU d))) (gJ k (cM u))) h (λk q z u r=>gS (iX r↔DY z k q u) (!r) (cG K 100 m h) (bK (λb o=>aA (aR n.args.a b o) ((0:Int)<=0) (0<aG n.args/\∃(y:Sl),aK m h b (o+0) (aL y)/\∃(s t:Sl)(v:PV),FE (λc p=>∃(e:Pred),aA (dC y (gO n.params (gR n.q.where_))=dC s (gO t (gR v))) (Ints h s c) (aA (Ints h
 t p) (fP h e v) (dR (iP c p e) 0 (cG K (iP c p e) m h) (bK (λf g=>aA (aR n.args.a f g) ((0:Int)<=0) (0<aG n.args/\∃(j:Sl),aK m h f (g+0) (aL j)/\K (CV.tup (cT (nW j) 0)) m h))))))))))
abbrev A0(a:NV):=a.q.columns
abbrev Lf(a:(Nat×cn->Prop)->(Nat×cn)->Prop)(b:(Nat×cn->Prop)->(Nat×cn->Nat)->(Nat×cn)->Prop):=∃(x:Nat×cn->Prop)(d:Nat×cn->Nat),(∃(c:Nat×cn),a x c)/\∀(c:Nat×cn),b x d c
abbrev qP(a:Nat×cn):=iL a.2
attribute [push_cast] A0 Lf qP
def IZ n m h K:=
  DS (cE (hX n (jV n (hU n))) (gJ 1 (jO (Im (tY (dW n.q.columns) (tX pF gW)))))) (λd k u=>cE (hX d (jV d (hU d))) (gJ k (cM u))) h (λk q E u r=>(iX r↔DY E k q u)->dQ (!r) (cG K 100 m h) (aG n.q.columns==0) (cG K 100 m h) (aA (cN 0) (cN (aG n.q.columns)) (aA (Ah (A0 n) 8) (Ae (aG (A0 n))) (Lf (λI x=>aA (I x) fB (aA (eL 25) (aI (A0 n)) (aA (bI (A0 n)) (bA x.1) (aA (FG n) (sU x.2) (eM m m h h))))) (λI f x=>I x->aY (↑x.1:Int) (aG (A0 n)) (bK (λb o=>aA (aR (A0 n).a b o) (0<=(↑x.1:Int)) ((↑x.1:Int)<aG (A0 n)/\∃(y:Int),aK m h b (bL o x.1 1) (bC y)/\aY y 0 (cG K 100 m h) (bK (λg j=>aA (aR n.args.a g
 j) ((0:Int)<=0) (0<aG n.args/\∃(t:Sl),aK m h g (j+0) (aL t)/\iO y (aG t) (cG K 100 m h) (bK (λz A=>aA (aR n.args.a z A) ((0:Int)<=0) (0<aG n.args/\∃(e:Sl),aK m h z (A+0) (aL e)/\bK (λB C=>aA (aR e.a B C) (0<=y) (y<aG e/\∃(D:Int),aA (aK m h B (gH C y 1) (bC D)) (A5 (qP x)) (eA (qP x)/\∃(c:Nat×cn),aA (I c) (f c<f x) (aA fB (eL 25) (aA (aI (A0 n)) (bI (A0 n)) (aA (iH (bE x.1 1)=bP c.1) (FG n) (dJ (lW (dP (qP x) (bC D)) c.2) m m h h)))))))))))))))) (uK h (qP x) K m))))))
abbrev kU a b c d e:=cO a b (c+d) e
abbrev vA a:=Gs (nW a)
attribute [push_cast] kU vA
def IY n m h K:=
  ∃(c:NV),FA (λs p q k=>aA (eY (jO (hX n (jV n (hU n)))) (jO (hX c (jV c (hU c))))) (Cg h s p q k c) (∀(r:Bool),gS (iX r↔O5 k q) (!r) (cG K 100 m h) (bK (λb o=>aA (aR n.args.a b o) ((0:Int)<=0) (0<aG n.args/\∃(y:Sl),aK m h b (o+0) (aL y)/\bK (λe f=>aA (aR n.args.a e f) ((0:Int)<=1) (1<aG n.args/\∃(g:Sl),aA (aK m h e (f+1) (aL g)) (kU h b o 0 (aL y)) (kU h e f 1 (aL g)/\cK h 1 (mJ (aL y) (aL g)) (λB t=>∃(u:Sl)(d:List cn),aA (vA B=vA u) (cSQ t u d) (aA (d.length<=10) (∀(z:cn),List.Mem z d->z.length<=12) (∀(A:Sl)(j:PH),bS t j (Ints j A d.flatten) (K (CV.tup (cT (nW A) 0)) m j))))))))))))
def IX n m h K:=
  ∃(c:NV),FA (λs p q k=>aA (eY (jO (hX n (jV n (hU n)))) (jO (hX c (jV c (hU c))))) (Cg h s p q k c) (∀(r:Bool),gS (iX r↔O5 k q) (!r) (cG K 100 m h) (bK (λb o=>aA (aR n.args.a b o) ((0:Int)<=0) (0<aG n.args/\∃(y:Sl),aK m h b (o+0) (aL y)/\K (CV.tup (cT (nW y) 0)) m h)))))
def Ng n m h K:=
  DS (cE (hX n (jV n (hU n))) (gJ 2 (jO zV))) (λc k u=>cE (hX c (jV c (hU c))) (gJ k (cM u))) h (λk q C u r=>gS (iX r↔DY C k q u) (!r) (cG K 100 m h) (bK (λb o=>aA (aR n.args.a b o) ((0:Int)<=0) (0<aG n.args/\∃(y:Sl),aK m h b (o+0) (aL y)/\bK (λd e=>aA (aR n.args.a d e) ((0:Int)<=1) (1<aG n.args/\∃(f:Sl),aK m h d (e+1) (aL f)/\∃(s:Sl),yQ (λt a g=>aA (cD y f=cD s t) (Ints h s a) (Ints h t g/\∀(j:Bool),gS (iX j↔a=g) (!j) (cG K 100 m h) (bK (λz A=>aA (aR n.args.a z A) ((0:Int)<=0) (0<aG n.args/\∃(B:Sl),aK m h z (A+0) (aL B)/\K (CV.tup (cT (nW B) 0)) m h)))))))))))
abbrev Hn(a:Int->Int->Prop):=∃(x c:Int),a x c
abbrev QG(a:cn->cv->Prop):=∃(x:cn)(c:cv),a x c
abbrev D2(a:Int->Int->Pred->cn->cu->cn->cv->Int->db->Prop):=Hn (λx c=>∃(d:Pred)(e:cn)(f:cu),QG (λg j=>∃(n:Int)(o:db),a x c d e f g j n o))
attribute [push_cast] Hn QG D2
def IW n m h K:=
  ∃(e:NV),FA (λs p q k=>aA (eY (jO (hX n (jV n (hU n)))) (jO (hX e (jV e (hU e))))) (Cg h s p q k e) (DS (cE (hX n (jV n (hU n))) (gJ 1 (jO (Im (tY pF (bG pF (yO e.q) (bG (yP e.q) (uT e.q) gW))))))) (λd f u=>cE (hX d (jV d (hU d))) (gJ f (cM u))) h (λf C D u r=>gS (iX r↔DY D f C u) (!r) (cG K 100 m h) (∃(d:NV),FA (λE F j z=>∃(a:cn),aA (eY (jO (hX n (jV n (hU n)))) (jO (hX d (jV d (hU d))))) (Cg h E F j z d) (z[0]? =Option.some a/\∀(A:Bool),gS (iX A↔D2 (λo t w c G g B l H=>j=Query.mk o t w c G g B l H/\nT a g B l)) (!A) (cG K 100 m h) (bK (λb o=>aA (aR n.args.a b o) ((0:
 Int)<=0) (0<aG n.args/\∃(y:Sl),aK m h b (o+0) (aL y)/\K (CV.tup (cT (nW y) 0)) m h)))))))))
def IV n m h K:=
  ∃(e:NV),FA (λs p q k=>aA (eY (jO (hX n (jV n (hU n)))) (jO (hX e (jV e (hU e))))) (Cg h s p q k e) (DS (cE (hX n (jV n (hU n))) (gJ 2 (jO (Im (tY pF (bG pF (yO e.q) (bG (yP e.q) (uT e.q) gW))))))) (λd B u=>cE (hX d (jV d (hU d))) (gJ B (cM u))) h (λB O P u r=>gS (iX r↔DY P B O u) (!r) (cG K 100 m h) (bK (λb o=>aA (aR n.args.a b o) ((0:Int)<=0) (0<aG n.args/\∃(y:Sl),aK m h b (o+0) (aL y)/\bK (λf j=>aA (aR n.args.a f j) ((0:Int)<=1) (1<aG n.args/\∃(z:Sl),aK m h f (j+1) (aL z)/\∃(C:Sl),yQ (λt a D=>aA (cD y z=cD C t) (Ints h C a) (Ints h t D/\∀(E:Bool),gS (iX E↔a=D) (!E) (aA
 (kU h b o 0 (aL y)) (kU h f j 1 (aL z)) (cG K 100 m h)) (aA (kU h b o 0 (aL y)) (kU h f j 1 (aL z)) (∃(d:NV),FA (λQ R F G=>∃(H:cn),aA (eY (jO (hX n (jV n (hU n)))) (jO (hX d (jV d (hU d))))) (Cg h Q R F G d) (G[0]? =Option.some H/\∀(I:Bool),gS (iX I↔D2 (λA S w c T g J l U=>F=Query.mk A S w c T g J l U/\nT H g J l)) (!I) (cG K 100 m h) (bK (λL A=>aA (aR n.args.a L A) ((0:Int)<=0) (0<aG n.args/\∃(M:Sl),aK m h L (A+0) (aL M)/\K (CV.tup (cT (nW M) 0)) m h)))))))))))))))))
theorem VG{e}(h:e≠0):fin (eJ e)=eJ e:=by unfold fin;rw[if_neg (by simpa[eJ]using h)];rfl
theorem aGJ l:fin (l,0)=nO l:=by unfold fin;grind
structure Tst(K:cq)(m:MH)(h:PH)(full:cn×Int):Prop where
 all:∀r,fin r=full->KR K m h r
theorem Tst.err{f e}(x:Tst K m h f)(d:f=eJ e)(g:e≠0)(c:PH.le h h'):K (.tup [.val (.slice none 0 0),.val (.int .i64 e)]) m h':=
 (x.all (eJ e) (by rw[d,VG g])).err c rfl
theorem Tst.ok{f sl}(x:Tst K m h f)(d:f=nO l)(c:PH.le h h')(e:Ints h' sl l):K (.tup [.val (.slice sl.a sl.len sl.cap),.val (.int .i64 0)]) m h':=
 x.all (l,0) (by rw[d,aGJ]) sl h' c e
theorem An{q}(h:¬((ks.length:Int)=arity q.op/\cY q)):Ck s ps q ks=eJ 100:=by
 unfold Ck;by_cases c:(ks.length:Int)=arity q.op
 .rw[if_pos c];unfold eZ;rw[if_pos (.inr λe=>h ⟨c,e⟩)]
 grind
theorem tR{s:jZ}{ps op ta w co on gr od li args ks}(c:(ks.length:Int)=arity op)(d:cY (.mk op ta w co on gr od li args))(e:0<=arity op):
 Ck s ps (.mk op ta w co on gr od li args) ks=eZ s ps (.mk op ta w co on gr od li args) (ks.getD 0 []) (ks.getD 1 [])/\¬(arity op<0\/¬cY (.mk op ta w co on gr od li args)):=by
 unfold Ck;rw[if_pos (show(ks.length:Int)=arity (Query.op (.mk op ta w co on gr od li args))from c)]
 grind
section
variable{n:NV}{s:jZ}{ps:cn}{ta:Int}{w:Pred}{co:cn}{on:cu}{gr:cn}{od:cv}{li:Int}{args:db}{ks:List cn}{m:MH}{h:PH}{K:cq}
theorem Zm(c:(ks.length:Int)=1):∃a,ks=[a]:=by
 match ks,c with
 |[a],_=>grind
 |[],h=>simp at h
 |_::_::_,h=>grind
theorem U2(c:(ks.length:Int)=2):∃a b,ks=[a,b]:=by
 match ks,c with
 |[a,b],_=>grind
 |[],h=>simp at h
 |[_],h=>simp at h
 |_::_::_::_,h=>grind
theorem cuX(f:Cg h s ps (.mk 1 ta w co on gr od li args) ks n)(u:oM s)(c:Tst K m h (Ck s ps (.mk 1 ta w co on gr od li args) ks)):I6 n m h K:=by
 dsimp only[I6,push_cast];have x:=f.q_.parts;have j:=x.table_;have y:=f.s_.tables.slen;refine⟨n,0,⟨0,n.q.table,⟨0,0,gL,gL,⟨none,0,0⟩⟩,⟨none,0,0⟩,⟨none,0,0⟩,⟨none,0,0⟩,⟨none,0,0⟩,0,⟨none,0,0⟩⟩,s,ps,_,ks,.mk 0 ta gG [] [] [] [] 0 [],rfl,f,uE.rep ⟨rfl,j,Fq h,⟨.nil _ _,ay⟩,⟨.nil _ _,ay⟩,⟨.nil _ _,ay⟩,⟨.nil _ _,ay⟩,rfl,.nil _ _ _ _⟩,λr o=>aD (λz=>c.err (An λe=>?_) aC (.refl _)) (λz=>?_)⟩
 .have:r=true:=o.2 ⟨e.1,by have:=e.2;simp[cY]at this;obtain⟨rfl,rfl,rfl,rfl,rfl,rfl⟩:=this;rfl⟩
  grind
 obtain⟨A,d⟩:=o.1 bg;simp only[Query.withOf,Query.mk.injEq]at d;obtain⟨_,_,rfl,rfl,rfl,rfl,rfl,rfl,_⟩:=d;obtain⟨B,C⟩:=tR (s:=s) (ps:=ps) (op:=1) (ta:=ta) (w:=gG) (co:=[]) (on:=[]) (gr:=[]) (od:=[]) (li:=0) (args:=args) (ks:=ks) A (by simp[cY]) az;rw[B]at c;unfold eZ at c;rw[if_neg C]at c;dsimp only at c;rw[if_pos rfl]at c;refine aF (λD=>c.err (if_neg aC) aC (.refl _)) (λD=>aF (λE=>c.err (if_neg aC) aC (.refl _)) (λE=>⟨n.s,s,n.q.table,rfl,f.s_,u,λy h' g t=>?_⟩));rw[j]at t;exact c.ok (if_pos aC) g t
theorem cuQ(f:Cg h s ps (.mk 2 ta w co on gr od li args) ks n)(c:Tst K m h (Ck s ps (.mk 2 ta w co on gr od li args) ks)):I0 n m h K:=by
 dsimp only[I0,push_cast];have x:=f.q_.parts;refine⟨n,1,⟨0,0,n.q.where_,⟨none,0,0⟩,⟨none,0,0⟩,⟨none,0,0⟩,⟨none,0,0⟩,0,⟨none,0,0⟩⟩,s,ps,_,ks,.mk 0 0 w [] [] [] [] 0 [],rfl,f,uE.rep ⟨rfl,rfl,x.where_,⟨.nil _ _,ay⟩,⟨.nil _ _,ay⟩,⟨.nil _ _,ay⟩,⟨.nil _ _,ay⟩,rfl,.nil _ _ _ _⟩,λr o=>aD (λB=>c.err (An λe=>?_) aC (.refl _)) (λB=>?_)⟩
 .have:r=true:=o.2 ⟨e.1,by have:=e.2;simp[cY]at this;obtain⟨rfl,rfl,rfl,rfl,rfl,rfl⟩:=this;rfl⟩
  grind
 obtain⟨t,d⟩:=o.1 bg;simp only[Query.withOf,Query.mk.injEq]at d;obtain⟨_,rfl,_,rfl,rfl,rfl,rfl,rfl,_⟩:=d;obtain⟨C,D⟩:=tR (s:=s) (ps:=ps) (op:=2) (ta:=0) (w:=w) (co:=[]) (on:=[]) (gr:=[]) (od:=[]) (li:=0) (args:=args) (ks:=ks) t (by simp[cY]) az;rw[C]at c;unfold eZ at c;rw[if_neg D]at c;dsimp only at c;rw[if_neg az,if_pos rfl]at c;obtain⟨a,rfl⟩:=Zm t;obtain⟨u,y,g,z,F,A,G,H⟩:=f.arg (j:=0) rfl;simp only[getD_cons_zero]at c;refine⟨u,y,z,aC,aC,g,.imm aC,g,n.params,n.q.where_,a,ps,w,rfl,A,f.ps_,x.where_,aD (λE=>c.err (if_neg bg) bg (.refl _)) (λE=>⟨u,y,z,aC,aC,g,.imm aC,c.ok (if_pos bg) (.refl _) A⟩)⟩
theorem ctQ(t:Cg h s ps (.mk 5 ta w co on gr od li args) ks n)(d:Tst K m h (Ck s ps (.mk 5 ta w co on gr od li args) ks)):IX n m h K:=by
 dsimp only[IX,push_cast];refine⟨n,s,ps,_,ks,rfl,t,λr u=>aD (λy=>d.err ?_ aC (.refl _)) (λy=>?_)⟩
 .by_cases f:((ks.length:Int)=arity 5/\cY (.mk 5 ta w co on gr od li args))
  .obtain⟨g,o⟩:=tR (s:=s) (ps:=ps) f.1 f.2 az;rw[g];unfold eZ;rw[if_neg o];dsimp only;rw[if_neg az,if_neg az,if_neg az,if_neg az,if_pos rfl,if_neg];intro c;have e:=f.2;simp[cY]at e;have:r=true:=u.2 ⟨by have:=f.1;simp[arity]at this;omega,e.1,e.2.1,e.2.2.1,e.2.2.2.1,e.2.2.2.2.1,e.2.2.2.2.2,c⟩
   grind
  .exact An f
 obtain⟨z,rfl,rfl,rfl,rfl,rfl,rfl,c⟩:=u.1 bg;obtain⟨g,o⟩:=tR (s:=s) (ps:=ps) (op:=5) (ta:=0) (w:=gG) (co:=[]) (on:=on) (gr:=[]) (od:=[]) (li:=0) (args:=args) (ks:=ks) (by rw[z];rfl) (by simp[cY]) az;rw[g]at d;unfold eZ at d;rw[if_neg o]at d;dsimp only at d;rw[if_neg az,if_neg az,if_neg az,if_neg az,if_pos rfl,if_pos c]at d;obtain⟨a,b,rfl⟩:=U2 (ks:=ks) aC;obtain⟨A,B,C,D,F,E,G,H⟩:=t.arg (j:=0) rfl;exact⟨A,B,D,aC,aC,C,.imm aC,d.ok rfl (.refl _) E⟩
theorem ctX(y:Cg h s ps (.mk 4 ta w co on gr od li args) ks n)(f:Tst K m h (Ck s ps (.mk 4 ta w co on gr od li args) ks)):IY n m h K:=by
 dsimp only[IY,push_cast];refine⟨n,s,ps,_,ks,rfl,y,λr D=>aD (λE=>f.err ?_ aC (.refl _)) (λE=>?_)⟩
 .by_cases o:((ks.length:Int)=arity 4/\cY (.mk 4 ta w co on gr od li args))
  .obtain⟨z,A⟩:=tR (s:=s) (ps:=ps) o.1 o.2 az;rw[z];unfold eZ;rw[if_neg A];dsimp only;rw[if_neg az,if_neg az,if_neg az,if_pos rfl,if_neg];intro c;have e:=o.2;simp[cY]at e;have:r=true:=D.2 ⟨by have:=o.1;simp[arity]at this;omega,e.1,e.2.1,e.2.2.1,e.2.2.2.1,e.2.2.2.2.1,e.2.2.2.2.2,c⟩
   grind
  .exact An o
 obtain⟨d,rfl,rfl,rfl,rfl,rfl,rfl,c⟩:=D.1 bg;obtain⟨z,A⟩:=tR (s:=s) (ps:=ps) (op:=4) (ta:=0) (w:=gG) (co:=[]) (on:=on) (gr:=[]) (od:=[]) (li:=0) (args:=args) (ks:=ks) (by rw[d];rfl) (by simp[cY]) az;rw[z]at f;unfold eZ at f;rw[if_neg A]at f;dsimp only at f;rw[if_neg az,if_neg az,if_neg az,if_pos rfl,if_pos c]at f;obtain⟨a,b,rfl⟩:=U2 (ks:=ks) aC;obtain⟨F,G,B,H,S,I,T,U⟩:=y.arg (j:=0) rfl;obtain⟨J,L,C,M,V,O,W,X⟩:=y.arg (j:=1) rfl;refine⟨F,G,H,aC,aC,B,.imm aC,J,L,M,aC,aC,C,.imm aC,aC,aC,λP h' g t=>⟨P,[a,b],rfl,⟨⟨[B,C],t,rfl,λj k d=>?_⟩,ay⟩,ay,λk d=>y.len k d,λQ e u R=>f.ok (l:=a++b) ay (g.trans u) bg⟩⟩
 match j,d with
 |0,d=>simp at d;subst d;exact⟨B,rfl,I.mono g⟩
 |1,d=>simp at d;subst d;exact⟨C,rfl,O.mono g⟩
 |_+2,d=>simp at d
theorem csJ{op}(t:op=6\/op=7\/op=8)(o:Cg h s ps (.mk op ta w co on gr od li args) ks n)(d:Tst K m h (Ck s ps (.mk op ta w co on gr od li args) ks)):Ng n m h K:=by
 dsimp only[Ng,push_cast];have x:=o.q_.parts;have P:arity op=2:=by rcases t with rfl|rfl|rfl<;>rfl
 have c:op≠1/\op≠2/\op≠3/\op≠4/\op≠5/\op≠9/\op≠10:=by omega
 refine⟨n,2,⟨0,0,⟨0,0,gL,gL,⟨none,0,0⟩⟩,⟨none,0,0⟩,⟨none,0,0⟩,⟨none,0,0⟩,⟨none,0,0⟩,0,⟨none,0,0⟩⟩,s,ps,_,ks,.mk 0 0 gG [] [] [] [] 0 [],rfl,o,uE.rep ⟨rfl,rfl,Fq h,⟨.nil _ _,ay⟩,⟨.nil _ _,ay⟩,⟨.nil _ _,ay⟩,⟨.nil _ _,ay⟩,rfl,.nil _ _ _ _⟩,λr z=>aD (λG=>d.err (An λe=>?_) aC (.refl _)) (λG=>?_)⟩
 .have A:(ks.length:Int)=arity op:=e.1;have:r=true:=z.2 ⟨aC,by have:=e.2;simp[cY,c]at this;obtain⟨rfl,rfl,rfl,rfl,rfl,rfl,rfl⟩:=this;rfl⟩
  grind
 obtain⟨H,f⟩:=z.1 bg;simp only[Query.withOf,Query.mk.injEq]at f;obtain⟨_,rfl,rfl,rfl,rfl,rfl,rfl,rfl,_⟩:=f;obtain⟨I,J⟩:=tR (s:=s) (ps:=ps) (op:=op) (ta:=0) (w:=gG) (co:=[]) (on:=[]) (gr:=[]) (od:=[]) (li:=0) (args:=args) (ks:=ks) aC (by simp[cY]) aC;rw[I]at d;unfold eZ at d;rw[if_neg J]at d;dsimp only at d;rw[if_neg c.1,if_neg c.2.1,if_neg c.2.2.1,if_neg c.2.2.2.1,if_neg c.2.2.2.2.1,if_neg c.2.2.2.2.2.1,if_neg c.2.2.2.2.2.2]at d;obtain⟨a,b,rfl⟩:=U2 H;obtain⟨B,C,u,D,Q,E,R,S⟩:=o.arg (j:=0) rfl;obtain⟨L,M,F,A,T,O,U,V⟩:=o.arg (j:=1) rfl;refine⟨B,C,D,aC,aC,u,.imm aC,L,M,A,aC,aC,F,.imm aC,u,F,a,b,rfl,E,O,λW g=>aD (λy=>d.err (if_neg λe=>?_) aC (.refl _)) (λy=>⟨B,C,D,aC,aC,u,.imm aC,d.ok (if_pos (g.1 bg)) (.refl _) E⟩)⟩;have e:a=b:=e;rw[g.2 e]at y;cases y
theorem ctJ(z:Cg h s ps (.mk 3 ta w co on gr od li args) ks n)(d:Tst K m h (Ck s ps (.mk 3 ta w co on gr od li args) ks)):IZ n m h K:=by
 dsimp only[IZ,push_cast];have x:=z.q_.parts;have E:=x.columns_.slen;have F:=x.columns_.len;refine⟨n,1,⟨0,0,⟨0,0,gL,gL,⟨none,0,0⟩⟩,n.q.columns,⟨none,0,0⟩,⟨none,0,0⟩,⟨none,0,0⟩,0,⟨none,0,0⟩⟩,s,ps,_,ks,.mk 0 0 gG co [] [] [] 0 [],rfl,z,uE.rep ⟨rfl,rfl,Fq h,x.columns_,⟨.nil _ _,ay⟩,⟨.nil _ _,ay⟩,⟨.nil _ _,ay⟩,rfl,.nil _ _ _ _⟩,λr G=>aD (λQ=>d.err (An λe=>?_) aC (.refl _)) (λQ=>?_)⟩
 .have:r=true:=G.2 ⟨e.1,by have:=e.2;simp[cY]at this;obtain⟨rfl,rfl,rfl,rfl,rfl,rfl⟩:=this;rfl⟩
  grind
 obtain⟨H,o⟩:=G.1 bg;simp only[Query.withOf,Query.mk.injEq]at o;obtain⟨_,rfl,rfl,_,rfl,rfl,rfl,rfl,_⟩:=o;obtain⟨R,S⟩:=tR (s:=s) (ps:=ps) (op:=3) (ta:=0) (w:=gG) (co:=co) (on:=[]) (gr:=[]) (od:=[]) (li:=0) (args:=args) (ks:=ks) H (by simp[cY]) az;rw[R]at d;unfold eZ at d;rw[if_neg S]at d;dsimp only at d;rw[if_neg az,if_neg az,if_pos rfl]at d;obtain⟨a,rfl⟩:=Zm H;obtain⟨I,J,L,M,r0,O,l0,j0⟩:=z.arg (j:=0) rfl;have T:=O.slen;simp only[getD_cons_zero]at d;refine aD (λP=>d.err (if_neg λe=>e.1 ((EW E).1 P)) aC (.refl _)) (λP=>?_);have A:co≠[]:=λe=>bg
 refine⟨aC,aC,aC,aC,λ⟨i,l⟩=>i<=co.length/\l=(co.take i).map (λc=>a.getD c.toNat 0)/\gY (λ_ c=>C0 a c=true) co i,λ⟨i,_⟩=>co.length-i,⟨(0,[]),⟨aC,ay,.zero⟩,MT⟩,?_⟩;rintro⟨i,_⟩ ⟨hi,rfl,t⟩;dsimp only;refine aF (λu=>?_) (λU sl h' B f=>?_)
 .obtain⟨c,y⟩:=fK E u;obtain⟨V,W,C,X⟩:=x.columns_.at' y;have g:¬C0 a c=true->K (.tup [.val (.slice none 0 0),.val (.int .i64 100)]) m h:=λY=>d.err (if_neg λe=>Y (e.2 i c y)) aC (.refl _);refine⟨V,W,C,aC,u,c,.imm X,aF (λZ=>g λe=>?_) (λZ=>⟨I,J,M,aC,aC,L,.imm aC,aF (λd3=>g λe=>?_) (λd3=>?_)⟩)⟩
  .have:=fH.1 e;omega
  .have:=fH.1 e;omega
  obtain⟨b2,o2,D,r2⟩:=O.inb (n:=c) aC aC;refine⟨I,J,M,aC,aC,L,.imm aC,b2,o2,D,aC,aC,_,.imm r2,?_,?_,(i+1,(co.take (i+1)).map (λc=>a.getD c.toNat 0)),⟨aC,rfl,t.succ y (fH.2 ⟨aC,aC⟩)⟩,aC,?_⟩
  .simp;omega
  .simp;omega
  .rw[kA y,bu];exact MT
 .rw[bt aC]at f;exact d.ok (if_pos ⟨A,t.all aC⟩) B ⟨f,bf⟩
theorem csZ(d:Cg h s ps (.mk 9 ta w co on gr od li args) ks n)(c:Tst K m h (Ck s ps (.mk 9 ta w co on gr od li args) ks)):IW n m h K:=by
 dsimp only[IW,push_cast];have x:=d.q_.parts;refine⟨n,s,ps,_,ks,rfl,d,n,1,⟨0,0,⟨0,0,gL,gL,⟨none,0,0⟩⟩,⟨none,0,0⟩,⟨none,0,0⟩,n.q.group,n.q.order,n.q.limit,⟨none,0,0⟩⟩,s,ps,_,ks,.mk 0 0 gG [] [] gr od li [],rfl,d,uE.rep ⟨rfl,rfl,Fq h,⟨.nil _ _,ay⟩,⟨.nil _ _,ay⟩,x.group_,x.order_,x.limit_,.nil _ _ _ _⟩,λr g=>aD (λt=>c.err (An λe=>?_) aC (.refl _)) (λt=>?_)⟩
 .have:r=true:=g.2 ⟨e.1,by have:=e.2;simp[cY]at this;obtain⟨rfl,rfl,rfl,rfl⟩:=this;rfl⟩
  grind
 obtain⟨o,f⟩:=g.1 bg;simp only[Query.withOf,Query.mk.injEq]at f;obtain⟨_,rfl,rfl,rfl,rfl,_,_,_,_⟩:=f;obtain⟨u,y⟩:=tR (s:=s) (ps:=ps) (op:=9) (ta:=0) (w:=gG) (co:=[]) (on:=[]) (gr:=gr) (od:=od) (li:=li) (args:=args) (ks:=ks) o (by simp[cY]) az;rw[u]at c;unfold eZ at c;rw[if_neg y]at c;dsimp only at c;rw[if_neg az,if_neg az,if_neg az,if_neg az,if_neg az,if_pos rfl]at c;obtain⟨a,rfl⟩:=Zm o;obtain⟨z,A,B,C,G,D,H,I⟩:=d.arg (j:=0) rfl;refine⟨n,s,ps,_,[a],a,rfl,d,rfl,λJ E=>aD (λF=>c.err (if_neg λe=>?_) aC (.refl _)) (λF=>⟨z,A,C,aC,aC,B,.imm aC,c.ok (if_pos ?_) (.refl _) D⟩)⟩
 .grind
 grind
theorem csX(d:Cg h s ps (.mk 10 ta w co on gr od li args) ks n)(c:Tst K m h (Ck s ps (.mk 10 ta w co on gr od li args) ks)):IV n m h K:=by
 dsimp only[IV,push_cast];have x:=d.q_.parts;refine⟨n,s,ps,_,ks,rfl,d,n,2,⟨0,0,⟨0,0,gL,gL,⟨none,0,0⟩⟩,⟨none,0,0⟩,⟨none,0,0⟩,n.q.group,n.q.order,n.q.limit,⟨none,0,0⟩⟩,s,ps,_,ks,.mk 0 0 gG [] [] gr od li [],rfl,d,uE.rep ⟨rfl,rfl,Fq h,⟨.nil _ _,ay⟩,⟨.nil _ _,ay⟩,x.group_,x.order_,x.limit_,.nil _ _ _ _⟩,λr t=>aD (λD=>c.err (An λe=>?_) aC (.refl _)) (λD=>?_)⟩
 .have:r=true:=t.2 ⟨e.1,by have:=e.2;simp[cY]at this;obtain⟨rfl,rfl,rfl,rfl⟩:=this;rfl⟩
  grind
 obtain⟨u,f⟩:=t.1 bg;simp only[Query.withOf,Query.mk.injEq]at f;obtain⟨_,rfl,rfl,rfl,rfl,_,_,_,_⟩:=f;obtain⟨E,F⟩:=tR (s:=s) (ps:=ps) (op:=10) (ta:=0) (w:=gG) (co:=[]) (on:=[]) (gr:=gr) (od:=od) (li:=li) (args:=args) (ks:=ks) u (by simp[cY]) az;rw[E]at c;unfold eZ at c;rw[if_neg F]at c;dsimp only at c;rw[if_neg az,if_neg az,if_neg az,if_neg az,if_neg az,if_neg az,if_pos rfl]at c;obtain⟨a,b,rfl⟩:=U2 u;obtain⟨y,z,g,A,P,B,Q,R⟩:=d.arg (j:=0) rfl;obtain⟨G,H,C,I,S,J,T,U⟩:=d.arg (j:=1) rfl;refine⟨y,z,A,aC,aC,g,.imm aC,G,H,I,aC,aC,C,.imm aC,g,C,a,b,rfl,B,J,λV o=>aD (λL=>⟨aC,aC,c.err (if_neg λe=>?_) aC (.refl _)⟩) (λL=>⟨aC,aC,n,s,ps,_,[a,b],a,rfl,d,rfl,λW M=>aD (λO=>c.err (if_neg λe=>?_) aC (.refl _)) (λO=>⟨y,z,A,aC,aC,g,.imm aC,c.ok (if_pos ⟨o.1 bg,?_⟩) (.refl _) B⟩)⟩)⟩
 .grind
 .grind
 .grind
end
def fv(f:Nat):CV:=.val (.func (.func f) #[] #[])
def UJ:Vc.Spec:=λc m h K=>∃op,c=[cI op]/\
 branch (op==1) (K (fv 187) m h) (branch (op==2) (K (fv 188) m h) (branch (op==3) (K (fv 189) m h) (branch (op==4) (K (fv 190) m h) (branch (op==5) (K (fv 191) m h) (branch (op==6) (K (fv 192) m h) (branch (op==7) (K (fv 192) m h) (branch (op==8) (K (fv 192) m h) (branch (op==9) (K (fv 193) m h) (branch (op==10) (K (fv 194) m h) (K (.val .nilFunc) m h))))))))))
noncomputable def ckX(N:Nat)(sc:bT)(p:Sl)(v:QV)(m:MH):=
 dK [(75,GM N),(141,UJ),(187,Cm (· =1)),(188,Cm (· =2)),(189,Cm (· =3)),(190,Cm (· =4)),(191,Cm (· =5)),(192,Cm (λop=>op=6\/op=7\/op=8)),(193,Cm (· =9)),(194,Cm (· =10))] [(3,{A:=Nat×cw×PH,st:=λ⟨i,c,h⟩=>bY 62 65 [(1,sv p),(3,.at (.ptr 3 0)),(5,.at (.ptr 5 0)),(8,.at (.ptr 8 0)),(21,sv v.args),(22,iv v.args.len),(23,iv i)] [(3,.cells 27 (sc.enc.map .val)),(5,.cells 41 (v.enc.map .val)),(8,.cells 190 ((sc.enc++eS p++v.enc).map .val++[.lst 41])),(41,.lst 36 1 (c.map eS))] m h})] [] [] false
abbrev Lo:=pD Value.nilFunc
abbrev qO a:=Value.func (Fn.func a) sJ sJ
attribute [push_cast] Lo qO
def No(op:Int)(m:MH)(h:PH)(K:cq):=
  ∀(b:Nat)(e:MH),bH (cW m h b) (bJ m e b (bG Value.nilFunc Value.nilFunc (bG Value.nilFunc Value.nilFunc (bG Value.nilFunc Value.nilFunc (bG Value.nilFunc Value.nilFunc (bG Value.nilFunc Value.nilFunc Lo))))) 241) (gT (λc E=>aA (sL e b (fA c E 0)) (11<=c.size) (∀(d:MH),bJ e d b (bG Value.nilFunc (qO 187) (bG (qO 188) (qO 189) (bG (qO 190) (qO 191) (bG (qO 192) (qO 192) (bG (qO 192) (qO 193) (iC (qO 194) 11 c)))))) E->aY op 0 (K (CV.val Value.nilFunc) d h) (iO op 11 (K (CV.val Value.nilFunc) d h) (aA (cN op) (op<11) (∃(y:Option Nat),aK d h b (gH 0 op 1) (pD (bSJ y))/\K (CV.val (bSJ y)) d h))))))
abbrev zM(a:Nat×cw×PH)(b:bT)(c:Sl)(d:QV)(e:Sl->cr)(g:NV->cr)(i:Query->Prop)(j:(cn×Int)->Sl->PH->Prop):=cK (pJ a) 1 (wT a) (λx y=>∃(z:NV),FA (λf A o B=>aA (Gs (jO (bG (gZ b.version) (dW b.tables) (bG (dW c) (gZ d.op) (bG (gZ d.table) (gZ d.where_.op) (bG (gZ d.where_.cmp) (zG (xD d)) (e x))))))=Gs (jO (g z))) (Cg y f A o B z) (aA (oM f) (i o) (∀(t:cn×Int),fin t=Ck f A o B->∀(C:Sl)(u:PH),bS y u (Ints u C t.1) (j t C u)))))
abbrev zT a b:=bG (zI (xD a)) (gZ (qL (xD a))) (bG (uC (xD a)) (Cc (xD a)) (bG (zG (pY a)) (zI (pY a)) (bG (gZ (qL (pY a))) (uC (pY a)) b)))
attribute [push_cast] zM zT
def XE N sc p v m h K:=
  Pn (λI x=>aA (I x) (aI p) (aA (eP 3) fT (aA iT (aI v.args) (aA (wG v) (bA x.1) (aA (cV sc) (fU v) (aA (eQ (oQ 190 (gU (KA sc) (Kz sc) (gU (yY p) (kL v.op) (zJ v::yC v v.on (En v) (Eo v) (gU (kL v.limit) (yY v.args) (uH (At.lst 41)))))))) (bW 36 1 []=oI 36 1 x.2.1) (eM m m h (pJ x)))))))) (λI e x=>I x->aY (↑x.1:Int) (aG v.args) (bK (λb o=>aA (aR v.args.a b o) (0<=(↑x.1:Int)) ((↑x.1:Int)<aG v.args/\∃(y:QV),aK m (pJ x) b (bL o x.1 21) y.enc/\KN sc p y (pJ x) N (λs f q g c=>dR (aJ s f q).2 0 (K (CV.tup (tN EH (CV.val (gZ (aJ s f q).2)))) m c) (aA (lL (wT x)) (eA (wT x)) (∃(d:Nat×cw×PH),aA (I d) (e d<e x) (aA (aI p) j8 (aA fT iT (aA
 (aI v.args) (wG v) (aA (iH (bE x.1 1)=bP d.1) (cV sc) (aA (fU v) (eQ (oQ 190 (gU (KA sc) (Kz sc) (gU (yY p) (kL v.op) (zJ v::yC v v.on (En v) (Eo v) (gU (kL v.limit) (yY v.args) (uH (At.lst 41)))))))) (dJ (bW 36 1 (dP (wT x) (aL g))=oI 36 1 d.2.1) m m c (pJ d))))))))))))) (∃(o:Int),mG v.op o/\dQ (o==1) (zM x sc p v (λs=>zT v (B9 (pY v) v v.on s)) (λn=>hX n (jV n (hU n))) (λq=>q.op=1) (λr s c=>qC (r.2 !=0) (cG K r.2 m c) (aG s) 12 (cG K 2 m c) (K (CV.tup (cT (nW s) 0)) m c))) (o==2) (zM x sc p v (λs=>zT v (B9 (pY v) v v.on s)) (λn=>hX n (jV n (hU n))) (λq=>q.op=2) (λr s c=>qC (r.2 !=0) (cG K r.2 m c) (aG s) 12 (cG K 2 m c) (K
 (CV.tup (cT (nW s) 0)) m c))) (dQ (o==3) (zM x sc p v (λs=>zT v (B9 (pY v) v v.on s)) (λn=>hX n (jV n (hU n))) (λq=>q.op=3) (λr s c=>qC (r.2 !=0) (cG K r.2 m c) (aG s) 12 (cG K 2 m c) (K (CV.tup (cT (nW s) 0)) m c))) (o==4) (zM x sc p v (λs=>zT v (B9 (pY v) v v.on s)) (λn=>hX n (jV n (hU n))) (λq=>q.op=4) (λr s c=>qC (r.2 !=0) (cG K r.2 m c) (aG s) 12 (cG K 2 m c) (K (CV.tup (cT (nW s) 0)) m c))) (dQ (o==5) (zM x sc p v (λs=>zT v (B9 (pY v) v v.on s)) (λn=>hX n (jV n (hU n))) (λq=>q.op=5) (λr s c=>qC (r.2 !=0) (cG K r.2 m c) (aG s) 12 (cG K 2 m c) (K (CV.tup (cT (nW s) 0)) m c))) (o==6) (zM x sc p v (λs=>zT v (B9 (pY v)
 v v.on s)) (λn=>hX n (jV n (hU n))) (λq=>q.op=6\/q.op=7\/q.op=8) (λr s c=>qC (r.2 !=0) (cG K r.2 m c) (aG s) 12 (cG K 2 m c) (K (CV.tup (cT (nW s) 0)) m c))) (dQ (o==7) (zM x sc p v (λs=>zT v (B9 (pY v) v v.on s)) (λn=>hX n (jV n (hU n))) (λq=>q.op=6\/q.op=7\/q.op=8) (λr s c=>qC (r.2 !=0) (cG K r.2 m c) (aG s) 12 (cG K 2 m c) (K (CV.tup (cT (nW s) 0)) m c))) (o==8) (zM x sc p v (λs=>zT v (B9 (pY v) v v.on s)) (λn=>hX n (jV n (hU n))) (λq=>q.op=6\/q.op=7\/q.op=8) (λr s c=>qC (r.2 !=0) (cG K r.2 m c) (aG s) 12 (cG K 2 m c) (K (CV.tup (cT (nW s) 0)) m c))) (dQ (o==9) (zM x sc p v (λs=>zT v (B9 (pY v) v v.on s)) (λn=>hX n
 (jV n (hU n))) (λq=>q.op=9) (λr s c=>qC (r.2 !=0) (cG K r.2 m c) (aG s) 12 (cG K 2 m c) (K (CV.tup (cT (nW s) 0)) m c))) (o==10) (zM x sc p v (λs=>zT v (B9 (pY v) v v.on s)) (λn=>hX n (jV n (hU n))) (λq=>q.op=10) (λr s c=>qC (r.2 !=0) (cG K r.2 m c) (aG s) 12 (cG K 2 m c) (K (CV.tup (cT (nW s) 0)) m c))) (cG K 100 m (pJ x))))))))
theorem anX:cm 141 UJ:=by
 refine EY func141 ?_;rintro u m h K ⟨op,rfl,f⟩;refine⟨qD [] [] [] [] [241] [] false,rfl,aH,No op m h (lZ h K),ax,?_⟩;show No op m h (lZ h K);dsimp only[No,push_cast];intro b L t g;refine⟨_,_,⟨g.at_⟩,az,λy j=>?_⟩;have c:Sub m y:=((Sub.refl m).upd t.m_ g.other).upd t.m_ j.other;have e:=j.at_
 have d:∀k,¬(1<=op/\op<=10)->op=k->K (.val .nilFunc) m h:=λk M _=>by
  have:(op==1)=false/\(op==2)=false/\(op==3)=false/\(op==4)=false/\(op==5)=false/\(op==6)=false/\(op==7)=false/\(op==8)=false/\(op==9)=false/\(op==10)=false:=by
   grind
  obtain⟨z,A,B,C,D,E,F,G,H,o⟩:=this;rw[z,A,B,C,D,E,F,G,H,o]at f;exact f
 refine aF (λI=>.sub c (d _ aC rfl)) (λI=>aF (λJ=>.sub c (d _ aC rfl)) (λJ=>⟨aC,aC,?_⟩));have:op=0\/op=1\/op=2\/op=3\/op=4\/op=5\/op=6\/op=7\/op=8\/op=9\/op=10:=by omega
 rcases this with rfl|rfl|rfl|rfl|rfl|rfl|rfl|rfl|rfl|rfl|rfl
 .exact⟨none,.lent _ _ _ e rfl,.sub c (d 0 aC rfl)⟩
 .exact⟨some 187,.lent _ _ _ e rfl,.sub c f⟩
 .exact⟨some 188,.lent _ _ _ e rfl,.sub c f⟩
 .exact⟨some 189,.lent _ _ _ e rfl,.sub c f⟩
 .exact⟨some 190,.lent _ _ _ e rfl,.sub c f⟩
 .exact⟨some 191,.lent _ _ _ e rfl,.sub c f⟩
 .exact⟨some 192,.lent _ _ _ e rfl,.sub c f⟩
 .exact⟨some 192,.lent _ _ _ e rfl,.sub c f⟩
 .exact⟨some 192,.lent _ _ _ e rfl,.sub c f⟩
 .exact⟨some 193,.lent _ _ _ e rfl,.sub c f⟩
 .exact⟨some 194,.lent _ _ _ e rfl,.sub c f⟩
theorem afX:cm 187 (Cm (· =1)):=by
 refine jC func187 ?_;rintro d m h K ⟨n,s,ps,q,ks,rfl,e,f,c,g⟩;obtain⟨op,ta,w,co,on,gr,od,li,args⟩:=q;refine⟨dK [(236,Ei),(69,xL)] [] [] [] false,rfl,(aE yT (aE IM aH)),I6 n m h K,ax,?_⟩;dsimp only[I6,push_cast];cases (show op=1 from c);exact cuX e f ⟨g⟩
theorem afQ:cm 188 (Cm (· =2)):=by
 refine jC func188 ?_;rintro d m h K ⟨n,s,ps,q,ks,rfl,e,g,c,f⟩;obtain⟨op,ta,w,co,on,gr,od,li,args⟩:=q;refine⟨dK [(236,Ei),(138,vJ)] [] [] [] false,rfl,(aE yT (aE JV aH)),I0 n m h K,ax,?_⟩;dsimp only[I0,push_cast];cases (show op=2 from c);exact cuQ e ⟨f⟩
theorem aeJ:cm 189 (Cm (· =3)):=by
 refine jC func189 ?_;rintro d m h K ⟨n,s,ps,q,ks,rfl,e,g,c,f⟩;obtain⟨op,ta,w,co,on,gr,od,li,args⟩:=q;refine⟨bHQ n m h,rfl,(aE yT aH),IZ n m h K,ax,?_⟩;dsimp only[IZ,push_cast];cases (show op=3 from c);exact ctJ e ⟨f⟩
theorem aeZ(c:cm 154 Mc):cm 190 (Cm (· =4)):=by
 refine jC func190 ?_;rintro e m h K ⟨n,s,ps,q,ks,rfl,f,j,d,g⟩;obtain⟨op,ta,w,co,on,gr,od,li,args⟩:=q;refine⟨dK [(237,R4),(154,Mc)] [] [] [] false,rfl,(aE Rr (aE c aH)),IY n m h K,ax,?_⟩;dsimp only[IY,push_cast];cases (show op=4 from d);exact ctX f ⟨g⟩
theorem aeX:cm 191 (Cm (· =5)):=by
 refine jC func191 ?_;rintro d m h K ⟨n,s,ps,q,ks,rfl,e,g,c,f⟩;obtain⟨op,ta,w,co,on,gr,od,li,args⟩:=q;refine⟨dK [(237,R4)] [] [] [] false,rfl,(aE Rr aH),IX n m h K,ax,?_⟩;dsimp only[IX,push_cast];cases (show op=5 from c);exact ctQ e ⟨f⟩
theorem aeQ:cm 192 (Cm (λop=>op=6\/op=7\/op=8)):=by
 refine jC func192 ?_;rintro d m h K ⟨n,s,ps,q,ks,rfl,e,g,c,f⟩;obtain⟨op,ta,w,co,on,gr,od,li,args⟩:=q;refine⟨dK [(236,Ei),(152,Dw)] [] [] [] false,rfl,(aE yT (aE GF aH)),Ng n m h K,ax,?_⟩;exact csJ c e ⟨f⟩
theorem adJ:cm 193 (Cm (· =9)):=by
 refine jC func193 ?_;rintro d m h K ⟨n,s,ps,q,ks,rfl,e,g,c,f⟩;obtain⟨op,ta,w,co,on,gr,od,li,args⟩:=q;refine⟨dK [(236,Ei),(238,RX),(239,RY)] [] [] [] false,rfl,(aE yT (aE Rq (aE Rp aH))),IW n m h K,ax,?_⟩;dsimp only[IW,push_cast];cases (show op=9 from c);exact csZ e ⟨f⟩
theorem adZ:cm 194 (Cm (· =10)):=by
 refine jC func194 ?_;rintro d m h K ⟨n,s,ps,q,ks,rfl,e,g,c,f⟩;obtain⟨op,ta,w,co,on,gr,od,li,args⟩:=q;refine⟨dK [(236,Ei),(152,Dw),(238,RX),(239,RY)] [] [] [] false,rfl,(aE yT (aE GF (aE Rq (aE Rp aH)))),IV n m h K,ax,?_⟩;dsimp only[IV,push_cast];cases (show op=10 from c);exact csX e ⟨f⟩
theorem aHJ(F:cm 154 Mc):∀N,cm 75 (GM N)
 |0=>by
  refine fW (fn:=Tryz.f75) (c:=eD Tryz.f75) func75 rfl az ?_;rintro S m h K ⟨sc,p,v,s,ps,q,rfl,_,_,_,_,hN,_⟩;omega
 |N+1=>by
  refine jC func75 ?_;rintro S m h K ⟨sc,p,v,s,ps,q,rfl,hs,C,hp,hq,hN,B⟩;refine⟨ckX N sc p v m,rfl,(aE (aHJ F N) (aE anX (aE afX (aE afQ (aE aeJ (aE (aeZ F) (aE aeX (aE aeQ (aE adJ (aE adZ aH)))))))))),XE N sc p v m h K,ax,?_⟩;dsimp only[XE,push_cast];have T:=@Dg q;have U:=hq;obtain⟨op,ta,w,co,on,gr,od,li,args⟩:=q;have x:=hq.parts;have D:=x.op_;have hl:=x.args_.slen;have a':=x.args_.len;simp only[Query.args]at T;simp only[aJ]at B;refine⟨λ⟨i,G,L⟩=>i<=args.length/\PH.le h L/\∃ks,Slices L G ks/\(args.take i).map (aJ s ps)=ks.map (λk=>(k,0)),λ⟨i,_,_⟩=>args.length-i,⟨(0,[],h),⟨aC,.refl _,[],⟨rfl,λj s k V=>by simp at V⟩,ay⟩,MT⟩,?_⟩;rintro⟨i,G,L⟩ ⟨hi,y,ks,P,A⟩;have W:ks.length=i:=by have:=congrArg List.length A;grind
  have X:G.length=i:=by rw[P.1,W]
  dsimp only;refine aF (λH=>?_) (λa0=>?_)
  .obtain⟨Q,I⟩:=fK hl H;obtain⟨b1,o1,u,Y,r1,Z⟩:=(x.args_.mono y).at I;refine⟨b1,o1,Y,aC,H,u,.imm r1,sc,p,u,s,ps,Q,rfl,hs.mono y,C,hp.mono y,Z,?_,λg h' d E=>aD (λV=>?_) (λV=>?_)⟩
   .grind
   .have he:(aJ s ps Q).2≠0:=bg
    rw[Hs he A I rfl]at B;exact B.err (y.trans d) (if_neg he)
   .have he:(aJ s ps Q).2=0:=bg
    refine⟨bf,bf,(i+1,G++[g],h'),⟨aC,y.trans d,ks++[(aJ s ps Q).1],(P.mono d).snoc E,?_⟩,aC,?_⟩
    .rw[kA I,A,bu]
     grind
    .rw[bu];exact MT
  .rw[bt aC]at A;rw[vD A]at B;simp only[if_true]at B;have B:KR K m h (Ck s ps (.mk op ta w co on gr od li args) ks):=B
   have o:∀(g:Sl)(h':PH),PH.le L h'->dH h' g 1 (G.map eS)->Cg h' s ps (.mk op ta w co on gr od li args) ks ⟨sc,p,v,g⟩:=λg h' d f=>by
    refine⟨(hs.mono y).mono d,(hp.mono y).mono d,(U.mono y).mono d,⟨⟨G,f,P.1.symm,λj k hk=>?_⟩,aC⟩,λk hk=>?_⟩
    .have hj:j<G.length:=bg
     exact⟨G[j],bn hj,(P.2 j _ _ (bn hj) hk).mono d⟩
    .obtain⟨j,hj⟩:=mem_iff_getElem?.1 hk;have:=MK A j
     grind
   have t:∀(h':PH),PH.le L h'->∀r,fin r=Ck s ps (.mk op ta w co on gr od li args) ks->∀(g:Sl)(z:PH),PH.le h' z->Ints z g r.1->
    branch (r.2 !=0) (K (.tup [.val (.slice none 0 0),.val (.int .i64 r.2)]) m z) (branch (decide ((g.len:Int)>12)) (K (.tup [.val (.slice none 0 0),.val (.int .i64 2)]) m z) (K (.tup [.val (.slice g.a g.len g.cap),.val (.int .i64 0)]) m z)):=by
    intro h' d r hr g z M E;have J:PH.le h z:=(y.trans d).trans M;rw[<-hr]at B;have X:=E.slen;refine aD (λR=>?_) (λR=>aF (λd2=>?_) (λd2=>?_))
    .have R:r.2≠0:=bg
     exact B.err J (by unfold fin;grind)
    .have R:r.2=0:=bg
     exact B.big (l:=r.1) J (by unfold fin;grind) aC
    .have R:r.2=0:=bg
     exact B.ok (l:=r.1) J (by unfold fin;grind) aC E.row
   refine⟨v.op,rfl,?_⟩;rw[D];refine aD (λc1 g h' d f=>⟨⟨sc,p,v,g⟩,s,ps,_,ks,by rw[<-D],o g h' d f,C,beq_iff_eq.1 c1,t h' d⟩) (λc1=>?_);refine aD (λc2 g h' d f=>⟨⟨sc,p,v,g⟩,s,ps,_,ks,by rw[<-D],o g h' d f,C,beq_iff_eq.1 c2,t h' d⟩) (λc2=>?_);refine aD (λc3 g h' d f=>⟨⟨sc,p,v,g⟩,s,ps,_,ks,by rw[<-D],o g h' d f,C,beq_iff_eq.1 c3,t h' d⟩) (λc3=>?_);refine aD (λc4 g h' d f=>⟨⟨sc,p,v,g⟩,s,ps,_,ks,by rw[<-D],o g h' d f,C,beq_iff_eq.1 c4,t h' d⟩) (λc4=>?_);refine aD (λc5 g h' d f=>⟨⟨sc,p,v,g⟩,s,ps,_,ks,by rw[<-D],o g h' d f,C,beq_iff_eq.1 c5,t h' d⟩) (λc5=>?_);refine aD (λc6 g h' d f=>⟨⟨sc,p,v,g⟩,s,ps,_,ks,by rw[<-D],o g h' d f,C,.inl (beq_iff_eq.1 c6),t h' d⟩) (λc6=>?_);refine aD (λc7 g h' d f=>⟨⟨sc,p,v,g⟩,s,ps,_,ks,by rw[<-D],o g h' d f,C,.inr (.inl (beq_iff_eq.1 c7)),t h' d⟩) (λc7=>?_);refine aD (λc8 g h' d f=>⟨⟨sc,p,v,g⟩,s,ps,_,ks,by rw[<-D],o g h' d f,C,.inr (.inr (beq_iff_eq.1 c8)),t h' d⟩) (λc8=>?_);refine aD (λc9 g h' d f=>⟨⟨sc,p,v,g⟩,s,ps,_,ks,by rw[<-D],o g h' d f,C,beq_iff_eq.1 c9,t h' d⟩) (λc9=>?_);refine aD (λO g h' d f=>⟨⟨sc,p,v,g⟩,s,ps,_,ks,by rw[<-D],o g h' d f,C,beq_iff_eq.1 O,t h' d⟩) (λO=>B.err y ?_);refine An λe=>?_;have:arity op= -1:=by simp only[arity];grind
   have:=e.1;simp only[Query.op]at this;omega
def jT:PV:=⟨0,0,gL,gL,⟨none,0,0⟩⟩
theorem Ve(l:cu):gC 2 (l.map sM):=by
 constructor
 .intro e c;obtain⟨x,_,rfl⟩:=mem_map.1 c;rfl
 .intro e c u d;obtain⟨x,_,rfl⟩:=mem_map.1 c;simp[sM]at d;rcases d with rfl|rfl<;>rfl
theorem Vd(l:cv):gC 2 (l.map DM):=by
 constructor
 .intro e c;obtain⟨x,_,rfl⟩:=mem_map.1 c;rfl
 .intro e c u d;obtain⟨x,_,rfl⟩:=mem_map.1 c;simp[DM]at d;rcases d with rfl|rfl<;>rfl
theorem Qe{n c α}{enc:α->cr}{l}(r:dH h ⟨none,n,c⟩ sz (l.map enc)):l=[]:=by
 rcases r.row with e|⟨b,o,e,_⟩
 .simpa using e
 .cases e
end Go.Ps
