/- Own work. -/
import Derived.Test.YtafjlhgalgfiaaaGreatDoorCb
set_option linter.unusedVariables false
set_option linter.unusedSimpArgs false
namespace Go.Ps
open Go Go.Vc Go.Proofs List Tryz
variable{K:bo}{m:MH}{h:PH}{s:jQ}{ps:bn}{cb:Nat}{sc:bZ}{v:QV}{p:Pred}{l:bn}{i:Nat}{N:Nat}{m':MH}{h':PH}{co:bn}{gr:bn}{od:bz}{ta:Int}{li:Int}{xs:List bt}{sz:Nat}{ks:List bn}{rs:bn}{r:Sl}{a:bn}{b:Nat}
theorem Uw:Tryz.prog.underlying 9=some .string:=ax
theorem CZ:KeyLaw Tryz.prog 9 (λv=>∃s,v= .string s):=by
 refine⟨⟨_,Uw⟩,?_,?_,?_⟩
 .rintro _ w b ⟨s,rfl⟩
  have e:∀n:Nat,(Instr.checkKey b (n+1) 9 (.string s)).run Tryz.prog w= .ok () w:=λn=>by
   unfold Instr.checkKey;simp only[Sem.run_bind,run_underlying Uw,Result.andThen];simp
  exact e 9999
 .rintro _ _ w ⟨s,rfl⟩ ⟨t,rfl⟩;refine⟨_,run_equalIn_string w 9999 9 s t Uw,?_⟩;rw[beq_iff_eq];exact⟨λe=>by rw[CU e],λe=>bg⟩
 .rintro d _ _ r c ⟨s,rfl⟩ ⟨t,rfl⟩ h;rw[Uw]at c;cases c;simp only[Instr.sameNow,Option.some.injEq]at h;subst h;rw[beq_toListBytes,beq_iff_eq];exact⟨λe=>by rw[CU e],λe=>bg⟩
def gJ{α}(T:List α->α->Prop)(l:List α)(i:Nat):=∀j x,j<i->l[j]? =some x->T (l.take j) x
def Good{α}(T:List α->α->Prop)(l:List α):=∀(j:Nat) x,l[j]? =some x->T (l.take j) x
theorem gJ.zero{α}{T:List α->α->Prop}{l}:gJ T l 0:=λ_ _ h=>by omega
theorem gJ.succ{α}{T:List α->α->Prop}{l x}(h:gJ T l i)(hx:l[i]? =some x)(t:T (l.take i) x):gJ T l (i+1):=by
 intro j y d c;by_cases e:j=i
 .grind
 .exact h j y aC c
theorem gJ.all{α}{T:List α->α->Prop}{l}(h:gJ T l i)(d:l.length<=i):Good T l:=λj x c=>h j x bg c
theorem Good.not{α}{T:List α->α->Prop}{l x}(hx:l[i]? =some x)(t:¬T (l.take i) x):¬Good T l:=λh=>t (h i x hx)
def YM(d:List pS)(c:pS):=qH c.name=true/\gM c.kind=true/\c.name∉d.map pS.name
def E5(c:List Am)(t:Am):=qH t.name=true/\1<=t.key/\t.key<=t.columns.length/\t.name∉c.map Am.name/\Good YM t.columns
def jA(s:jQ)(t:Int):=if t<0 then[]else match s.tables[t.toNat]? with|none=>[]|some t=>t.columns.map pS.kind
def AA(s:jQ)(t:Int):=decide (0<=t)&&decide (t<s.tables.length)
def aS(v:bZ):CV:=.val (.agg ⟨v.enc⟩)
def nU(s:jQ):=∀t∈s.tables,t.columns.length<=8
def cMX:Vc.Spec:=λc m h K=>∃v s t,c=[aS v,cI t]/\iF h s v/\K (cB (AA s t)) m h
def u7:Vc.Spec:=λc m h K=>∃v s t,c=[aS v,cI t]/\iF h s v/\nU s/\∀d h',PH.le h h'->Ints h' d (jA s t)->K (cS d) m h'
noncomputable def Vg m h:=
 dE [] [(5,{A:=Nat×Sl×bn,st:=λx=>bU 35 37 [(5,.at (.lst 32)),(22,sv x.2.1),(23,iv x.2.1.len),(24,iv x.1)] [(32,.lst 3 1 (x.2.2.map eI))] m h})] [] [] false
noncomputable def ceX m h:=
 dE [(132,cMX)] [(5,{A:=Nat×Sl×bn,st:=λx=>bU 38 40 [(5,.at (.lst 19)),(25,sv x.2.1),(26,iv x.2.1.len),(27,iv x.1)] [(19,.lst 3 1 (x.2.2.map eI))] m h})] [] [] false
abbrev kM(a:bZ):=aH a.tables
attribute [push_cast] kM
def TJ(v:bZ)(t:Int)(m:MH)(h:PH)(K:bo):=
  iA t 0 (K (Af (decide (t<kM v))) m h) (K bH m h)
abbrev BU(a:bZ):=a.tables.a
abbrev O8(a:bZ)(b:Int)(c:Nat->Nat->Sl->Prop):=bJ (λx d=>aI (aW (BU a) x d) (0<=b) (b<aH a.tables) (∃(e:Sl),c x d e))
abbrev aR a:=oN (dP a)
abbrev OQ(a:bZ)(b:Int)(c:MH)(d:PH)(e g:Nat->Nat)(i:Nat)(j:Sl->Sl)(k:Sl->(Nat×Sl×bn->Prop)->(Nat×Sl×bn)->Prop)(l:(Nat×Sl×bn->Prop)->(Nat×Sl×bn->Nat)->(Nat×Sl×bn)->Prop):=O8 a b (λx t n=>aK c d (e x) (g t+gY b 5+i) (aR (j n))/\∃(o:Nat×Sl×bn->Prop)(u:Nat×Sl×bn->Nat),(∃(f:Nat×Sl×bn),k n o f)/\∀(f:Nat×Sl×bn),l o u f)
abbrev aZ a b:=sQs a=sQs b
abbrev pO(a:Nat×Sl×bn):=a.2.1
abbrev bN(a b:Sl):=bO a.len=bO b.len
abbrev bR a b c:=Option.some (Own.lst a b c)
abbrev sS a:=bR 3 1 []=bR 3 1 (List.map eI a)
abbrev nT a:=a<=140737488355328
abbrev i7 a b:=nT (a*b)
abbrev jW(a:List bt)(b:Nat):=a.length+b
abbrev AL a:=i7 (jW a 1) 8
abbrev gW a:=List.map eI a
abbrev dO(a:List bt):=a.length<140737488355328
abbrev OO(a:Prop)(b:Nat×Sl×bn)(c:Int)(d:Nat->Nat->pS->Prop)(e:pS->(Nat×Sl×bn)->Prop)(g:Prop):=a->aY (↑b.1:Int) (aH (pO b)) (bJ (λx f=>aI (aW (pO b).a x f) (c<=(↑b.1:Int)) ((↑b.1:Int)<aH (pO b)) (∃(j:pS),aI (d x f j) (AL (gW b.2.2)) (dO (gW b.2.2)) (∃(n:Nat×Sl×bn),e j n)))) g
abbrev rQ a b:=jX (Value.string a) (fV b)
abbrev lK a b:=bR 3 1 a=bR 3 1 (List.map eI b)
abbrev lT(a:bt):=[a]
abbrev dL a b:=a++lT b
abbrev OP(a:Nat×Sl×bn)(b:pS)(c:Nat×Sl×bn):=lK (dL (gW a.2.2) (bB b.kind)) c.2.2
abbrev bQ a b c d:=bG (PH.le a b) c d
abbrev bY(a:Nat->Nat->Option Value)(b:Nat)(c:List bt)(d:Sl->PH->Prop):=∀(x:Sl)(e:PH),bQ a e (dC e x b c) (d x e)
abbrev tZ(a:PH)(b:List bt)(c:bo)(d:MH):=bY a 1 b (λx e=>c (mQ x) d e)
attribute [push_cast] BU O8 aR OQ aZ pO bN bR sS nT i7 jW AL gW dO OO rQ lK lT dL OP bQ bY tZ
def Xx v t m h K:=
  aY t 0 (K EZ m h) (iA t (kM v) (K EZ m h) (OQ v t m h (λb=>b) (λo=>o) 1 (λy=>y) (λy I x=>aA (I x) (eL 32) (aA (aZ y (pO x)) (bN y (pO x)) (aA (bA x.1) (sS x.2.2) (aA (m=m) (h=h) True)))) (λI d x=>OO (I x) x 0 (λb o y=>aK m h b (o+bM x.1 2) (rQ y.name y.kind)) (λy c=>aA (I c) (d c<d x) (aA (eL 32) (aZ (pO x) (pO c)) (aA (bN (pO x) (pO c)) (gK (bE x.1 1)=bO c.1) (aA (OP x y c) (m=m) (bT h h))))) (tZ h (gW x.2.2) K m))))
abbrev qO(a:bZ->jQ->Prop):=∃(x:bZ)(c:jQ),a x c
abbrev Ak(a:bZ):=fV a.version
abbrev Aj(a:bZ):=dP a.tables
abbrev cK a:=jX (Ak a) (Aj a)
abbrev zU(a:Int):=a<=281474976710656
abbrev zX a b:=zU (aH a*b)
attribute [push_cast] qO Ak Aj cK zU zX
def Xm v t m h K:=
  qO (λg s=>∃(j:Int),aA (eZ (kQ (cK v)) t=eZ (kQ (cK g)) j) (iF h s g) (nX (AA s j) (K EZ m h) (O8 v t (λb o y=>aA (aK m h b (o+gY t 5+1) (aR y)) (cH 0) (aA (cH (aH y)) (zX y 8) (zU (aH y)/\OQ v t m h (λe=>e) (λf=>f) 1 (λc=>c) (λc I x=>aA (I x) (eL 19) (aA (aZ c (pO x)) (bN c (pO x)) (aA (bA x.1) (sS x.2.2) (aA (m=m) (h=h) True)))) (λI n x=>OO (I x) x 0 (λe f c=>aK m h e (f+bM x.1 2) (rQ c.name c.kind)) (λc d=>aA (I d) (n d<n x) (aA (eL 19) (aZ (pO x) (pO d)) (aA (bN (pO x) (pO d)) (gK (bE x.1 1)=bO d.1) (aA (OP x c d) (m=m) (bT h h))))) (tZ h (gW x.2.2) K m))))))))
theorem cO.part{o l}(r:cO h b o l) k n:cO h b (o+k) ((l.drop k).take n):=
 ⟨λi v e=>by
  have:l[k+i]? =some v:=by
   grind
  have:=r.rd (k+i) v this
  grind⟩
theorem GN.at{s l}(r:GN h s l){x}(c:l[i]? =some x):∃b o,s.a=some ⟨b,o,none⟩/\cO h b (o+i*2) (pS.enc x):=by
 obtain⟨b,o,v,e,k,rfl⟩:=bL.at r c
 grind
theorem Ha{t:Int}(h:¬(0<=t/\t<s.tables.length)):jA s t=[]:=by
 unfold jA
 grind
theorem NS{t x}(h:0<=t)(hx:s.tables[t.toNat]? =some x):jA s t=x.columns.map pS.kind:=by
 unfold jA
 grind
theorem iF.table{v}(c:iF h s v){t}(f:0<=t)(g:t<(v.tables.len:Int)):∃x b o w,s.tables[t.toNat]? =some x/\v.tables.a=some ⟨b,o,none⟩/\cO h b (o+t.toNat*5) (cW.enc w)/\Rt h x w:=by
 have j:=c.tables.slen;have d:s.tables[t.toNat]? =some (s.tables[t.toNat]'(by omega)):=getElem?_eq_getElem _;obtain⟨b,o,w,e,r,k⟩:=c.tables.at d
 grind
theorem jV{α β}{f:α->β}{l:List α}{x}(hx:l[i]? =some x):(l.take (i+1)).map f=(l.take i).map f++[f x]:=by
 rw[take_add_one,hx];simp
theorem Rb:bm 132 cMX:=by
 refine iQ func132 ?_;rintro e m h K ⟨v,s,t,rfl,f,d⟩;refine⟨dE [] [] [] [] false,rfl,aG,TJ v t m h K,ax,?_⟩;dsimp only[TJ,push_cast];have g:=f.tables.slen;refine aF (λc=>kG d ?_) (λc=>kG d ?_)
 .have c:0<=t:=c;simp only[AA,g,decide_eq_true c,Bool.true_and]
 .have c:¬0<=t:=by omega
  simp only[AA,decide_eq_false c,Bool.false_and]
theorem Ir:bm 45 u7:=by
 refine iQ func45 ?_;rintro D m h K ⟨v,s,t,rfl,A,E,n⟩;refine⟨Vg m h,rfl,aG,Xx v t m h K,ax,?_⟩;dsimp only[Xx,push_cast];have M:=A.tables.slen;have d:jA s t=[]->K (.val (.slice none 0 0)) m h:=λe=>n ⟨none,0,0⟩ h (.refl _) (by rw[e];exact⟨.nil _ _,ay⟩);refine aF (λF=>d (Ha aC)) (λF=>aF (λG=>d (Ha aC)) (λG=>?_));obtain⟨x,b,o,w,B,H,I,f⟩:=A.table (t:=t) aC aC;have J:=E x (mem_of_getElem? B);have u:=bL.slen f.columns;rw[NS aC B]at n;refine⟨b,o,H,aC,aC,w.columns,.imm (cO.part I 1 1),λ⟨i,y,l⟩=>y=w.columns/\i<=x.columns.length/\l=(x.columns.take i).map pS.kind,λ⟨i,_,_⟩=>x.columns.length-i,⟨(0,w.columns,[]),⟨rfl,ay,ay⟩,MT⟩,?_⟩;rintro⟨i,_,_⟩ ⟨rfl,O,rfl⟩;dsimp only;refine aF (λj=>?_) (λL y h' z g=>?_)
 .obtain⟨c,C⟩:=eV u j;obtain⟨b,o,e,r⟩:=GN.at f.columns C;refine⟨b,o,e,aC,j,c,.imm r,?_,?_,(i+1,w.columns,(x.columns.take (i+1)).map pS.kind),⟨rfl,aC,rfl⟩,aC,?_⟩
  .simp;omega
  .simp;omega
  .rw[jV C,map_append];exact MT
 .rw[take_of_length_le aC]at g;exact n y h' z ⟨g,bf⟩
theorem EU:bm 69 u7:=by
 refine iQ func69 ?_;rintro G m h K ⟨v,s,t,rfl,n,H,u⟩;refine⟨ceX m h,rfl,aE Rb aG,Xm v t m h K,by kernel_rfl,?_⟩;dsimp only[Xm,push_cast];have L:=n.tables.slen;have g:jA s t=[]->K (.val (.slice none 0 0)) m h:=λe=>u ⟨none,0,0⟩ h (.refl _) (by rw[e];exact⟨.nil _ _,by simp⟩);refine⟨v,s,t,rfl,n,aD (λy=>g (Ha ?_)) (λy=>?_)⟩
 .simp only[AA,Bool.not_eq_true',Bool.and_eq_false_iff,decide_eq_false_iff_not]at y;omega
 simp only[AA,Bool.not_eq_false',Bool.and_eq_true,decide_eq_true_eq]at y;obtain⟨x,b,o,w,C,D,E,d⟩:=n.table (t:=t) aC aC;have I:=H x (mem_of_getElem? C);have z:=bL.slen d.columns;rw[NS aC C]at u;refine⟨b,o,D,aC,aC,w.columns,.imm (cO.part E 1 1),aC,aC,aC,aC,b,o,D,aC,aC,w.columns,.imm (cO.part E 1 1),λ⟨i,A,l⟩=>A=w.columns/\i<=x.columns.length/\l=(x.columns.take i).map pS.kind,λ⟨i,_,_⟩=>x.columns.length-i,⟨(0,w.columns,[]),⟨rfl,by simp,by simp⟩,MT⟩,?_⟩;rintro⟨i,_,_⟩ ⟨rfl,M,rfl⟩;dsimp only;refine aF (λj=>?_) (λJ A h' B f=>?_)
 .obtain⟨c,F⟩:=eV z j;obtain⟨b,o,e,r⟩:=GN.at d.columns F;refine⟨b,o,e,aC,j,c,.imm r,?_,?_,(i+1,w.columns,(x.columns.take (i+1)).map pS.kind),⟨rfl,aC,rfl⟩,aC,?_⟩
  .simp;omega
  .simp;omega
  .rw[jV F,map_append];exact MT
 .rw[take_of_length_le aC]at f;exact u A h' B ⟨f,by simp;omega⟩
def Sub(m m':MH):=∀b o,m b=some o->m' b=some o
theorem Sub.refl m:Sub m m:=λ_ _ e=>e
theorem Sub.free(h:Sub m m')(c:m' b=none):m b=none:=by
 cases e:m b with
 |none=>rfl
 |some o=>rw[h b o e]at c;cases c
theorem Sub.upd{f}(h:Sub m f)(j:m b=none)(g:∀c,c≠b->m' c=f c):Sub m m':=λc o e=>by
 have d:c≠b:=λn=>bg
 rw[g c d,h c o e]
def Nk(m:MH)(b:Nat)(c:dh):=uP m b (c.map λn=>(.string n,.bool true))
theorem Nk.other{d e}(h:Nk m b e)(f:b≠d)(o:∀c,c≠d->m' c=m c):Nk m' b e:=by
 obtain⟨g,j,t,n⟩:=h.ex;exact⟨g,j,bg,n⟩
def bXQ:Vc.Spec:=λc m h K=>∃v s,c=[aS v]/\iF h s v/\∀r:Bool,(r=true↔Good E5 s.tables)->K (cB r) m h
def bRJ:Vc.Spec:=λc m h K=>∃v s t,∃i:Nat,c=[aS v,cI i]/\iF h s v/\s.tables[i]? =some t/\∀r:Bool,(r=true↔E5 (s.tables.take i) t)->K (cB r) m h
noncomputable def bJX(v:bZ)(h:PH):=
 dE [(183,aKZ)] [(3,{A:=Nat×Nat×MH,st:=λ⟨i,c,d⟩=>bU 79 80 [(3,vv (.map (some c))),(11,sv v.tables),(12,iv v.tables.len),(13,iv i)] [] d h}),
  (10,{A:=Nat×Nat×Nat×Nat×Sl×MH,st:=λ⟨i,k,c,f,e,d⟩=>bU 79 80 [(3,vv (.map (some c))),(6,vv (.map (some f))),(11,sv v.tables),(12,iv v.tables.len),(13,iv i),(45,sv e),(46,iv e.len),(47,iv k)] [] d h})] [] [] false
noncomputable def bMQ(v:bZ)(i:Nat)(m:MH)(h:PH):=
 dE [(173,aKZ),(123,bXJ)] [(5,{A:=Nat×cW,st:=λ⟨k,w⟩=>bU 94 96 [(1,iv i),(2,.at (.ptr 2 0)),(5,.at (.ptr 5 0)),(6,iv k)] [(2,.cells 27 (v.enc.map .val)),(5,.cells 73 (w.enc.map .val))] m h}),
  (10,{A:=Nat×cW,st:=λ⟨k,w⟩=>bU 94 96 [(5,.at (.ptr 5 0)),(53,iv w.columns.len),(54,iv k)] [(5,.cells 73 (w.enc.map .val))] m h}),
  (15,{A:=Nat×Nat×cW,st:=λ⟨k,j,w⟩=>bU 94 96 [(5,.at (.ptr 5 0)),(7,iv k),(8,iv j),(53,iv w.columns.len),(54,iv k)] [(5,.cells 73 (w.enc.map .val))] m h})] [] [] false
abbrev w9(a:MH)(b:PH)(c:Nat->MH->Prop):=∀(x:Nat)(d:MH),bG (cF a b x) (lF a d x (Obj.map (Array.mk []) 0)) (c x d)
abbrev C8 a:=Value.map (Option.some a)
abbrev kW a b:=SV.at (At.val (C8 a))=SV.at (At.val (C8 b))
abbrev tR(a:bZ):=aJ a.tables
abbrev kC(a:bZ):=bI a.tables
abbrev HJ(a:Prop)(b:Nat)(c:bZ)(d:Nat->Nat->cW->Prop)(e:Prop):=a->aY (↑b:Int) (aH c.tables) (bJ (λx f=>aI (aW (BU c) x f) (0<=(↑b:Int)) ((↑b:Int)<aH c.tables) (∃(g:cW),d x f g))) e
abbrev A9(a:cW):=bF (Value.string a.name) (dP a.columns) (bF (fV a.key) (dP a.references) (aR a.checks))
abbrev rV a:=CV.val (Value.string a)
abbrev mP(a:bo)(b:Nat×Nat×MH)(c:PH):=a bH (i6 b) c
abbrev C6 a:=KeyLaw Proofs.Tryz.prog 9 a
abbrev Bf(a:cW):=Value.string a.name
abbrev F2(a:Value×Bool)(b:dc)(c:Value):=bG (List.Mem a b) (a.1=c) False
abbrev Bk(a:cW):=aH a.columns
abbrev Za(a:cd->(Value->Prop)->Prop):=∃(x:cd)(c:Value->Prop),a x c
abbrev KV(a:Nat->Option Obj)(b:Nat)(c:(Value->Prop)->Prop)(d:cd->cd)(e:(Value×Value)->Value×Value)(g:Value)(i:cd->Prop):=Za (λx j=>aA (uP a b x) (C6 j) (aA (c j) (∀(f:Value×Value),List.Mem f x->j f.1) ((∀(f:Value×Value),bG (List.Mem f (d x)) ((e f).1=g) False)/\i x)))
abbrev gV(a:cd)(b c:Value)(d:cd):=a++(b,c)::d
abbrev C9:=Value.bool true
abbrev Ga a b:=gV a b C9 []
abbrev Eo(a:Nat×Nat×Nat×Nat×Sl×MH):=a.2.2.2.1
abbrev cD a b:=bO a=bO b
abbrev xV(a:Nat×Nat×Nat×Nat×Sl×MH):=a.2.2.2.2.1
abbrev wL(a:Nat×Nat×Nat×Nat×Sl×MH):=a.2.2.2.2.2
abbrev Ei(a:pS):=Value.string a.name
abbrev Kg(a:Nat×Nat×Nat×Nat×Sl×MH)(b:pS)(c:MH->Prop):=KV (wL a) (Eo a) (λx=>x (Ei b)) (λx=>x) (λx=>x) (Ei b) (λx=>∀(d:MH),bG (jY (wL a) d (Eo a)) (uP d (Eo a) (Ga x (Ei b))) (c d))
abbrev vH(a:pS)(b:Int)(c:Prop)(d:Nat×Nat×Nat×Nat×Sl×MH->Prop)(e:Nat×Nat×Nat×Nat×Sl×MH->Nat)(g:Nat×Nat×Nat×Nat×Sl×MH)(i:bZ)(j:(Nat×Nat×Nat×Nat×Sl×MH)->Prop):=branch (a.kind !=b) c (∃(x:Nat×Nat×Nat×Nat×Sl×MH),aA (d x) (e x<e g) (aA (kW g.2.2.1 x.2.2.1) (kW (Eo g) (Eo x)) (aA (aJ i.tables) (kC i) (aA (cD g.1 x.1) (aZ (xV g) (xV x)) (j x)))))
abbrev vK(a b:Nat×Nat×Nat×Nat×Sl×MH)(c:MH)(d:PH):=aA (bN (xV a) (xV b)) (gK (bE a.2.1 1)=bO b.2.1) (aA (c=wL b) (d=d) True)
attribute [push_cast] w9 C8 kW tR kC HJ A9 rV mP C6 Bf F2 Bk Za KV gV C9 Ga Eo cD xV wL Ei Kg vH vK
def M0 v m h K:=
  w9 m h (λb H=>∃(I:Nat×Nat×MH->Prop)(D:Nat×Nat×MH->Nat),Pc (λx=>aA (I x) (kW b (j6 x)) (aA (tR v) (kC v) (cZ (bA x.1) H (i6 x) h h))) (λx=>HJ (I x) x.1 v (λJ o y=>aK (i6 x) h J (o+bM x.1 5) (A9 y)/\∃(s:ByteArray),hX (eO (rV y.name) (rV s)) (!(qH s)) (mP K x h) (∃(k:dc)(O:Value->Prop),aA (uP (i6 x) (j6 x) (List.map (fun(p:Value×Bool)=>(p.1,Value.bool p.2)) k)) (C6 O) (aA (O (Bf y)) (∀(e:Value×Bool),List.Mem e k->O e.1) (((∀(e:Value×Bool),F2 e k (Bf y))->aY y.key 1 (mP K x h) (fR y.key (Bk y) (mP K x h) (KV (i6 x) (j6 x) (λO1=>O1 (Bf y)) (λu=>u) (λe=>e) (Bf y) (λu=>∀(z:MH),bG (jY (i6 x) z
 (j6 x)) (uP z (j6 x) (Ga u (Bf y))) (w9 z h (λE F=>∃(I1:Nat×Nat×Nat×Nat×Sl×MH->Prop)(n:Nat×Nat×Nat×Nat×Sl×MH->Nat),(∃(c:Nat×Nat×Nat×Nat×Sl×MH),aA (I1 c) (kW (j6 x) c.2.2.1) (aA (kW E (Eo c)) (tR v) (aA (kC v) (cD x.1 c.1) (aA (aZ y.columns (xV c)) (bN y.columns (xV c)) (cZ (bA c.2.1) F (wL c) h h)))))/\∀(c:Nat×Nat×Nat×Nat×Sl×MH),I1 c->aY (↑c.2.1:Int) (aH (xV c)) (bJ (λA B=>aI (aW (xV c).a A B) (0<=(↑c.2.1:Int)) ((↑c.2.1:Int)<aH (xV c)) (∃(g:pS),aK (wL c) h A (B+bM c.2.1 2) (rQ g.name g.kind)/\∃(C:ByteArray),hX (eO (rV g.name) (rV C)) (!(qH C)) (K bH (wL c) h) (∃(t:dc)(O1:
 Value->Prop),aA (uP (wL c) (Eo c) (List.map (fun(p:Value×Bool)=>(p.1,Value.bool p.2)) t)) (C6 O1) (aA (O1 (Ei g)) (∀(e:Value×Bool),List.Mem e t->O1 e.1) (((∀(e:Value×Bool),F2 e t (Ei g))->Kg c g (λf=>vH g 3 (vH g 4 (vH g 5 (K bH f h) I1 n c v (λd=>vK c d f h)) I1 n c v (λd=>vK c d f h)) I1 n c v (λd=>vK c d f h)))/\∀(j:Bool),gX (List.Mem (Ei g,j) t) j (K bH (wL c) h) (Kg c g (λf=>vH g 3 (vH g 4 (vH g 5 (K bH f h) I1 n c v (λd=>vK c d f h)) I1 n c v (λd=>vK c d f h)) I1 n c v (λd=>vK c d f h))))))))) (∃(d:Nat×Nat×MH),aA (I d) (D d<D x) (aA (kW c.2.2.1 (j6 d)) (tR v) (aA (kC v) (gK (bE c.1 1)
 =bO d.1) (aA (wL c=i6 d) (h=h) True))))))))))/\∀(g:Bool),gX (List.Mem (Bf y,g) k) g (mP K x h) (aY y.key 1 (mP K x h) (fR y.key (Bk y) (mP K x h) (KV (i6 x) (j6 x) (λO1=>O1 (Bf y)) (λu=>u) (λe=>e) (Bf y) (λu=>∀(z:MH),bG (jY (i6 x) z (j6 x)) (uP z (j6 x) (Ga u (Bf y))) (w9 z h (λE F=>∃(I1:Nat×Nat×Nat×Nat×Sl×MH->Prop)(n:Nat×Nat×Nat×Nat×Sl×MH->Nat),(∃(c:Nat×Nat×Nat×Nat×Sl×MH),aA (I1 c) (kW (j6 x) c.2.2.1) (aA (kW E (Eo c)) (tR v) (aA (kC v) (cD x.1 c.1) (aA (aZ y.columns (xV c)) (bN y.columns (xV c)) (cZ (bA c.2.1) F (wL c) h h)))))/\∀(c:Nat×Nat×Nat×Nat×Sl×MH),I1 c->aY (↑c.2.1:Int) (aH
 (xV c)) (bJ (λA B=>aI (aW (xV c).a A B) (0<=(↑c.2.1:Int)) ((↑c.2.1:Int)<aH (xV c)) (∃(j:pS),aK (wL c) h A (B+bM c.2.1 2) (rQ j.name j.kind)/\∃(C:ByteArray),hX (eO (rV j.name) (rV C)) (!(qH C)) (K bH (wL c) h) (∃(t:dc)(O1:Value->Prop),aA (uP (wL c) (Eo c) (List.map (fun(p:Value×Bool)=>(p.1,Value.bool p.2)) t)) (C6 O1) (aA (O1 (Ei j)) (∀(e:Value×Bool),List.Mem e t->O1 e.1) (((∀(e:Value×Bool),F2 e t (Ei j))->Kg c j (λf=>vH j 3 (vH j 4 (vH j 5 (K bH f h) I1 n c v (λd=>vK c d f h)) I1 n c v (λd=>vK c d f h)) I1 n c v (λd=>vK c d f h)))/\∀(G:Bool),gX (List.Mem (Ei j,G) t) G (K bH (wL c)
 h) (Kg c j (λf=>vH j 3 (vH j 4 (vH j 5 (K bH f h) I1 n c v (λd=>vK c d f h)) I1 n c v (λd=>vK c d f h)) I1 n c v (λd=>vK c d f h))))))))) (∃(d:Nat×Nat×MH),aA (I d) (D d<D x) (aA (kW c.2.2.1 (j6 d)) (tR v) (aA (kC v) (gK (bE c.1 1)=bO d.1) (aA (wL c=i6 d) (h=h) True)))))))))))))) (K iM (i6 x) h)))
abbrev OJ(a:(Nat×cW->Prop)->(Nat×cW)->Prop)(b:(Nat×cW->Prop)->(Nat×cW->Nat)->(Nat×cW)->Prop):=∃(x:Nat×cW->Prop)(d:Nat×cW->Nat),(∃(c:Nat×cW),a x c)/\∀(c:Nat×cW),b x d c
abbrev Ke(a:bZ):=j9 a.version
abbrev Kd(a:bZ):=yG a.tables
abbrev cG a:=eQ (oQ 27 (oJ (Ke a) (Kd a)))
abbrev wA(a:At):=[a]
abbrev iX(a:cW):=gA (Nf a.name) (yG a.columns) (gA (j9 a.key) (yG a.references) (wA (yG a.checks)))
abbrev FL(a:cW)(b:Nat×cW):=oQ 73 (iX a)=oQ 73 (iX b.2)
abbrev Pb(a:Option Addr)(b:Int)(c:Nat)(d:Sl)(e:Nat->Nat->ByteArray->Prop):=bJ (λx f=>aI (aW a x f) (b<=(↑c:Int)) ((↑c:Int)<aH d) (∃(g:ByteArray),e x f g))
abbrev uG(a:Nat×Nat×cW):=a.2.1
abbrev nN(a:Nat×Nat×cW):=a.2.2
attribute [push_cast] OJ Ke Kd cG wA iX FL Pb uG nN
def TS(v:bZ)(i:Nat)(m:MH)(h:PH)(K:bo):=
  bJ (λb o=>aI (aW (BU v) b o) (0<=(↑i:Int)) ((↑i:Int)<aH v.tables) (∃(y:cW),aK m h b (o+bM i 5) (A9 y)/\∃(s:ByteArray),eO (rV y.name) (rV s)/\dR (!(qH s)) (K bH m h) (Bk y==0) (K bH m h) (aY y.key 1 (K bH m h) (fR y.key (Bk y) (K bH m h) (OJ (λI x=>aA (I x) (eQ (bO i)) (aA (eP 2) eN (aA (bA x.1) (cG v) (aA (FL y x) (m=m) (bT h h))))) (λI n x=>I x->aY (↑x.1:Int) (↑i:Int) (Pb (BU v) 0 x.1 v.tables (λg j f=>aK m h g (j+bM x.1 5+0) (oN (Value.string f))/\branch (f.toList==x.2.name.toList) (K bH m h) (∃(c:Nat×cW),aA (I c) (n c<n x) (aA (eQ (bO i)) iU (aA eN (gK (bE x.1 1)=bO c.1) (aA (cG v) (FL x.2 c) (dY m m h h))))))) (OJ (λI1 c
 =>aA (I1 c) eN (aA (bN x.2.columns c.2.columns) (bA c.1) (cZ (FL x.2 c) m m h h))) (λI1 t c=>I1 c->aY (↑c.1:Int) (aH c.2.columns) (bJ (λg j=>aI (aW c.2.columns.a g j) (0<=(↑c.1:Int)) ((↑c.1:Int)<aH c.2.columns) (∃(f:ByteArray),aK m h g (j+bM c.1 2+0) (oN (Value.string f))/\∃(u:ByteArray),hX (eO (rV f) (rV u)) (!(qH u)) (K bH m h) (bJ (λz A=>aI (aW c.2.columns.a z A) (0<=(↑c.1:Int)) ((↑c.1:Int)<aH c.2.columns) (∃(B:Int),aK m h z (A+bM c.1 2+1) (bB B)/\∃(k:Int),hX (rR B k) (!(gM k)) (K bH m h) (∃(I2:Nat×Nat×cW->Prop)(C:Nat×Nat×cW->Nat),(∃(d:Nat×Nat×cW),aA (I2 d) eN (aA (cD c.1 d.1) (bA (uG d)) (aA (bN c.2.columns
 (nN d).columns) (cD c.1 d.1) (aA (oQ 73 (iX c.2)=oQ 73 (iX (nN d))) (m=m) (bT h h)))))/\∀(d:Nat×Nat×cW),I2 d->aY (↑(uG d):Int) (↑d.1:Int) (Pb (nN d).columns.a 0 (uG d) (nN d).columns (λF G D=>aK m h F (G+bM (uG d) 2+0) (oN (Value.string D))/\Pb (nN d).columns.a 0 d.1 (nN d).columns (λH J E=>aK m h H (J+bM d.1 2+0) (oN (Value.string E))/\branch (D.toList==E.toList) (K bH m h) (∃(e:Nat×Nat×cW),aA (I2 e) (C e<C d) (aA eN (cD d.1 e.1) (aA (gK (bE (uG d) 1)=bO (uG e)) (bN (nN d).columns (nN e).columns) (aA (cD d.1 e.1) (oQ 73 (iX (nN d))=oQ 73 (iX (nN e))) (dY m m h h)))))))) (∃(e:Nat×cW),aA (I1 e) (t e<t c) (aA
 eN (bN (nN d).columns e.2.columns) (aA (gK (bE d.1 1)=bO e.1) (FL (nN d) e) (aA (m=m) (h=h) True))))))))))) (K iM m h)))))))))
theorem Nk.snoc{c n}(h:uP m b ((c.map λn=>(Value.string n,Value.bool true))++[(.string n,.bool true)])):Nk m b (c++[n]):=by
 unfold Nk;grind
theorem Nk.look{c}(h:Nk m b c):uP m b (List.map (λp:Value×Bool=>(p.fst,Value.bool p.snd)) (c.map λn=>(Value.string n,true))):=by
 rw[map_map];exact h
theorem Kb{β}{c:dh}{x}:∀e:Value×β,e∈(c.map λn=>(Value.string n,x))->∃s,e.fst= .string s:=λe d=>by
 grind
theorem WH{β}{c:dh}{x n}(h:n∉c):∀e:Value×β,e∈(c.map λn=>(Value.string n,x))->e.fst= .string n->False:=λe d h'=>by
 grind
theorem HI{β}{c:dh}{x n}(h:∀e:Value×β,e∈(c.map λn=>(Value.string n,x))->e.fst= .string n->False):n∉c:=λd=>h (.string n,x) (mem_map.2 ⟨n,d,rfl⟩) rfl
theorem WI{β}{c:dh}{x:β}{y n}(h:(Value.string n,y)∈(c.map λn=>(Value.string n,x))):n∈c/\y=x:=by
 grind
theorem aiJ:bm 136 bXQ:=by
 refine EN func136 ?_;rintro b' m h K ⟨v,s,rfl,hs,hK⟩;refine⟨bJX v h,rfl,aE aaZ aG,M0 v m h (lR h K),ax,?_⟩;show M0 v m h (lR h K);dsimp only[M0,push_cast];have hl:=hs.tables.slen;have a8:=hs.tables.len;have hf:¬Good E5 s.tables->K (cB false) m h:=λh=>hK false ⟨λe=>(by cases e),λe=>(h e).elim⟩;intro b m1 hb S;refine⟨λ⟨i,C,mx⟩=>i<=s.tables.length/\Sub m mx/\m C=none/\Nk mx C ((s.tables.take i).map Am.name)/\gJ E5 s.tables i,λ⟨i,_,_⟩=>s.tables.length-i,⟨(0,b,m1),⟨aC,(Sub.refl m).upd hb.m_ S.other,hb.m_,⟨_,_,S.at_,rfl⟩,.zero⟩,MT⟩,?_⟩;rintro⟨i,C,mx⟩ ⟨hi,n,T,E,u⟩;dsimp only;refine aF (λU=>?_) (λb0=>.sub n (hK true ⟨λ_=>u.all aC,λ_=>rfl⟩));obtain⟨t,V⟩:=eV hl U;obtain⟨bb,o,w,ea,hr,f⟩:=hs.tables.at V;have a3:=bL.slen f.columns;have b3:=bL.len f.columns;have W:=f.name;have b4:=f.key;have bad:¬E5 (s.tables.take i) t->lR h K (.val (.bool false)) mx h:=λhn=>.sub n (hf (Good.not V hn));have X:t.name∉(s.tables.take i).map Am.name->qH w.name=true->1<=w.key->w.key<=w.columns.len->Good YM t.columns->E5 (s.tables.take i) t:=λh1 h2 h3 h4 h5=>⟨bg,aC,aC,h1,h5⟩
 refine⟨bb,o,ea,aC,U,w,.imm hr,w.name,rfl,aD (λh1=>bad λg=>?_) (λh1=>⟨_,_,E.look,CZ,⟨_,rfl⟩,Kb,λY=>aF (λh2=>bad λg=>?_) (λh2=>aF (λh3=>bad λg=>?_) (λh3=>⟨_,_,E,CZ,⟨_,rfl⟩,Kb,WH (HI Y),λm2 a4 z R m3 J L=>?_⟩)),λy hy=>?_⟩)⟩
 .have:=g.1;grind
 .have:=g.2.1;omega
 .have:=g.2.2.1;omega
 .have z:=Nk.snoc z;have j:Sub m m2:=n.upd T a4.other;have M:Sub m m3:=j.upd (j.free J.m_) L.other
  have Z:C≠R:=λe=>by
   obtain⟨es,cl,e1,_⟩:=z.ex;rw[e,J.m_]at e1;cases e1
  have a':t.name∉(s.tables.take i).map Am.name:=by rw[<-W];exact HI Y
  rw[W, <-jV V]at z
  refine⟨λ⟨i',k,a5,a6,sl,O⟩=>i'=i/\a5=C/\a6=R/\sl=w.columns/\k<=t.columns.length/\Sub m O/\Nk O C ((s.tables.take (i+1)).map Am.name)/\Nk O R ((t.columns.take k).map pS.name)/\gJ YM t.columns k,λ⟨_,k,_,_,_,_⟩=>t.columns.length-k,
   ⟨(i,0,C,R,w.columns,m3),⟨rfl,rfl,rfl,rfl,aC,M,z.other Z L.other,⟨_,_,L.at_,rfl⟩,.zero⟩,MT⟩,?_⟩
  rintro⟨i,k,C,R,_,O⟩ ⟨rfl,rfl,rfl,rfl,hk,d,F,G,a0⟩;dsimp only;refine aF (λH=>?_) (λa9=>?_)
  .obtain⟨c,hc⟩:=eV a3 H;obtain⟨bc,oc,ec,rc⟩:=GN.at f.columns hc;have A:∀mz,Sub m mz->¬YM (t.columns.take k) c->lR h K (.val (.bool false)) mz h:=λmz hz hn=>.sub hz (hf (Good.not V (λg=>Good.not hc hn g.2.2.2.2)));refine⟨bc,oc,ec,aC,H,c,.imm rc,c.name,rfl,aD (λh4=>A O d λg=>?_) (λh4=>⟨_,_,G.look,CZ,⟨_,rfl⟩,Kb,λI=>⟨_,_,G,CZ,⟨_,rfl⟩,Kb,WH (HI I),λm4 a1 D=>?_⟩,λy hy=>?_⟩)⟩
   .rw[g.1]at h4;cases h4
   .have D:=Nk.snoc D;rw[<-jV hc]at D;have B:Sub m m4:=d.upd (j.free J.m_) a1.other;have P:gM c.kind=true->YM (t.columns.take k) c:=λe=>⟨bg,e,HI I⟩
    have Q:gM c.kind=false->¬YM (t.columns.take k) c:=λe g=>by rw[g.2.1]at e;cases e
    have a7:=F.other Z a1.other
    repeat' (first|(refine aD (λ_=>?_) (λ_=>?_))|(refine A m4 B (Q ?_);simp_all [gM];done)|exact⟨(i,k+1,C,R,w.columns,m4),⟨rfl,rfl,rfl,rfl,bj,B,a7,D,a0.succ hc (P (by simp_all [gM]))⟩,bi,MT⟩)
   .obtain⟨a2,rfl⟩:=WI hy;exact aD (λ_=>A O d λg=>g.2.2 a2) (λe=>by cases e)
  .refine⟨(i+1,C,O),⟨aC,d,T,F,u.succ V (X a' bg aC aC (a0.all aC))⟩,?_,MT⟩;omega
 .obtain⟨a2,rfl⟩:=WI hy;exact aD (λ_=>bad λg=>g.2.2.2.1 bg) (λe=>by cases e)
theorem P6{α}{f:α->ByteArray}{l:List α}{x n}(hx:l[i]? =some x)(h:n∉(l.take i).map f)(c:f x≠n):n∉(l.take (i+1)).map f:=by
 rw[jV hx,mem_append]
 grind
theorem cvZ{α}{f:α->ByteArray}{l:List α}{k x n}(hx:l[i]? =some x)(d:i<k)(c:f x=n):n∈(l.take k).map f:=
 mem_map.2 ⟨x,mem_of_getElem? (i:=i) bg,c⟩
theorem akQ:bm 121 bRJ:=by
 refine iQ func121 ?_;rintro a2 m h K ⟨v,s,t,i,rfl,F,U,V⟩;refine⟨bMQ v i m h,rfl,aE acX (aE Re aG),TS v i m h K,ax,?_⟩;dsimp only[TS,push_cast];have hl:=F.tables.slen;have W:=F.tables.len;have a3:i<s.tables.length:=(List.getElem?_eq_some_iff.1 U).1;have bad:¬E5 (s.tables.take i) t->K (.val (.bool false)) m h:=λh=>V false ⟨λe=>(by cases e),λe=>(h e).elim⟩;obtain⟨bb,o,w,ea,hr,d⟩:=F.tables.at U;have G:=bL.slen d.columns;have a4:=bL.len d.columns;have D:=d.name;have a5:=d.key;refine⟨bb,o,ea,aC,aC,w,.imm hr,w.name,rfl,aD (λh1=>bad λf=>?_) (λh1=>aD (λh2=>bad λf=>?_) (λh2=>aF (λh3=>bad λf=>?_) (λh3=>aF (λh4=>bad λf=>?_) (λh4=>?_))))⟩
 .have:=f.1;grind
 .have:=f.2.1;have:=f.2.2.1;grind
 .have:=f.2.1;omega
 .have:=f.2.2.1;omega
 refine⟨λ⟨k,A⟩=>A=w/\k<=i/\t.name∉(s.tables.take k).map Am.name,λ⟨k,_⟩=>i-k,⟨(0,w),⟨rfl,aC,ay⟩,MT⟩,?_⟩;rintro⟨k,w⟩ ⟨rfl,hk,E⟩;dsimp only;refine aF (λg=>?_) (λa6=>?_)
 .obtain⟨X,B⟩:∃X,s.tables[k]? =some X:=⟨s.tables[k]'(by omega),getElem?_eq_getElem _⟩
  obtain⟨b',o',A,H,I,n⟩:=F.tables.at B;refine⟨b',o',H,aC,aC,A.name,.imm (cO.part I 0 1),aD (λe=>bad λf=>?_) (λe=>?_)⟩
  .refine f.2.2.2.1 (cvZ B aC ?_);rw[<-n.name, <-D];exact CU (bk e)
  .refine⟨(k+1,w),⟨rfl,aC,P6 B E λY=>?_⟩,aC,MT⟩;rw[<-n.name, <-D]at Y
   grind
 .have J:k=i:=by omega
  subst J;refine⟨λ⟨k,A⟩=>A=w/\k<=t.columns.length/\gJ YM t.columns k,λ⟨k,_⟩=>t.columns.length-k,⟨(0,w),⟨rfl,aC,.zero⟩,MT⟩,?_⟩;rintro⟨c,w⟩ ⟨rfl,hc,Z⟩;dsimp only;refine aF (λg=>?_) (λa'=>V true ⟨λ_=>⟨bg,aC,aC,E,Z.all aC⟩,λ_=>rfl⟩);obtain⟨x,C⟩:=eV G g;obtain⟨L,M,O,P⟩:=GN.at d.columns C;have u:¬YM (t.columns.take c) x->K (.val (.bool false)) m h:=λhn=>bad λf=>Good.not C hn f.2.2.2.2;refine⟨L,M,O,aC,g,x.name,.imm (cO.part P 0 1),x.name,rfl,aD (λQ=>u λf=>?_) (λQ=>⟨L,M,O,aC,g,x.kind,.imm (cO.part P 1 1),x.kind,rfl,aD (λR=>u λf=>?_) (λR=>?_)⟩)⟩
  .rw[f.1]at Q;cases Q
  .rw[f.2.1]at R;cases R
  refine⟨λ⟨c',j,A⟩=>A=w/\c'=c/\j<=c/\x.name∉(t.columns.take j).map pS.name,λ⟨_,j,_⟩=>c-j,⟨(c,0,w),⟨rfl,rfl,aC,ay⟩,MT⟩,?_⟩;rintro⟨c,j,w⟩ ⟨rfl,rfl,hj,z⟩;dsimp only;refine aF (λa0=>?_) (λa1=>?_)
  .obtain⟨y,S⟩:∃y,t.columns[j]? =some y:=⟨t.columns[j]'(by omega),getElem?_eq_getElem _⟩
   obtain⟨T,oy,ey,ry⟩:=GN.at d.columns S;refine⟨T,oy,ey,aC,aC,y.name,.imm (cO.part ry 0 1),L,M,O,aC,g,x.name,.imm (cO.part P 0 1),aD (λe=>u λf=>?_) (λe=>?_)⟩
   .exact f.2.2 (cvZ S aC (CU (bk e)))
   .refine⟨(c,j+1,w),⟨rfl,rfl,bg,P6 S z λY=>?_⟩,bg,MT⟩
    grind
  .have:j=c:=by omega
   subst this;exact⟨(j+1,w),⟨rfl,aC,Z.succ C ⟨bg,bg,z⟩⟩,aC,MT⟩
def JH(t g:Am)(k:Nat)(c:Int):=0<=c/\c<t.columns.length/\∃x y,t.columns[c.toNat]? =some x/\g.columns[k]? =some y/\x.kind=y.kind
def bVQ(tabs:List Am)(t:Am)(_:List Ref)(r:Ref):=0<=r.table/\r.table<tabs.length/\∃g,tabs[r.table.toNat]? =some g/\(r.columns.length:Int)=g.key/\Good (λd c=>JH t g d.length c) r.columns
def GG(tabs _:List Am)(t:Am):=Good (bVQ tabs t) t.refs
def bUJ:Vc.Spec:=λc m h K=>∃v s,c=[aS v]/\iF h s v/\Good E5 s.tables/\∀r:Bool,(r=true↔Good (GG s.tables) s.tables)->K (cB r) m h
def aIZ:Vc.Spec:=λc m h K=>∃v s t,∃i:Nat,c=[aS v,cI i]/\iF h s v/\Good E5 s.tables/\s.tables[i]? =some t/\∀r:Bool,(r=true↔GG s.tables [] t)->K (cB r) m h
noncomputable def bJQ(v:bZ)(m:MH)(h:PH):=
 dE [] [(2,{A:=Nat,st:=λi=>bU 82 83 [(1,.at (.ptr 1 0)),(11,sv v.tables),(12,iv v.tables.len),(13,iv i)] [(1,.cells 27 (v.enc.map .val))] m h}),
  (5,{A:=Nat×Nat×cW,st:=λ⟨i,k,w⟩=>bU 82 83 [(1,.at (.ptr 1 0)),(4,.at (.ptr 4 0)),(11,sv v.tables),(12,iv v.tables.len),(13,iv i),(18,sv w.references),(19,iv w.references.len),(20,iv k)] [(1,.cells 27 (v.enc.map .val)),(4,.cells 73 (w.enc.map .val))] m h}),
  (13,{A:=Nat×Nat×Nat×cW×cW×Sl,st:=λ⟨i,k,j,w,g,c⟩=>bU 82 83 [(1,.at (.ptr 1 0)),(4,.at (.ptr 4 0)),(7,.at (.ptr 7 0)),(11,sv v.tables),(12,iv v.tables.len),(13,iv i),(18,sv w.references),(19,iv w.references.len),(20,iv k),(48,sv c),(49,iv c.len),(50,iv j)] [(1,.cells 27 (v.enc.map .val)),(4,.cells 73 (w.enc.map .val)),(7,.cells 73 (g.enc.map .val))] m h})] [] [] false
noncomputable def bLJ(v:bZ)(m:MH)(h:PH):=
 dE [] [(3,{A:=Nat×cW,st:=λ⟨k,w⟩=>bU 85 87 [(2,.at (.ptr 2 0)),(5,.at (.ptr 5 0)),(16,sv w.references),(17,iv w.references.len),(18,iv k)] [(2,.cells 27 (v.enc.map .val)),(5,.cells 73 (w.enc.map .val))] m h}),
  (8,{A:=Nat×Nat×cW×GL,st:=λ⟨k,j,w,r⟩=>bU 85 87 [(2,.at (.ptr 2 0)),(5,.at (.ptr 5 0)),(7,.at (.ptr 7 0)),(16,sv w.references),(17,iv w.references.len),(18,iv k),(47,sv r.columns),(48,iv r.columns.len),(49,iv j)] [(2,.cells 27 (v.enc.map .val)),(5,.cells 73 (w.enc.map .val)),(7,.cells 129 (r.enc.map .val))] m h})] [] [] false
abbrev pN(a:(Nat->Prop)->Nat->Prop)(b:(Nat->Prop)->(Nat->Nat)->Nat->Prop):=∃(x:Nat->Prop)(d:Nat->Nat),kX (∃(c:Nat),a x c) (λc=>b x d c)
abbrev eM:=eP 1
abbrev DW(a b:cW):=aZ a.references b.references
abbrev Fj(a b:cW):=bN a.references b.references
abbrev HL(a:bZ)(b:Int)(c:Nat->Nat->Prop):=bJ (λx d=>aI (aW (BU a) x d) (0<=b) (b<aH a.tables) (c x d))
abbrev wJ(a:Nat×Nat×Nat×cW×cW×Sl):=a.2.2.2.1
abbrev AT(a:Nat×Nat×Nat×cW×cW×Sl):=a.2.2.2.2.2
abbrev yZ(a:Nat×Nat×Nat×cW×cW×Sl):=a.2.2.1
abbrev Im(a:Nat×Nat×Nat×cW×cW×Sl):=a.2.2.2.2.1
attribute [push_cast] pN eM DW Fj HL wJ AT yZ Im
def MZ(v:bZ)(m:MH)(h:PH)(K:bo):=
  pN (λI x=>aA (I x) eM (aA (tR v) (kC v) (aA (bA x) (cG v) (aA (m=m) (h=h) True)))) (λI n x=>HJ (I x) x v (λb o y=>aK m h b (o+bM x 5) (A9 y)/\∃(I1:Nat×Nat×cW->Prop)(t:Nat×Nat×cW->Nat),(∃(d:Nat×Nat×cW),aA (I1 d) eM (aA (eP 4) (tR v) (aA (kC v) (cD x d.1) (aA (DW y (nN d)) (Fj y (nN d)) (aA (bA (uG d)) (cG v) (aA (oQ 73 (iX y)=oQ 73 (iX (nN d))) (m=m) (bT h h)))))))/\∀(d:Nat×Nat×cW),I1 d->aY (↑(uG d):Int) (aH (nN d).references) (bJ (λu z=>aI (aW (nN d).references.a u z) (0<=(↑(uG d):Int)) ((↑(uG d):Int)<aH (nN d).references) (∃(f:GL),aK m h u (z+bM (uG d) 2) (jX (dP f.columns) (fV f.table))
 /\aY f.table 0 (K bH m h) (iA f.table (kM v) (K bH m h) (HL v f.table (λL M=>∃(j:cW),aK m h L (M+gY f.table 5) (A9 j)/\cV (aH f.columns) j.key (K bH m h) (∃(I2:Nat×Nat×Nat×cW×cW×Sl->Prop)(A:Nat×Nat×Nat×cW×cW×Sl->Nat),(∃(c:Nat×Nat×Nat×cW×cW×Sl),aA (I2 c) eM (aA (eP 4) (eP 7) (aA (tR v) (kC v) (aA (cD d.1 c.1) (DW (nN d) (wJ c)) (aA (Fj (nN d) (wJ c)) (cD (uG d) c.2.1) (aA (aZ f.columns (AT c)) (bN f.columns (AT c)) (aA (bA (yZ c)) (cG v) (aA (oQ 73 (iX (nN d))=oQ 73 (iX (wJ c))) (oQ 73 (iX j)=oQ 73 (iX (Im c))) (dY m m h h)))))))))/\∀(c:Nat×Nat×Nat×cW×cW×Sl),I2 c->aY (↑(yZ c):Int)
 (aH (AT c)) (bJ (λB C=>aI (aW (AT c).a B C) (0<=(↑(yZ c):Int)) ((↑(yZ c):Int)<aH (AT c)) (∃(g:Int),aK m h B (C+bM (yZ c) 1) (bB g)/\aY g 0 (K bH m h) (iA g (Bk (wJ c)) (K bH m h) (bJ (λD E=>aI (aW (wJ c).columns.a D E) (0<=g) (g<aH (wJ c).columns) (∃(F:Int),aK m h D (E+gY g 2+1) (bB F)/\bJ (λG H=>aI (aW (Im c).columns.a G H) (0<=(↑(yZ c):Int)) ((↑(yZ c):Int)<aH (Im c).columns) (∃(J:Int),aK m h G (H+bM (yZ c) 2+1) (bB J)/\cV F J (K bH m h) (∃(e:Nat×Nat×Nat×cW×cW×Sl),aA (I2 e) (A e<A c) (aA eM (eP 4) (aA (eP 7) (tR v) (aA (kC v) (cD c.1 e.1) (aA (DW (wJ c) (wJ e))
 (Fj (wJ c) (wJ e)) (aA (cD c.2.1 e.2.1) (aZ (AT c) (AT e)) (aA (bN (AT c) (AT e)) (gK (bE (yZ c) 1)=bO (yZ e)) (aA (cG v) (oQ 73 (iX (wJ c))=oQ 73 (iX (wJ e))) (cZ (oQ 73 (iX (Im c))=oQ 73 (iX (Im e))) m m h h)))))))))))))))))) (∃(e:Nat×Nat×cW),aA (I1 e) (t e<t d) (aA eM (eP 4) (aA (aJ v.tables) (kC v) (aA (cD c.1 e.1) (DW (wJ c) (nN e)) (aA (Fj (wJ c) (nN e)) (gK (bE c.2.1 1)=bO (uG e)) (aA (cG v) (oQ 73 (iX (wJ c))=oQ 73 (iX (nN e))) (dY m m h h)))))))))))))) (∃(c:Nat),aA (I c) (n c<n x) (aA eM (tR v) (aA (kC v) (gK (bE d.1 1)=bO c) (aA (cG v) (m=m) (bT h h)))))) (K iM m h))
abbrev OZ(a:bZ)(b:Int)(c:Nat->Nat->Int->Prop):=bJ (λx d=>aI (aW (BU a) x d) (0<=b) (b<aH a.tables) (∃(e:Int),c x d e))
abbrev wK(a:Nat×Nat×cW×GL):=a.2.2.1
abbrev vL(a:Nat×Nat×cW×GL):=a.2.2.2.columns
abbrev Ie(a:Nat×Nat×cW×GL):=a.2.2.2.table
attribute [push_cast] OZ wK vL Ie
def M3(v:bZ)(i:Nat)(m:MH)(h:PH)(K:bo):=
  bJ (λb o=>aI (aW (BU v) b o) (0<=(↑i:Int)) ((↑i:Int)<aH v.tables) (∃(y:cW),aK m h b (o+bM i 5) (A9 y)/\OJ (λI x=>aA (I x) iU (aA (eP 5) (DW y x.2) (aA (Fj y x.2) (bA x.1) (aA (cG v) (FL y x) (dY m m h h))))) (λI j x=>I x->aY (↑x.1:Int) (aH x.2.references) (bJ (λn t=>aI (aW x.2.references.a n t) (0<=(↑x.1:Int)) ((↑x.1:Int)<aH x.2.references) (∃(e:GL),aK m h n (t+bM x.1 2) (jX (dP e.columns) (fV e.table))/\aY e.table 0 (K bH m h) (iA e.table (kM v) (K bH m h) (OZ v e.table (λJ L u=>aK m h J (L+gY e.table 5+2) (bB u)/\cV (aH e.columns) u (K bH m h) (∃(I1:Nat×Nat×cW×GL->Prop)(z:Nat×Nat×cW×GL->Nat),(∃(c:Nat×Nat×cW×GL),aA
 (I1 c) iU (aA (eP 5) (eP 7) (aA (DW x.2 (wK c)) (Fj x.2 (wK c)) (aA (cD x.1 c.1) (aZ e.columns (vL c)) (aA (bN e.columns (vL c)) (bA c.2.1) (aA (cG v) (oQ 73 (iX x.2)=oQ 73 (iX (wK c))) (cZ (oQ 129 (oJ (yG e.columns) (j9 e.table))=oQ 129 (oJ (yG (vL c)) (j9 (Ie c)))) m m h h)))))))/\∀(c:Nat×Nat×cW×GL),I1 c->aY (↑c.2.1:Int) (aH (vL c)) (bJ (λA B=>aI (aW (vL c).a A B) (0<=(↑c.2.1:Int)) ((↑c.2.1:Int)<aH (vL c)) (∃(f:Int),aK m h A (B+bM c.2.1 1) (bB f)/\aY f 0 (K bH m h) (iA f (Bk (wK c)) (K bH m h) (bJ (λC D=>aI (aW (wK c).columns.a C D) (0<=f) (f<aH (wK c).columns) (∃(E:Int),aK m h C (D+gY f 2+1) (bB
 E)/\O8 v (Ie c) (λM O g=>aK m h M (O+gY (Ie c) 5+1) (aR g)/\bJ (λF G=>aI (aW g.a F G) (0<=(↑c.2.1:Int)) ((↑c.2.1:Int)<aH g) (∃(H:Int),aK m h F (G+bM c.2.1 2+1) (bB H)/\cV E H (K bH m h) (∃(d:Nat×Nat×cW×GL),aA (I1 d) (z d<z c) (aA iU eN (aA (eP 7) (DW (wK c) (wK d)) (aA (Fj (wK c) (wK d)) (cD c.1 d.1) (aA (aZ (vL c) (vL d)) (bN (vL c) (vL d)) (aA (gK (bE c.2.1 1)=bO d.2.1) (cG v) (aA (oQ 73 (iX (wK c))=oQ 73 (iX (wK d))) (oQ 129 (oJ (yG (vL c)) (j9 (Ie c)))=oQ 129 (oJ (yG (vL d)) (j9 (Ie d)))) (aA (m=m) (h=h) True)))))))))))))))))) (∃(d:Nat×cW),aA (I d) (j d<j x) (aA iU
 eN (aA (aZ (wK c).references d.2.references) (Fj (wK c) d.2) (aA (gK (bE c.1 1)=bO d.1) (cG v) (cZ (FL (wK c) d) m m h h)))))))))))) (K iM m h))))
theorem Ints.at'{s}(r:Ints h s l){x}(c:l[i]? =some x):∃b o,s.a=some ⟨b,o,none⟩/\cO h b (o+i*1) [.int .i64 x]:=by
 obtain⟨b,o,e,k⟩:=r.at c
 grind
theorem V5{α}{l:List α}{x}(h:l[i]? =some x):(l.take i).length=i:=by
 grind
theorem Good.key_le{tabs}(h:Good E5 tabs){g}(c:tabs[i]? =some g):g.key<=g.columns.length:=(h i g c).2.2.1
theorem cpJ{v}(P:iF h s v)(C:Good E5 s.tables)(hK:∀r:Bool,(r=true↔Good (GG s.tables) s.tables)->K (cB r) m h):MZ v m h K:=by
 dsimp only[MZ,push_cast];have hl:=P.tables.slen;have a8:=P.tables.len;have hf:¬Good (GG s.tables) s.tables->K (.val (.bool false)) m h:=λh=>hK false ⟨λe=>(by cases e),λe=>(h e).elim⟩;refine⟨λi=>i<=s.tables.length/\gJ (GG s.tables) s.tables i,λi=>s.tables.length-i,⟨0,⟨aC,.zero⟩,MT⟩,λi⟨hi,hg⟩=>aF (λH=>?_) (λb1=>hK true ⟨λ_=>hg.all aC,λ_=>rfl⟩)⟩;obtain⟨t,R⟩:=eV hl H;obtain⟨b,o,w,ea,hr,f⟩:=P.tables.at R;have b7:=bL.slen f.columns;have S:=bL.slen f.refs;have b8:=bL.len f.refs;refine⟨b,o,ea,aC,H,w,.imm hr,λ⟨T,k,U⟩=>T=i/\U=w/\k<=t.refs.length/\gJ (bVQ s.tables t) t.refs k,λ⟨_,k,_⟩=>t.refs.length-k,⟨(i,0,w),⟨rfl,rfl,aC,.zero⟩,MT⟩,?_⟩;rintro⟨i,k,w⟩ ⟨rfl,rfl,hk,I⟩;dsimp only;refine aF (λA=>?_) (λa9=>⟨i+1,⟨aC,hg.succ R (I.all aC)⟩,aC,MT⟩);obtain⟨r,D⟩:=eV S A;obtain⟨b2,o2,F,V,W,d⟩:=f.refs.at D;have X:=d.columns.slen;have b9:=d.columns.len;have rt:=d.table;have bad:¬bVQ s.tables t (t.refs.take k) r->K (.val (.bool false)) m h:=λhn=>hf (Good.not R (Good.not D hn));refine⟨b2,o2,V,aC,A,F,.imm W,aF (λh1=>bad λu=>?_) (λh1=>aF (λh2=>bad λu=>?_) (λh2=>?_))⟩
 .have:=u.1;omega
 .have:=u.2.1;omega
 obtain⟨g,b3,o3,G,J,Y,Z,n⟩:=P.table (t:=F.table) aC aC;have c':=bL.slen n.columns;have b':=C.key_le J;have gk:=n.key;refine⟨b3,o3,Y,aC,aC,G,.imm Z,aD (λh3=>bad λu=>?_) (λh3=>?_)⟩
 .obtain⟨_,_,g',E,c0,_⟩:=u
  grind
 have h3:(F.columns.len:Int)=G.key:=bg
 refine⟨λ⟨T,k',j,U,g',sl⟩=>T=i/\k'=k/\U=w/\g'=G/\sl=F.columns/\j<=r.columns.length/\gJ (λa' c=>JH t g a'.length c) r.columns j,λ⟨_,_,j,_,_,_⟩=>r.columns.length-j,⟨(i,k,0,w,G,F.columns),⟨rfl,rfl,rfl,rfl,rfl,aC,.zero⟩,MT⟩,?_⟩;rintro⟨i,k,j,w,G,_⟩ ⟨rfl,rfl,rfl,rfl,rfl,hj,L⟩;dsimp only;refine aF (λB=>?_) (λb0=>⟨(i,k+1,w),⟨rfl,rfl,bg,I.succ D ⟨aC,aC,g,bg,aC,L.all aC⟩⟩,bg,MT⟩);obtain⟨c,Q⟩:=eV X B;obtain⟨b4,o4,a0,a1⟩:=d.columns.at' Q;have a2:=V5 Q
 have z:¬JH t g j c->K (.val (.bool false)) m h:=λhn=>bad λu=>by
  obtain⟨_,_,g',E,_,a3⟩:=u;rw[<-rt,J]at E;cases E;have:=a3 j c Q
  grind
 refine⟨b4,o4,a0,aC,B,c,.imm a1,aF (λh5=>z λu=>?_) (λh5=>aF (λh6=>z λu=>?_) (λh6=>?_))⟩
 .have:=u.1;omega
 .have:=u.2.1;omega
 obtain⟨x,M⟩:∃x,t.columns[c.toNat]? =some x:=⟨t.columns[c.toNat]'(by omega),getElem?_eq_getElem _⟩
 obtain⟨y,O⟩:∃y,g.columns[j]? =some y:=⟨g.columns[j]'(by omega),getElem?_eq_getElem _⟩
 obtain⟨b5,o5,a4,a5⟩:=GN.at f.columns M;obtain⟨b6,o6,a6,a7⟩:=GN.at n.columns O;refine⟨b5,o5,a4,aC,aC,x.kind,.imm (cO.part a5 1 1),b6,o6,a6,aC,aC,y.kind,.imm (cO.part a7 1 1),aD (λh7=>z λu=>?_) (λh7=>?_)⟩
 .obtain⟨_,_,x',y',e1,e2,e3⟩:=u
  grind
 .exact⟨(i,k,j+1,w,G,F.columns),⟨rfl,rfl,rfl,rfl,rfl,bg,L.succ Q (by show JH t g (List.take j r.columns).length c;rw[a2];exact⟨aC,aC,x,y,M,O,bg⟩)⟩,bg,MT⟩
theorem aiZ:bm 137 bUJ:=by
 refine iQ func137 ?_;rintro c m h K ⟨v,s,rfl,d,e,f⟩;refine⟨bJQ v m h,rfl,aG,MZ v m h K,ax,?_⟩;exact cpJ d e f
theorem cqJ{v t}(P:iF h s v)(C:Good E5 s.tables)(hx:s.tables[i]? =some t)(hK:∀r:Bool,(r=true↔GG s.tables [] t)->K (cB r) m h):M3 v i m h K:=by
 dsimp only[M3,push_cast];have hl:=P.tables.slen;have a5:=P.tables.len;have a9:i<s.tables.length:=(List.getElem?_eq_some_iff.1 hx).1;have hf:¬GG s.tables [] t->K (.val (.bool false)) m h:=λh=>hK false ⟨λe=>(by cases e),λe=>(h e).elim⟩;obtain⟨b,o,w,ea,hr,f⟩:=P.tables.at hx;have b':=bL.slen f.columns;have R:=bL.slen f.refs;have b0:=bL.len f.refs;refine⟨b,o,ea,aC,aC,w,.imm hr,λ⟨k,S⟩=>S=w/\k<=t.refs.length/\gJ (bVQ s.tables t) t.refs k,λ⟨k,_⟩=>t.refs.length-k,⟨(0,w),⟨rfl,aC,.zero⟩,MT⟩,?_⟩;rintro⟨k,w⟩ ⟨rfl,hk,G⟩;dsimp only;refine aF (λA=>?_) (λa6=>hK true ⟨λ_=>G.all aC,λ_=>rfl⟩);obtain⟨r,D⟩:=eV R A;obtain⟨b2,o2,E,T,U,d⟩:=f.refs.at D;have V:=d.columns.slen;have b1:=d.columns.len;have rt:=d.table;have bad:¬bVQ s.tables t (t.refs.take k) r->K (.val (.bool false)) m h:=λhn=>hf (Good.not D hn);refine⟨b2,o2,T,aC,A,E,.imm U,aF (λh1=>bad λu=>?_) (λh1=>aF (λh2=>bad λu=>?_) (λh2=>?_))⟩
 .have:=u.1;omega
 .have:=u.2.1;omega
 obtain⟨g,b3,o3,W,H,I,J,n⟩:=P.table (t:=E.table) aC aC;have b7:=bL.slen n.columns;have a7:=C.key_le H;have gk:=n.key;refine⟨b3,o3,I,aC,aC,W.key,.imm (cO.part J 2 1),aD (λh3=>bad λu=>?_) (λh3=>?_)⟩
 .obtain⟨_,_,g',F,b8,_⟩:=u
  grind
 have h3:(E.columns.len:Int)=W.key:=bg
 refine⟨λ⟨k',j,S,r'⟩=>k'=k/\S=w/\r'=E/\j<=r.columns.length/\gJ (λX c=>JH t g X.length c) r.columns j,λ⟨_,j,_,_⟩=>r.columns.length-j,⟨(k,0,w,E),⟨rfl,rfl,rfl,aC,.zero⟩,MT⟩,?_⟩;rintro⟨k,j,w,E⟩ ⟨rfl,rfl,rfl,hj,L⟩;dsimp only;refine aF (λB=>?_) (λa8=>⟨(k+1,w),⟨rfl,aC,G.succ D ⟨aC,aC,g,bg,aC,L.all aC⟩⟩,aC,MT⟩);obtain⟨c,Q⟩:=eV V B;obtain⟨b4,o4,Y,Z⟩:=d.columns.at' Q;have a':=V5 Q
 have z:¬JH t g j c->K (.val (.bool false)) m h:=λhn=>bad λu=>by
  obtain⟨_,_,g',F,_,a0⟩:=u;rw[<-rt,H]at F;cases F;have:=a0 j c Q
  grind
 refine⟨b4,o4,Y,aC,B,c,.imm Z,aF (λh5=>z λu=>?_) (λh5=>aF (λh6=>z λu=>?_) (λh6=>?_))⟩
 .have:=u.1;omega
 .have:=u.2.1;omega
 obtain⟨x,M⟩:∃x,t.columns[c.toNat]? =some x:=⟨t.columns[c.toNat]'(by omega),getElem?_eq_getElem _⟩
 obtain⟨y,O⟩:∃y,g.columns[j]? =some y:=⟨g.columns[j]'(by omega),getElem?_eq_getElem _⟩
 obtain⟨b5,o5,a1,a2⟩:=GN.at f.columns M;obtain⟨b6,o6,a3,a4⟩:=GN.at n.columns O;refine⟨b5,o5,a1,aC,aC,x.kind,.imm (cO.part a2 1 1),b3,o3,I,aC,aC,W.columns,.imm (cO.part J 1 1),b6,o6,a3,aC,aC,y.kind,.imm (cO.part a4 1 1),aD (λh7=>z λu=>?_) (λh7=>?_)⟩
 .obtain⟨_,_,x',y',e1,e2,e3⟩:=u
  grind
 .exact⟨(k,j+1,w,E),⟨rfl,rfl,rfl,bg,L.succ Q (by show JH t g (List.take j r.columns).length c;rw[a'];exact⟨aC,aC,x,y,M,O,bg⟩)⟩,bg,MT⟩
theorem ajJ:bm 122 aIZ:=by
 refine iQ func122 ?_;rintro c m h K ⟨v,s,t,i,rfl,d,e,f,g⟩;refine⟨bLJ v m h,rfl,aG,M3 v i m h K,ax,?_⟩;exact cqJ d e f g
def Rr(t:Am):=t.columns.length<=8/\t.refs.length<=4/\t.checks.length<=4
def Ey(s:jQ):=s.tables.length<=8/\Good (λ_ t=>Rr t) s.tables
def LO(s:jQ):=0<=s.version/\s.version<=1000/\Good E5 s.tables/\Good (GG s.tables) s.tables
def wX:bn->Int
 |[]=>0
 |e::r=>if e=0 then wX r else e
def yK(s:jQ)(i:Nat):=match s.tables[i]? with|some t=>t.checks.map (iC (jA s i) [])|none=>[]
theorem BZ a b(h:∀e∈a,e=0):wX (a++b)=wX b:=by
 induction a with
 |nil=>rfl
 |cons x a c=>
  simp only[cons_append,wX];rw[if_pos (h x ay),c λe d=>h e (by simp[d])]
theorem Ex a(h:∀e∈a,e=0):wX a=0:=by
 have:=BZ a [] h;simpa[wX]using this
theorem N2{n k f e}(o:i<n)(t:∀j<i,∀x∈f j,x=0)(c:∀x∈(f i).take k,x=0)(d:(f i)[k]? =some e)(g:e≠0):wX ((List.range n).flatMap f)=e:=by
 obtain⟨r,rfl⟩:∃r,n=i+(1+r):=⟨n-i-1,aC⟩
 rw[range_add,flatMap_append,BZ]
 .rw[show(List.range (1+r)).map (i+ ·)=i::(range' (i+1) r)from ?_,flatMap_cons, <-take_append_drop k (f i),append_assoc,BZ _ _ c,drop_cons d]
  .simp[wX,g]
  .rw[Nat.add_comm 1 r,range_succ_eq_map];simp[range'_eq_map_range,Nat.add_assoc,Nat.add_comm 1]
 grind
open Classical in
noncomputable def eH(s:jQ):Int:=if Ey s then(if LO s then wX ((List.range s.tables.length).flatMap (yK s))else 70)else 2
def CX:Vc.Spec:=λc m h K=>∃v s,c=[aS v]/\iF h s v/\K (cI (eH s)) m h
noncomputable def cdZ(v:bZ)(m:MH)(h:PH):=
 dE [(136,bXQ),(137,bUJ),(69,u7),(138,u6)] [(4,{A:=Nat,st:=λi=>bU 83 84 [(1,.at (.ptr 1 0)),(16,sv v.tables),(17,iv v.tables.len),(18,iv i)] [(1,.cells 27 (v.enc.map .val))] m h}),
  (12,{A:=Nat×PH,st:=λ⟨i,c⟩=>bU 83 84 [(1,.at (.ptr 1 0)),(58,sv v.tables),(59,iv v.tables.len),(60,iv i)] [(1,.cells 27 (v.enc.map .val))] m c}),
  (16,{A:=Nat×Nat×Sl×Sl×PH,st:=λ⟨i,k,ks,d,c⟩=>bU 83 84 [(1,.at (.ptr 1 0)),(7,sv ks),(58,sv v.tables),(59,iv v.tables.len),(60,iv i),(69,sv d),(70,iv d.len),(71,iv k)] [(1,.cells 27 (v.enc.map .val))] m c})] [] [] false
noncomputable def cfJ(v:bZ)(m:MH)(h:PH):=
 dE [(121,bRJ),(122,aIZ),(45,u7),(66,u6)] [(4,{A:=Nat,st:=λi=>bU 96 97 [(1,.at (.ptr 1 0)),(16,sv v.tables),(17,iv v.tables.len),(18,iv i)] [(1,.cells 27 (v.enc.map .val))] m h}),
  (12,{A:=Nat,st:=λi=>bU 96 97 [(1,.at (.ptr 1 0)),(49,iv v.tables.len),(50,iv i)] [(1,.cells 27 (v.enc.map .val))] m h}),
  (18,{A:=Nat,st:=λi=>bU 96 97 [(1,.at (.ptr 1 0)),(60,iv v.tables.len),(61,iv i)] [(1,.cells 27 (v.enc.map .val))] m h}),
  (24,{A:=Nat×PH,st:=λ⟨i,c⟩=>bU 96 97 [(1,.at (.ptr 1 0)),(71,iv v.tables.len),(72,iv i)] [(1,.cells 27 (v.enc.map .val))] m c}),
  (27,{A:=Nat×Nat×Sl×PH,st:=λ⟨i,k,d,c⟩=>bU 96 97 [(1,.at (.ptr 1 0)),(7,iv i),(71,iv v.tables.len),(72,iv i),(80,sv d),(81,iv d.len),(82,iv k)] [(1,.cells 27 (v.enc.map .val))] m c})] [] [] false
abbrev AQ(a:bZ)(b:Int)(c:Nat->Nat->Option Value)(d:Sl->PH->Prop):=qO (λx e=>∃(g:Int),aI (eZ (kQ (cK a)) b=eZ (kQ (cK x)) g) (iF c e x) (nU e) (∀(j:Sl)(f:PH),bQ c f (Ints f j (jA e g)) (d j f)))
abbrev AU(a:Nat×Nat×Sl×Sl×PH):=a.2.2.2.1
abbrev DT(a:Nat×Nat×Sl×Sl×PH):=a.2.2.2.2
abbrev Jr(a:bn->bn->Prop):=∃(x c:bn),a x c
abbrev FG(a:cr)(b:PH)(c:bn->bn->Pred->Prop):=qP (λx d=>∃(e:PV),Jr (λf g=>∃(j:Pred),aA (a=cX x (fZ d (gP e))) (Ints b x f) (aA (Ints b d g) (fH b j e) (c f g j))))
attribute [push_cast] AQ AU DT Jr FG
def QL(v:bZ)(m:MH)(h:PH)(K:bo):=
  fR (kM v) 8 (K (iR 2) m h) (pN (λI x=>aA (I x) eM (aA (tR v) (kC v) (aA (bA x) (cG v) (aA (m=m) (h=h) True)))) (λI j x=>HJ (I x) x v (λb o y=>aK m h b (o+bM x 5) (A9 y)/\pP (decide (Bk y>8)) (K (iR 2) m h) (aH y.references) 4 (K (iR 2) m h) (fR (aH y.checks) 4 (K (iR 2) m h) (∃(e:Nat),aA (I e) (j e<j x) (aA eM (tR v) (aA (kC v) (gK (bE x 1)=bO e) (aA (cG v) (m=m) (bT h h))))))) (aY v.version 0 (K (iR 70) m h) (fR v.version 1000 (K (iR 70) m h) (qO (λn s=>aA (eO (kQ (cK v)) (kQ (cK n))) (iF h s n) (∀(r:Bool),gX (iE r↔Good E5 s.tables) (!r) (K (iR 70) m h) (qO (λt g=>aI (eO (kQ (cK v)) (kQ (cK t))) (iF h g t) (Good E5 g.tables) (∀(u:Bool),
 gX (iE u↔Good (GG g.tables) g.tables) (!u) (K (iR 70) m h) (∃(I1:Nat×PH->Prop)(z:Nat×PH->Nat),(∃(e:Nat×PH),aA (I1 e) eM (aA (tR v) (kC v) (aA (bA e.1) (cG v) (aA (m=m) (h=e.2) True))))/\∀(e:Nat×PH),HJ (I1 e) e.1 v (λb o y=>aK m e.2 b (o+bM e.1 5) (A9 y)/\AQ v (↑e.1:Int) e.2 (λF G=>∃(I2:Nat×Nat×Sl×Sl×PH->Prop)(A:Nat×Nat×Sl×Sl×PH->Nat),(∃(d:Nat×Nat×Sl×Sl×PH),aA (I2 d) eM (aA (aZ F d.2.2.1) (tR v) (aA (kC v) (cD e.1 d.1) (aA (aZ y.checks (AU d)) (bN y.checks (AU d)) (aA (bA d.2.1) (cG v) (aA (m=m) (G=DT d) True))))))/\∀(d:Nat×Nat×Sl×Sl×PH),I2 d->aY (↑d.2.1:Int) (aH (AU d)) (bJ (λB C=>aI (aW (AU d).a B
 C) (0<=(↑d.2.1:Int)) ((↑d.2.1:Int)<aH (AU d)) (∃(D:PV),aK m (DT d) B (C+bM d.2.1 13) D.enc/\FG (cX d.2.2.1 (tO EZ (gP D))) (DT d) (λc p E=>cV (iC c p E) 0 (K (iR (iC c p E)) m (DT d)) (∃(f:Nat×Nat×Sl×Sl×PH),aA (I2 f) (A f<A d) (aA eM (aZ d.2.2.1 f.2.2.1) (aA (aJ v.tables) (kC v) (aA (cD d.1 f.1) (aZ (AU d) (AU f)) (aA (bN (AU d) (AU f)) (gK (bE d.2.1 1)=bO f.2.1) (aA (cG v) (m=m) (bT (DT d) (DT f)))))))))))) (∃(f:Nat×PH),aA (I1 f) (z f<z e) (aA eM (tR v) (aA (kC v) (gK (bE d.1 1)=bO f.1) (aA (cG v) (m=m) (bT (DT d) f.2))))))) (K (iR 0) m e.2))))))))))))
abbrev O6(a:jQ)(b:Nat)(c:Am):=a.tables[b]? =Option.some c
abbrev AV(a:Nat×Nat×Sl×PH):=a.2.2.1
attribute [push_cast] O6 AV
def QO(v:bZ)(m:MH)(h:PH)(K:bo):=
  fR (kM v) 8 (K (iR 2) m h) (pN (λI x=>aA (I x) eM (aA (tR v) (kC v) (aA (bA x) (cG v) (aA (m=m) (h=h) True)))) (λI z x=>HJ (I x) x v (λb o y=>aK m h b (o+bM x 5) (A9 y)/\pP (decide (Bk y>8)) (K (iR 2) m h) (aH y.references) 4 (K (iR 2) m h) (fR (aH y.checks) 4 (K (iR 2) m h) (∃(g:Nat),aA (I g) (z g<z x) (aA eM (tR v) (aA (kC v) (gK (bE x 1)=bO g) (aA (cG v) (m=m) (bT h h))))))) (aY v.version 0 (K (iR 70) m h) (fR v.version 1000 (K (iR 70) m h) (pN (λI1 g=>aA (I1 g) eM (aA (kC v) (bA g) (cZ (cG v) m m h h))) (λI1 A g=>I1 g->aY (↑g:Int) (aH v.tables) (qO (λn s=>∃(t:Am)(i:Nat),aI (eZ (kQ (cK v)) (↑g:Int)=eZ (kQ (cK n)) (↑i:Int))
 (iF h s n) (O6 s i t) (∀(r:Bool),gX (iE r↔E5 (List.take i s.tables) t) (!r) (K (iR 70) m h) (∃(j:Nat),aA (I1 j) (A j<A g) (aA eM (kC v) (aA (gK (bE g 1)=bO j) (cG v) (aA (m=m) (h=h) True))))))) (pN (λI2 j=>aA (I2 j) eM (aA (kC v) (bA j) (cZ (cG v) m m h h))) (λI2 B j=>I2 j->aY (↑j:Int) (aH v.tables) (qO (λn s=>∃(t:Am)(i:Nat),aA (eZ (kQ (cK v)) (↑j:Int)=eZ (kQ (cK n)) (↑i:Int)) (iF h s n) (aA (Good E5 s.tables) (O6 s i t) (∀(r:Bool),gX (iE r↔GG s.tables [] t) (!r) (K (iR 70) m h) (∃(e:Nat),aA (I2 e) (B e<B j) (aA eM (kC v) (aA (gK (bE j 1)=bO e) (cG v) (aA (m=m) (h=h) True)))))))) (∃(I3:Nat×PH->Prop)(C:Nat×PH->Nat),(∃(e:Nat×PH),
 aA (I3 e) eM (aA (kC v) (bA e.1) (cZ (cG v) m m h e.2)))/\∀(e:Nat×PH),I3 e->aY (↑e.1:Int) (aH v.tables) (bJ (λb o=>aI (aW (BU v) b o) (0<=(↑e.1:Int)) ((↑e.1:Int)<aH v.tables) (∃(y:Sl),aK m e.2 b (o+bM e.1 5+4) (aR y)/\∃(I4:Nat×Nat×Sl×PH->Prop)(D:Nat×Nat×Sl×PH->Nat),(∃(d:Nat×Nat×Sl×PH),aA (I4 d) eM (aA (cD e.1 d.1) (kC v) (aA (cD e.1 d.1) (aZ y (AV d)) (aA (bN y (AV d)) (bA d.2.1) (cZ (cG v) m m e.2 d.2.2.2)))))/\∀(d:Nat×Nat×Sl×PH),I4 d->aY (↑d.2.1:Int) (aH (AV d)) (bJ (λE F=>aI (aW (AV d).a E F) (0<=(↑d.2.1:Int)) ((↑d.2.1:Int)<aH (AV d)) (∃(G:PV),aK m d.2.2.2 E (F+bM d.2.1 13) G.enc/\AQ v (↑d.1:Int)
 d.2.2.2 (λs u=>FG (cX s (tO EZ (gP G))) u (λc p H=>cV (iC c p H) 0 (K (iR (iC c p H)) m u) (∃(f:Nat×Nat×Sl×PH),aA (I4 f) (D f<D d) (aA eM (cD d.1 f.1) (aA (kC v) (cD d.1 f.1) (aA (aZ (AV d) (AV f)) (bN (AV d) (AV f)) (aA (gK (bE d.2.1 1)=bO f.2.1) (cG v) (aA (m=m) (u=f.2.2.2) True))))))))))) (∃(f:Nat×PH),aA (I3 f) (C f<C e) (aA eM (kC v) (aA (gK (bE d.1 1)=bO f.1) (cG v) (aA (m=m) (d.2.2.2=f.2) True))))))) (K (iR 0) m e.2))))))))))
theorem lR.out{hx r}(d:Sub m m')(c:PH.le h hx)(e:K r m h):lR h K r m' hx:=⟨m,h,d,.refl _,c,e⟩
theorem xO(h:¬Ey s):eH s=2:=by unfold eH;rw[if_neg h]
theorem PJ(h:Ey s)(h':¬LO s):eH s=70:=by unfold eH;grind
theorem L4(h:Ey s)(h':LO s):eH s=wX ((List.range s.tables.length).flatMap (yK s)):=by unfold eH;grind
theorem Fb{k:Nat}{t}(hx:s.tables[i]? =some t)(c:t.checks[k]? =some p):(yK s i)[k]? =some (iC (jA s i) [] p):=by
 unfold yK;grind
theorem Nw{t}(hx:s.tables[i]? =some t):(yK s i).length=t.checks.length:=by
 unfold yK;rw[hx];simp
theorem R3{k e}(c:l[k]? =some e)(h:∀x∈l.take k,x=0)(f:e=0):∀x∈l.take (k+1),x=0:=by
 intro x d;rw[take_add_one,c,mem_append]at d
 grind
theorem VT{f:Nat->bn}{k}(h:∀j<i,∀x∈f j,x=0)(d:(f i).length<=k)(c:∀x∈(f i).take k,x=0):∀j<i+1,∀x∈f j,x=0:=by
 intro j n x g;by_cases e:j=i
 .subst e;rw[take_of_length_le d]at c;exact c x g
 grind
theorem Mu:bm 73 CX:=by
 refine EN func73 ?_;rintro a0 m h K ⟨v,s,rfl,y,hK⟩;refine⟨cdZ v m h,rfl,aE aiJ (aE aiZ (aE EU (aE Jx aG))),QL v m h (lR h K),ax,?_⟩;show QL v m h (lR h K);dsimp only[QL,push_cast];have W:=y.tables.slen;have X:=y.tables.len;have Y:=y.version;have out:∀(f:PH)(x:Int),PH.le h f->eH s=x->lR h K (.val (.int .i64 x)) m f:=λf x g e=>.out (Sub.refl m) g (by rw[<-e];exact hK);refine aF (λh1=>out h _ (.refl _) (xO λe=>by have:=e.1;omega)) (λh1=>?_);refine⟨λi=>i<=s.tables.length/\gJ (λ_ t=>Rr t) s.tables i,λi=>s.tables.length-i,⟨0,⟨aC,.zero⟩,MT⟩,λi⟨hi,Z⟩=>aF (λn=>?_) (λO=>?_)⟩
 .obtain⟨t,f⟩:=eV W n;obtain⟨b,o,w,P,B,c⟩:=y.tables.at f;have e1:=bL.slen c.columns;have e2:=bL.slen c.refs;have e3:=bL.slen c.checks;have bad:¬Rr t->lR h K (.val (.int .i64 2)) m h:=λQ=>out h _ (.refl _) (xO λe=>Good.not f Q e.2);refine⟨b,o,P,aC,n,w,.imm B,aF (λR=>bad λe=>?_) (λR=>aF (λS=>bad λe=>?_) (λS=>aF (λI=>bad λe=>?_) (λI=>⟨i+1,⟨aC,Z.succ f ⟨aC,aC,aC⟩⟩,bg,MT⟩)))⟩
  .have:=e.1;omega
  .have:=e.2.1;omega
  .have:=e.2.2;omega
 have C:Ey s:=⟨aC,Z.all aC⟩
 have h8:nU s:=λt H=>by
  obtain⟨j,hj⟩:=mem_iff_getElem?.1 H;exact(C.2 j t hj).1
 have bad:¬LO s->lR h K (.val (.int .i64 70)) m h:=λQ=>out h _ (.refl _) (PJ C Q);refine aF (λR=>bad λe=>?_) (λR=>aF (λS=>bad λe=>?_) (λS=>⟨v,s,rfl,y,λr B=>aD (λI=>bad λe=>?_) (λI=>⟨v,s,rfl,y,B.1 bg,λr2 J=>aD (λT=>bad λe=>?_) (λT=>?_)⟩)⟩))
 .have:=e.1;omega
 .have:=e.2.1;omega
 .rw[B.2 e.2.2.1]at I;cases I
 .rw[J.2 e.2.2.2]at T;cases T
 have ok:LO s:=⟨aC,aC,B.1 bg,J.1 bg⟩
 rw[L4 C ok]at out;refine⟨λ⟨i,f⟩=>i<=s.tables.length/\PH.le h f/\∀j<i,∀x∈yK s j,x=0,λ⟨i,_⟩=>s.tables.length-i,⟨(0,h),⟨aC,.refl _,λj hj=>by omega⟩,MT⟩,?_⟩;rintro⟨i,f⟩ ⟨hi,g,hz⟩;dsimp only;refine aF (λn=>?_) (λO=>out f _ g (Ex _ λe he=>?_))
 .obtain⟨t,H⟩:=eV W n;obtain⟨b,o,w,P,B,c⟩:=(y.mono g).tables.at H;have cl:=bL.slen c.checks;have cb:=bL.len c.checks;refine⟨b,o,P,aC,n,w,.imm B,v,s,i,rfl,y.mono g,h8,λsl h' z D=>?_⟩;refine⟨λ⟨i',k,ks,cs,E⟩=>i'=i/\cs=w.checks/\k<=t.checks.length/\PH.le h' E/\Ints E ks (jA s i)/\∀x∈(yK s i).take k,x=0,λ⟨_,k,_,_,_⟩=>t.checks.length-k,⟨(i,0,sl,w.checks,h'),⟨rfl,rfl,aC,.refl _,D,λx f=>by simp at f⟩,MT⟩,?_⟩;rintro⟨i,k,ks,_,E⟩ ⟨rfl,rfl,hk,u,d,F⟩;dsimp only;have L:PH.le h E:=(g.trans z).trans u;refine aF (λA=>?_) (λa'=>⟨(i+1,E),⟨aC,L,VT hz (k:=k) (by rw[Nw H];omega) F⟩,aC,MT⟩);obtain⟨p,U⟩:=eV cl A;obtain⟨b2,o2,pv,V,M,G⟩:=((c.checks.mono z).mono u).at U;refine⟨b2,o2,V,aC,A,pv,.imm M,ks,⟨none,0,0⟩,pv,jA s i,[],p,rfl,d,⟨.nil _ _,ay⟩,G,aD (λh6=>?_) (λh6=>?_)⟩
  .exact out E _ L (N2 aC hz F (Fb H U) bg)
  .exact⟨(i,k+1,ks,w.checks,E),⟨rfl,rfl,bg,u,d,R3 (Fb H U) F bg⟩,bg,MT⟩
 .grind
theorem a3J:bm 61 CX:=by
 refine EN func61 ?_;rintro a0 m h K ⟨v,s,rfl,C,hK⟩;refine⟨cfJ v m h,rfl,aE akQ (aE ajJ (aE Ir (aE Mv aG))),QO v m h (lR h K),ax,?_⟩;show QO v m h (lR h K);dsimp only[QO,push_cast];have Q:=C.tables.slen;have Y:=C.tables.len;have Z:=C.version;have out:∀(c:PH)(x:Int),PH.le h c->eH s=x->lR h K (.val (.int .i64 x)) m c:=λc x n e=>.out (Sub.refl m) n (by rw[<-e];exact hK);refine aF (λh1=>out h _ (.refl _) (xO λe=>by have:=e.1;omega)) (λh1=>?_);refine⟨λi=>i<=s.tables.length/\gJ (λ_ t=>Rr t) s.tables i,λi=>s.tables.length-i,⟨0,⟨aC,.zero⟩,MT⟩,λi⟨M,u⟩=>aF (λf=>?_) (λg=>?_)⟩
 .obtain⟨t,c⟩:=eV Q f;obtain⟨b,o,w,S,A,d⟩:=C.tables.at c;have e1:=bL.slen d.columns;have e2:=bL.slen d.refs;have e3:=bL.slen d.checks;have bad:¬Rr t->lR h K (.val (.int .i64 2)) m h:=λT=>out h _ (.refl _) (xO λe=>Good.not c T e.2);refine⟨b,o,S,aC,f,w,.imm A,aF (λU=>bad λe=>?_) (λU=>aF (λV=>bad λe=>?_) (λV=>aF (λB=>bad λe=>?_) (λB=>⟨i+1,⟨aC,u.succ c ⟨aC,aC,aC⟩⟩,bg,MT⟩)))⟩
  .have:=e.1;omega
  .have:=e.2.1;omega
  .have:=e.2.2;omega
 have F:Ey s:=⟨aC,u.all aC⟩
 have h8:nU s:=λt O=>by
  obtain⟨j,hj⟩:=mem_iff_getElem?.1 O;exact(F.2 j t hj).1
 have bad:¬LO s->lR h K (.val (.int .i64 70)) m h:=λT=>out h _ (.refl _) (PJ F T);refine aF (λU=>bad λe=>?_) (λU=>aF (λV=>bad λe=>?_) (λV=>?_))
 .have:=e.1;omega
 .have:=e.2.1;omega
 clear M u g;refine⟨λi=>i<=s.tables.length/\gJ E5 s.tables i,λi=>s.tables.length-i,⟨0,⟨aC,.zero⟩,MT⟩,λi⟨M,u⟩=>aF (λf=>?_) (λg=>?_)⟩
 .obtain⟨t,c⟩:=eV Q f;refine⟨v,s,t,i,rfl,C,c,λr A=>aD (λB=>bad λe=>?_) (λB=>⟨i+1,⟨aC,u.succ c (A.1 bg)⟩,bg,MT⟩)⟩;rw[A.2 (e.2.2.1 i t c)]at B;cases B
 have D:=u.all aC;clear M u g;refine⟨λi=>i<=s.tables.length/\gJ (GG s.tables) s.tables i,λi=>s.tables.length-i,⟨0,⟨aC,.zero⟩,MT⟩,λi⟨M,u⟩=>aF (λf=>?_) (λg=>?_)⟩
 .obtain⟨t,c⟩:=eV Q f;refine⟨v,s,t,i,rfl,C,D,c,λr A=>aD (λB=>bad λe=>?_) (λB=>⟨i+1,⟨aC,u.succ c (A.1 bg)⟩,bg,MT⟩)⟩;rw[A.2 (e.2.2.2 i t c)]at B;cases B
 have G:=u.all aC;clear M u g;have ok:LO s:=⟨aC,aC,D,G⟩
 rw[L4 F ok]at out;refine⟨λ⟨i,c⟩=>i<=s.tables.length/\PH.le h c/\∀j<i,∀x∈yK s j,x=0,λ⟨i,_⟩=>s.tables.length-i,⟨(0,h),⟨aC,.refl _,λj hj=>by omega⟩,MT⟩,?_⟩;rintro⟨i,c⟩ ⟨M,n,hz⟩;dsimp only;refine aF (λf=>?_) (λg=>out c _ n (Ex _ λe he=>?_))
 .obtain⟨t,O⟩:=eV Q f;obtain⟨b,o,w,S,A,d⟩:=(C.mono n).tables.at O;have cl:=bL.slen d.checks;have cb:=bL.len d.checks;refine⟨b,o,S,aC,f,w.checks,.imm (cO.part A 4 1),?_⟩;refine⟨λ⟨i',k,cs,R⟩=>i'=i/\cs=w.checks/\k<=t.checks.length/\PH.le c R/\∀x∈(yK s i).take k,x=0,λ⟨_,k,_,_⟩=>t.checks.length-k,⟨(i,0,w.checks,c),⟨rfl,rfl,aC,.refl _,λx c=>by simp at c⟩,MT⟩,?_⟩;rintro⟨i,k,_,R⟩ ⟨rfl,rfl,hk,y,H⟩;dsimp only;have I:PH.le h R:=n.trans y;refine aF (λE=>?_) (λa'=>⟨(i+1,R),⟨aC,I,VT hz (k:=k) (by rw[Nw O];omega) H⟩,aC,MT⟩);obtain⟨p,W⟩:=eV cl E;obtain⟨b2,o2,pv,X,P,J⟩:=(d.checks.mono y).at W;refine⟨b2,o2,X,aC,E,pv,.imm P,v,s,i,rfl,C.mono I,h8,λsl h' z L=>⟨sl,⟨none,0,0⟩,pv,jA s i,[],p,rfl,L,⟨.nil _ _,ay⟩,J.mono z,aD (λh6=>?_) (λh6=>?_)⟩⟩
  .exact out h' _ (I.trans z) (N2 aC hz H (Fb O W) bg)
  .exact⟨(i,k+1,w.checks,h'),⟨rfl,rfl,bg,y.trans z,R3 (Fb O W) H bg⟩,bg,MT⟩
 .grind
mutual
def uS:Query->Int->Int
 |.mk _ _ _ _ _ _ _ _ args,n=>pX args (n+1)
def pX:ce->Int->Int
 |[],n=>n
 |p::ps,n=>if n<=24 then pX ps (uS p n)else n
end
mutual
def rI:Query->Nat->Bool
 |.mk _ _ _ _ _ _ _ _ _,0=>true
 |.mk _ _ _ _ _ _ _ _ args,n+1=>Aa args n
def Aa:ce->Nat->Bool
 |[],_=>false
 |p::ps,n=>rI p n||Aa ps n
end
mutual
theorem Ka:∀(p:Query)(n:Int),n<=24->n<uS p n/\uS p n<=25
 |.mk _ _ _ _ _ _ _ _ args,n,h=>by
  have:=IU args (n+1) aC;simp only[uS];omega
theorem IU:∀(ps:ce)(n:Int),n<=25->n<=pX ps n/\pX ps n<=25
 |[],n,h=>by simp only[pX];omega
 |p::ps,n,h=>by
  simp only[pX];split
  .rename_i c;have d:=Ka p n c;have e:=IU ps (uS p n) d.2;omega
  .omega
end
theorem UO ps{n}(h:¬n<=24):pX ps n=n:=by
 cases ps
 .simp[pX]
 .simp only[pX,if_neg h]
theorem Ly(n:Nat):∀ps:ce,Aa ps n=ps.any (rI · n)
 |[]=>by simp[Aa]
 |p::ps=>by simp[Aa,Ly n ps]
theorem dG.args{p}(r:dG h p v):D5 h v.args p.args:=by
 cases p;exact r.parts.args_
def nI q:=decide (uS q 0<=24)&& !rI q 8
def arity(op:Int):=
 if op==1 then 0 else if op==2||op==3||op==9 then 1 else if op==4||op==5||op==6||op==7||op==8||op==10 then 2 else-1
def VF(N:Nat):Vc.Spec:=λc m h K=>∃v p k,c=[aQ v,cI k,cI 24]/\dG h p v/\SizeOf.sizeOf p<N/\0<=k/\k<=24/\K (cI (uS p k)) m h
def RG(N:Nat):Vc.Spec:=λc m h K=>∃v p,∃k:Nat,c=[aQ v,cI k]/\dG h p v/\SizeOf.sizeOf p<N/\k<=100/\K (cB (rI p k)) m h
def aHQ:Vc.Spec:=λc m h K=>∃v p,c=[aQ v]/\dG h p v/\K (cB (nI p)) m h
def RL:Vc.Spec:=λc m h K=>∃op,c=[cI op]/\K (cI (arity op)) m h
def CQ(l:bn)(n:Int):=decide (0<=n)&&decide (n<l.length)
def InS:Vc.Spec:=λc m h K=>∃s l n,c=[cS s,cI n]/\Ints h s l/\K (cB (CQ l n)) m h
noncomputable def bLZ(N:Nat)(v:QV)(m:MH)(h:PH):=
 dE [(124,VF N)] [(3,{A:=Nat×Int,st:=λx=>bU 31 34 [(1,iv x.2),(2,iv 24),(3,.at (.ptr 3 0)),(7,iv x.1)] [(3,.cells 41 (v.enc.map .val))] m h})] [] [] false
noncomputable def bLX(N:Nat)(v:QV)(k:Nat)(m:MH)(h:PH):=
 dE [(125,RG N)] [(4,{A:=Nat,st:=λi=>bU 23 25 [(1,iv k),(2,.at (.ptr 2 0)),(10,iv v.args.len),(11,iv i)] [(2,.cells 41 (v.enc.map .val))] m h})] [] [] false
abbrev eJ(a:QV):=eQ (pZ 41 a.enc)
attribute [push_cast] eJ
def TQ(N:Nat)(v:QV)(k:Int)(m:MH)(h:PH)(K:bo):=
  ∃(I:Nat×Int->Prop)(e:Nat×Int->Nat),(∃(x:Nat×Int),aA (I x) (dH (fG (k+1)) x.2) (aA (iI 24) jR (aA (bA x.1) (eJ v) (aA (m=m) (h=h) True))))/\∀(x:Nat×Int),I x->aY (↑x.1:Int) (aH v.args) (branch (decide (x.2<=24)) (bJ (λb o=>aI (aW v.args.a b o) (0<=(↑x.1:Int)) ((↑x.1:Int)<aH v.args) (∃(y:QV),aK m h b (o+bM x.1 21) y.enc/\oW (λf p=>∃(c:Int),aA (cC y.enc (eZ (iR x.2) 24)=cC f.enc (eZ (iR c) 24)) (dG h p f) (aA (xQ p N) (cH c) (c<=24/\∃(d:Nat×Int),aA (I d) (e d<e x) (aA (dH (uS p c) d.2) (iI 24) (aA jR (gK (bE x.1 1)=bO d.1) (aA (eJ v) (m=m) (bT h h)))))))))) (K (iR x.2) m h)) (K (iR x.2) m h)
abbrev vV(a:QV):=bI a.args
attribute [push_cast] vV
def TP(N:Nat)(v:QV)(k:Nat)(m:MH)(h:PH)(K:bo):=
  eU (↑k:Int) 0 (K iM m h) (pN (λI x=>aA (I x) (eQ (bO k)) (aA iU (vV v) (aA (bA x) (eJ v) (aA (m=m) (h=h) True)))) (λI e x=>I x->aY (↑x:Int) (aH v.args) (bJ (λb o=>aI (aW v.args.a b o) (0<=(↑x:Int)) ((↑x:Int)<aH v.args) (∃(y:QV),aK m h b (o+bM x 21) y.enc/\oW (λf p=>∃(c:Nat),aA (eZ (cA y) (fG ((↑k:Int)-1))=eZ (cA f) (↑c:Int)) (dG h p f) (aA (xQ p N) (c<=100) (branch (rI p c) (K iM m h) (∃(d:Nat),aA (I d) (e d<e x) (aA (eQ (bO k)) iU (aA (bI v.args) (gK (bE x 1)=bO d) (aA (eJ v) (m=m) (bT h h))))))))))) (K bH m h)))
def Xr(N:Nat)(v:QV)(m:MH)(h:PH)(K:bo):=
  oW (λe p=>∃(k:Int),aA (cC v.enc (eZ (iR 0) 24)=cC e.enc (eZ (iR k) 24)) (dG h p e) (aA (xQ p N) (cH k) (hX (k<=24) (decide (uS p k<=24)) (oW (λf c=>∃(d:Nat),aA (eZ (cA v) 8=eZ (cA f) (↑d:Int)) (dG h c f) (aA (xQ c N) (d<=100) (K (CV.val (Value.bool (!(rI c d)))) m h)))) (K bH m h))))
def TO(op:Int)(m:MH)(h:PH)(K:bo):=
  dR (op==1) (K (iR 0) m h) (op==2) (K (iR 1) m h) (dR (op==3) (K (iR 1) m h) (op==9) (K (iR 1) m h) (dR (op==4) (K (iR 2) m h) (op==5) (K (iR 2) m h) (dR (op==6) (K (iR 2) m h) (op==7) (K (iR 2) m h) (dR (op==8) (K (iR 2) m h) (op==10) (K (iR 2) m h) (K (iR (Int.negSucc 0)) m h)))))
def Tm(s:Sl)(n:Int)(m:MH)(h:PH)(K:bo):=
  iA n 0 (K (Af (decide (n<aH s))) m h) (K bH m h)
theorem Ya:∀N,bm 124 (VF N)
 |0=>by
  refine fK (fn:=Tryz.f124) (c:=dX Tryz.f124) func124 rfl az ?_;rintro y m h K ⟨v,p,k,rfl,D,F,_⟩;omega
 |N+1=>by
  refine iQ func124 ?_;rintro y m h K ⟨v,p,k,rfl,D,F,J,L,E⟩;refine⟨bLZ N v m h,rfl,aE (Ya N) aG,TQ N v k m h K,ax,?_⟩;dsimp only[TQ,push_cast];have d:=D.args;have e:=d.slen;have M:=d.len;refine⟨λx=>x.1<=p.args.length/\0<=x.2/\x.2<=25/\pX (p.args.drop x.1) x.2=uS p k,λx=>p.args.length-x.1,⟨(0,k+1),⟨ay,bf,bf,?_⟩,?_⟩,?_⟩
  .cases p;simp[uS,Query.args]
  .rw[fB aC aC];exact MT
  rintro⟨i,n⟩ ⟨G,f,z,g⟩;dsimp only at G f z g⊢
  refine aF (λj=>aF (λt=>?_) (λt=>Bu E ?_)) (λH=>Bu E ?_)
  .obtain⟨q,A⟩:=eV e j;obtain⟨b,o,u,I,B,C⟩:=d.at A;have O:=Ka q n t;rw[drop_cons A,pX,if_pos t]at g;refine⟨b,o,I,aC,j,u,.imm B,u,q,n,rfl,C,?_,f,t,(i+1,uS q n),⟨aC,aC,aC,g⟩,aC,MT⟩;have:=C3 (mem_of_getElem? A);omega
  .rw[<-g,UO _ t]
  .rw[<-g,drop_of_length_le aC];simp[pX]
theorem X9:∀N,bm 125 (RG N)
 |0=>by
  refine fK (fn:=Tryz.f125) (c:=dX Tryz.f125) func125 rfl az ?_;rintro j m h K ⟨v,p,k,rfl,A,D,_⟩;omega
 |N+1=>by
  refine iQ func125 ?_;rintro j m h K ⟨v,p,k,rfl,A,D,I,g⟩;refine⟨bLX N v k m h,rfl,aE (X9 N) aG,TP N v k m h K,ax,?_⟩;dsimp only[TP,push_cast];have d:=A.args;have e:=d.slen;have J:=d.len;refine aD (λB=>kG g ?_) (λB=>?_)
  .have:k=0:=bg
   subst this;cases p;simp[rI]
  .have B:k≠0:=bg
   have n:rI p k=p.args.any (rI · (k-1)):=by
    obtain⟨C,rfl⟩:∃C,k=C+1:=⟨k-1,aC⟩
    cases p;simp[rI,Ly,Query.args]
   rw[n]at g;refine⟨λi=>i<=p.args.length/\(p.args.take i).any (rI · (k-1))=false,λi=>p.args.length-i,⟨0,⟨aC,ay⟩,MT⟩,λi E=>aF (λf=>?_) (λF=>kG g ?_)⟩
   .obtain⟨q,t⟩:=eV e f;obtain⟨b,o,u,G,y,z⟩:=d.at t;refine⟨b,o,G,aC,f,u,.imm y,u,q,k-1,?_,z,?_,aC,aD (λH=>kG g ?_) (λH=>?_)⟩
    .rw[fB aC aC,show((k-1:Nat):Int)=(k:Int)-1 by omega]
    .have:=C3 (mem_of_getElem? t);omega
    .grind
    .refine⟨i+1,⟨aC,?_⟩,bg,MT⟩;rw[take_add_one,any_append,E.2,t];grind
   grind
theorem a3Z:bm 63 aHQ:=by
 refine iQ func63 ?_;rintro f m h K ⟨v,p,rfl,d,e⟩;refine⟨dE [(124,VF (SizeOf.sizeOf p+1)),(125,RG (SizeOf.sizeOf p+1))] [] [] [] false,rfl,aE (Ya _) (aE (X9 _) aG),Xr (SizeOf.sizeOf p+1) v m h K,ax,?_⟩;dsimp only[Xr,push_cast];refine⟨v,p,0,rfl,d,aC,aC,aC,aD (λc=>⟨v,p,8,rfl,d,aC,aC,kG e ?_⟩) (λc=>kG e ?_)⟩
 .simp only[nI,c,Bool.true_and]
 .simp only[nI,c,Bool.false_and]
theorem Rc:bm 126 RL:=by
 refine iQ func126 ?_;rintro d m h K ⟨op,rfl,c⟩;refine⟨dE [] [] [] [] false,rfl,aG,TO op m h K,ax,?_⟩;dsimp only[TO,push_cast]
 repeat' (first|(refine aD (λ_=>?_) (λ_=>?_))|(refine Bu c ?_;simp only[arity];simp only[*,Bool.or_false,Bool.false_or,Bool.or_true,Bool.true_or,Bool.and_true,Bool.true_and,Bool.and_false,Bool.false_and,Bool.not_true,Bool.not_false,Bool.false_eq_true,if_true,if_false, ↓reduceIte];done)|(refine Bu c ?_;simp only[arity];grind))
theorem Ju:bm 175 InS:=by
 refine iQ func175 ?_;rintro e m h K ⟨s,l,n,rfl,f,d⟩;refine⟨dE [] [] [] [] false,rfl,aG,Tm s n m h K,ax,?_⟩;dsimp only[Tm,push_cast];have g:=f.slen;refine aF (λc=>kG d ?_) (λc=>kG d ?_)
 .have c:0<=n:=c;simp only[CQ,g,decide_eq_true c,Bool.true_and]
 .have c:¬0<=n:=by omega
  simp only[CQ,decide_eq_false c,Bool.false_and]
def nH(a b:bn)(c:bu)(p:Int×Int):=CQ a p.1=true/\CQ b p.2=true/\a.getD p.1.toNat 0=b.getD p.2.toNat 0/\∀q∈c,q.1≠p.1/\q.2≠p.2
def Gv(a d:bn)(c:Int):=CQ a c=true/\c∉d
def JG(a:bn)(_:bz)(o:Int×Bool):=CQ a o.1=true
structure nA(a:bn)(group:bn)(order:bz)(limit:Int):Prop where
 group_:Good (Gv a) group
 order_:Good (JG a) order
 len_:order.length<=12
 low:0<=limit
 high:limit<=100
def aJX:Vc.Spec:=λc m h K=>∃s t u on a b,c=[cS s,cS t,cS u]/\jC h s on/\Ints h t a/\Ints h u b/\∀r:Bool,(r=true↔Good (nH a b) on)->K (cB r) m h
def aIJ:Vc.Spec:=λc m h K=>∃v t g o a,c=[aQ v,cS t]/\Ints h v.group g/\jB h v.order o/\Ints h t a/\∀r:Bool,(r=true↔nA a g o v.limit)->K (cB r) m h
noncomputable def bFQ s t u m h:=
 dE [(175,InS)] [(2,{A:=Nat,st:=λi=>bU 66 69 [(0,sv s),(1,sv t),(2,sv u),(10,sv s),(11,iv s.len),(12,iv i)] [] m h}),
  (7,{A:=Nat×Nat×(Int×Int),st:=λ⟨i,k,p⟩=>bU 66 69 [(0,sv s),(1,sv t),(2,sv u),(7,iv i),(8,.at (.ptr 8 0)),(9,iv k),(10,sv s),(11,iv s.len),(12,iv i)] [(8,.cells 130 [.val (.int .i64 p.1),.val (.int .i64 p.2)])] m h})] [] [] false
noncomputable def bEJ(v:QV)(t:Sl)(m:MH)(h:PH):=
 dE [(175,InS)] [(2,{A:=Nat,st:=λi=>bU 62 64 [(1,sv t),(2,.at (.ptr 2 0)),(11,sv v.group),(12,iv v.group.len),(13,iv i)] [(2,.cells 41 (v.enc.map .val))] m h}),
  (7,{A:=Nat×Nat×Int,st:=λ⟨i,k,c⟩=>bU 62 64 [(1,sv t),(2,.at (.ptr 2 0)),(5,iv i),(6,iv c),(7,iv k),(11,sv v.group),(12,iv v.group.len),(13,iv i)] [(2,.cells 41 (v.enc.map .val))] m h}),
  (13,{A:=Nat,st:=λi=>bU 62 64 [(1,sv t),(2,.at (.ptr 2 0)),(36,sv v.order),(37,iv v.order.len),(38,iv i)] [(2,.cells 41 (v.enc.map .val))] m h})] [] [] false
abbrev iZ a b:=eZ (mQ a) b
abbrev HP(a:Sl)(b:Int)(c:Nat->Nat->Option Value)(d:bn->Int->Prop):=rT (λx e=>∃(f:Int),aA (iZ a b=iZ x f) (Ints c x e) (d e f))
abbrev iH:=eP 8
abbrev FN a b:=oQ 130 a=oQ 130 b
abbrev xD(a:Int×Int):=oJ (j9 a.1) (j9 a.2)
attribute [push_cast] iZ HP iH FN xD
def Tl(s t u:Sl)(m:MH)(h:PH)(K:bo):=
  pN (λI x=>aA (I x) (aJ s) (aA (aJ t) (aJ u) (aA (aJ s) (bI s) (aA (bA x) (m=m) (bT h h))))) (λI e x=>I x->aY (↑x:Int) (aH s) (bJ (λb o=>aI (aW s.a b o) (0<=(↑x:Int)) ((↑x:Int)<aH s) (∃(y:Int×Int),aI (aK m h b (o+bM x 2) (vO y)) ((0:Int)<=0) ((0:Int)<2) (HP t y.1 h (λl n=>nX (CQ l n) (K bH m h) (aA (cH 1) ((1:Int)<2) (HP u y.2 h (λL M=>nX (CQ L M) (K bH m h) (aA (cH 0) ((0:Int)<2) (bJ (λf g=>aI (aW t.a f g) (0<=y.1) (y.1<aH t) (∃(j:Int),aI (aK m h f (g+gY y.1 1) (bB j)) ((0:Int)<=1) ((1:Int)<2) (bJ (λz A=>aI (aW u.a z A) (0<=y.2) (y.2<aH u) (∃(B:Int),aK m h z (A+gY y.2 1) (bB B)/\cV j B (K bH m h) (∃(I1:Nat×
 Nat×Int×Int->Prop)(C:Nat×Nat×Int×Int->Nat),(∃(c:Nat×Nat×Int×Int),aA (I1 c) (aJ s) (aA (aJ t) (aJ u) (aA (cD x c.1) iH (aA (bA c.2.1) (aJ s) (aA (bI s) (cD x c.1) (aA (FN (xD y) (xD c.2.2)) (m=m) (bT h h)))))))/\∀(c:Nat×Nat×Int×Int),I1 c->aY (↑c.2.1:Int) (↑c.1:Int) (bJ (λD E=>aA (aW s.a D E) (cH (↑c.2.1:Int)) (aA ((↑c.2.1:Int)<aH s) (cH 0) ((0:Int)<2/\∃(F:Int),aI (aK m h D (E+bM c.2.1 2+0) (bB F)) ((0:Int)<=0) ((0:Int)<2) (eU F c.2.2.1 (K bH m h) (bJ (λG H=>aA (aW s.a G H) (cH (↑c.2.1:Int)) (aA ((↑c.2.1:Int)<aH s) (cH 1) ((1:Int)<2/\∃(J:Int),aI (aK m h G (H+bM c.2.1 2+1) (bB J)) ((0:Int)<=1) ((1:Int)<2) (eU
 J c.2.2.2 (K bH m h) (∃(d:Nat×Nat×Int×Int),aA (I1 d) (C d<C c) (aA (aJ s) (aJ t) (aA (aJ u) (cD c.1 d.1) (aA iH (gK (bE c.2.1 1)=bO d.2.1) (aA (aJ s) (bI s) (aA (cD c.1 d.1) (FN (xD c.2.2) (xD d.2.2)) (dY m m h h))))))))))))))))) (∃(d:Nat),aA (I d) (e d<e x) (aA (aJ s) (aJ t) (aA (aJ u) (aJ s) (aA (bI s) (gK (bE c.1 1)=bO d) (dY m m h h))))))))))))))))))))) (K iM m h))
def Tk(v:QV)(t:Sl)(m:MH)(h:PH)(K:bo):=
  pN (λI x=>aA (I x) (aJ t) (aA (eP 2) (aJ v.group) (aA (bI v.group) (bA x) (aA (eJ v) (m=m) (bT h h))))) (λI f x=>I x->aY (↑x:Int) (aH v.group) (bJ (λb o=>aI (aW v.group.a b o) (0<=(↑x:Int)) ((↑x:Int)<aH v.group) (∃(y:Int),aK m h b (o+bM x 1) (bB y)/\HP t y h (λl n=>nX (CQ l n) (K bH m h) (∃(I1:Nat×Nat×Int->Prop)(e:Nat×Nat×Int->Nat),(∃(c:Nat×Nat×Int),aA (I1 c) (aJ t) (aA (eP 2) (cD x c.1) (aA (dH y c.2.2) (bA c.2.1) (aA (aJ v.group) (bI v.group) (aA (cD x c.1) (eJ v) (aA (m=m) (h=h) True))))))/\∀(c:Nat×Nat×Int),I1 c->aY (↑c.2.1:Int) (↑c.1:Int) (bJ (λg j=>aI (aW v.group.a g j) (0<=(↑c.2.1:Int)) ((↑c.2.1:Int)<aH v.group) (∃(u:Int),aK m h g
 (j+bM c.2.1 1) (bB u)/\eU u c.2.2 (K bH m h) (∃(d:Nat×Nat×Int),aA (I1 d) (e d<e c) (aA (aJ t) iU (aA (cD c.1 d.1) (dH c.2.2 d.2.2) (aA (gK (bE c.2.1 1)=bO d.2.1) (aJ v.group) (aA (bI v.group) (cD c.1 d.1) (aA (eJ v) (m=m) (bT h h)))))))))) (∃(d:Nat),aA (I d) (f d<f x) (aA (aJ t) iU (aA (aJ v.group) (bI v.group) (aA (gK (bE c.1 1)=bO d) (eJ v) (dY m m h h)))))))))) (pN (λI1 c=>aA (I1 c) (aJ t) (aA (eP 2) (aJ v.order) (aA (bI v.order) (bA c) (aA (eJ v) (m=m) (bT h h))))) (λI1 e c=>I1 c->aY (↑c:Int) (aH v.order) (bJ (λb o=>aI (aW v.order.a b o) (0<=(↑c:Int)) ((↑c:Int)<aH v.order) (∃(y:Int×Bool),aK m h b (o+bM c 2) (A4 y)/\HP t
 y.1 h (λl n=>nX (CQ l n) (K bH m h) (∃(d:Nat),aA (I1 d) (e d<e c) (aA (aJ t) iU (aA (aJ v.order) (bI v.order) (aA (gK (bE c 1)=bO d) (eJ v) (dY m m h h))))))))) (branch (decide (aH v.order<=12)) (iA v.limit 0 (K (Af (decide (v.limit<=100))) m h) (K bH m h)) (K bH m h)))))
theorem Ql{α}{l:List α}{k x}(hx:l[i]? =some x)(c:i<k):x∈l.take k:=mem_of_getElem? (i:=i) bg
theorem V4{α}{l:List α}{x y}(hx:l[i]? =some x)(c:y∈l.take (i+1)):y∈l.take i\/y=x:=by
 rw[take_add_one,hx,mem_append]at c
 grind
theorem eY{n}:CQ l n=true↔0<=n/\n<l.length:=by simp[CQ]
theorem abJ:bm 176 aJX:=by
 refine iQ func176 ?_;rintro S m h K ⟨s,t,u,on,a,b,rfl,n,o,y,F⟩;refine⟨bFQ s t u m h,rfl,aE Ju aG,Tl s t u m h K,ax,?_⟩;dsimp only[Tl,push_cast];have T:=n.slen;have G:=n.len;have ta:=o.slen;have ub:=y.slen;refine⟨λi=>i<=on.length/\gJ (nH a b) on i,λi=>on.length-i,⟨0,⟨aC,.zero⟩,MT⟩,λi⟨hi,H⟩=>aF (λf=>?_) (λU=>F true ⟨λ_=>H.all aC,λ_=>rfl⟩)⟩;obtain⟨p,z⟩:=eV T f;obtain⟨V,W,X,Y⟩:=n.at z;have bad:¬nH a b (on.take i) p->K (.val (.bool false)) m h:=λZ=>F false ⟨λe=>(by cases e),λe=>(Good.not z Z e).elim⟩;refine⟨V,W,X,aC,f,p,.imm Y,aC,aC,t,a,p.1,rfl,o,aD (λA=>bad λc=>?_) (λA=>⟨aC,aC,u,b,p.2,rfl,y,aD (λB=>bad λc=>?_) (λB=>?_)⟩)⟩
 .rw[c.1]at A;cases A
 .rw[c.2.1]at B;cases B
 have I:CQ a p.1=true:=bg
 have J:CQ b p.2=true:=bg
 have g:=eY.1 I;have j:=eY.1 J;obtain⟨b2,o2,e2,r2⟩:=o.inb g.1 g.2;obtain⟨b3,o3,e3,r3⟩:=y.inb j.1 j.2;refine⟨aC,aC,b2,o2,e2,aC,aC,_,.imm r2,aC,aC,b3,o3,e3,aC,aC,_,.imm r3,aD (λC=>bad λc=>?_) (λC=>?_)⟩
 .rw[c.2.2.1]at C;simp at C
 refine⟨λ⟨i',k,p'⟩=>i'=i/\p'=p/\k<=i/\∀q∈on.take k,q.1≠p.1/\q.2≠p.2,λ⟨_,k,_⟩=>i-k,⟨(i,0,p),⟨rfl,rfl,aC,λq d=>by simp at d⟩,MT⟩,?_⟩;rintro⟨i,k,p⟩ ⟨rfl,rfl,hk,D⟩;dsimp only;refine aF (λL=>?_) (λM=>?_)
 .obtain⟨q,d⟩:∃q,on[k]? =some q:=⟨on[k]'(by omega),getElem?_eq_getElem _⟩
  obtain⟨O,P,Q,R⟩:=n.at d;refine⟨O,P,Q,aC,aC,aC,aC,q.1,.imm (cO.part R 0 1),aC,aC,aD (λh4=>bad λc=>?_) (λh4=>⟨O,P,Q,aC,aC,aC,aC,q.2,.imm (cO.part R 1 1),aC,aC,aD (λh5=>bad λc=>?_) (λh5=>?_)⟩)⟩
  .exact(c.2.2.2 q (Ql d aC)).1 bg
  .exact(c.2.2.2 q (Ql d aC)).2 bg
  .refine⟨(i,k+1,p),⟨rfl,rfl,bg,λq' E=>?_⟩,bg,MT⟩;rcases V4 d E with e|rfl
   .grind
   grind
 .have:k=i:=by omega
  subst this;exact⟨k+1,⟨aC,H.succ z ⟨I,J,bg,D⟩⟩,aC,MT⟩
theorem abZ:bm 177 aIJ:=by
 refine iQ func177 ?_;rintro V m h K ⟨v,t,g,o,a,rfl,C,D,L,M⟩;refine⟨bEJ v t m h,rfl,aE Ju aG,Tk v t m h K,ax,?_⟩;dsimp only[Tk,push_cast];have W:=C.slen;have O:=C.len;have X:=D.slen;have P:=D.len;have bad:¬nA a g o v.limit->K (.val (.bool false)) m h:=λY=>M false ⟨λe=>(by cases e),λe=>(Y e).elim⟩;refine⟨λi=>i<=g.length/\gJ (Gv a) g i,λi=>g.length-i,⟨0,⟨aC,.zero⟩,MT⟩,λi⟨Q,u⟩=>aF (λd=>?_) (λy=>?_)⟩
 .obtain⟨c,n⟩:=eV W d;obtain⟨E,F,G,H⟩:=C.at' n;refine⟨E,F,G,aC,d,c,.imm H,t,a,c,rfl,L,aD (λf=>bad λj=>Good.not n (λz=>?_) j.group_) (λf=>?_)⟩
  .rw[z.1]at f;cases f
  refine⟨λ⟨Z,k,c'⟩=>Z=i/\c'=c/\k<=i/\c∉g.take k,λ⟨_,k,_⟩=>i-k,⟨(i,0,c),⟨rfl,rfl,aC,ay⟩,MT⟩,?_⟩;rintro⟨i,k,c⟩ ⟨rfl,rfl,hk,A⟩;dsimp only;refine aF (λR=>?_) (λS=>?_)
  .obtain⟨q,I⟩:∃q,g[k]? =some q:=⟨g[k]'(by omega),getElem?_eq_getElem _⟩
   obtain⟨b4,o4,e4,r4⟩:=C.at' I;refine⟨b4,o4,e4,aC,aC,q,.imm r4,aD (λT=>bad λj=>Good.not n (λz=>?_) j.group_) (λT=>?_)⟩
   .refine z.2 ?_;have:q=c:=bg
    rw[<-this];exact Ql I aC
   .refine⟨(i,k+1,c),⟨rfl,rfl,bg,λJ=>?_⟩,bg,MT⟩;rcases V4 I J with e|rfl
    .exact A e
    .simp at T
  .have:k=i:=by omega
   subst this;exact⟨k+1,⟨aC,u.succ n ⟨bg,A⟩⟩,aC,MT⟩
 have gg:=u.all aC;clear Q u y;refine⟨λi=>i<=o.length/\gJ (JG a) o i,λi=>o.length-i,⟨0,⟨aC,.zero⟩,MT⟩,λi⟨Q,B⟩=>aF (λd=>?_) (λy=>?_)⟩
 .obtain⟨c,n⟩:=eV X d;obtain⟨E,F,G,H⟩:=D.at n;refine⟨E,F,G,aC,d,c,.imm H,t,a,c.1,rfl,L,aD (λf=>bad λj=>Good.not n (λz=>?_) j.order_) (λf=>⟨i+1,⟨aC,B.succ n (by simpa[JG]using f)⟩,bg,MT⟩)⟩;rw[show CQ a c.1=true from z]at f;cases f
 have oo:=B.all aC;refine aF (λf=>aF (λU=>?_) (λU=>bad λj=>?_)) (λf=>bad λj=>?_)
 .refine M (decide (v.limit<=100)) ⟨λe=>⟨gg,oo,aC,U,bk e⟩,λe=>decide_eq_true e.high⟩
 .have:=j.low;omega
 .have:=j.len_;omega
def fO:Pred:=.mk 0 0 fS fS []
def cR:Query->Prop
 |.mk op ta w co on gr od li _=>(op=1\/ta=0)/\(op=2\/w=fO)/\(op=3\/co=[])/\(op=4\/op=5\/on=[])/\(op=9\/op=10\/(gr=[]/\od=[]/\li=0))
def mX(l:bn):bn×Int:=if l.length<=12 then(l,0)else([],2)
def eC(e:Int):bn×Int:=([],e)
open Classical in
noncomputable def eK(s:jQ)(ps:bn)(q:Query)(a b:bn):bn×Int:=
 if arity (match q with|.mk op .. =>op)<0\/¬cR q then eC 100 else
 match q with
 |.mk op ta w co on gr od li _=>
  if op=1 then(if 0<=ta/\ta<s.tables.length then mX (jA s ta)else eC 100)
  else if op=2 then(if iC a ps w=0 then mX a else eC (iC a ps w))
  else if op=3 then(if co≠[]/\Good (λ_ c=>CQ a c=true) co then mX (co.map λc=>a.getD c.toNat 0)else eC 100)
  else if op=4 then(if Good (nH a b) on then mX (a++b)else eC 100)
  else if op=5 then(if Good (nH a b) on then mX a else eC 100)
  else if op=9 then(if nA a gr od li then mX a else eC 100)
  else if op=10 then(if a=b/\nA a gr od li then mX a else eC 100)
  else(if a=b then mX a else eC 100)
def aGZ:Vc.Spec:=λc m h K=>∃v q,c=[aQ v]/\dG h q v/\∀r:Bool,(r=true↔cR q)->K (cB r) m h
def KR(K:bo)(m:MH)(h:PH)(r:bn×Int):=∀c h',PH.le h h'->Ints h' c r.1->K (.tup [cS c,cI r.2]) m h'
def cyZ:=λc m h K=>∃sc p v a b s ps q d e,c=[aS sc,cS p,aQ v,cS a,cS b]/\iF h s sc/\nU s/\Ints h p ps/\dG h q v/\Ints h a d/\Ints h b e/\d.length<=12/\e.length<=12/\KR K m h (eK s ps q d e)
noncomputable def bLQ m:=
 dE [(126,RL),(174,aGZ),(45,u7),(66,u6),(175,InS),(176,aJX),(177,aIJ),(178,Dj)] [(20,{A:=Nat×Sl×Sl×bn×PH,st:=λ⟨i,a,co,l,h⟩=>bU 121 126 [(3,sv a),(12,.at (.lst 94)),(78,sv co),(79,iv co.len),(80,iv i)] [(94,.lst 3 1 (l.map eI))] m h})] [] [] false
noncomputable def bFX(v:QV)(m:MH)(h:PH):=
 cWJ [(224,ctJ)] [] [(2,{A:=Bool,st:=λr=>bU 78 79 [(1,.at (.ptr 1 0)),(3,bv r)] [(1,.cells 41 (v.enc.map .val))] m h})] [(2,[(9,{A:=Bool×Bool,st:=λx=>bU 78 79 [(1,.at (.ptr 1 0)),(3,bv x.1),(20,bv x.2)] [(1,.cells 41 (v.enc.map .val))] m h}),
  (11,{A:=Bool×Bool,st:=λx=>bU 78 79 [(1,.at (.ptr 1 0)),(3,bv x.1),(31,bv x.2)] [(1,.cells 41 (v.enc.map .val))] m h}),
  (11,{A:=Bool×Bool,st:=λx=>bU 78 79 [(1,.at (.ptr 1 0)),(3,bv x.1),(42,bv x.2)] [(1,.cells 41 (v.enc.map .val))] m h}),
  (16,{A:=Bool×Bool,st:=λx=>bU 78 79 [(1,.at (.ptr 1 0)),(3,bv x.1),(58,bv x.2)] [(1,.cells 41 (v.enc.map .val))] m h})])] [] false
abbrev kN a b:=sQb a=sQb b
abbrev yR a:=kN true a
abbrev KE(a:Prop)(b:(Bool×Bool->Prop)->Prop)(c:(Bool×Bool->Prop)->(Bool×Bool)->Prop):=a->∃(x:Bool×Bool->Prop),b x/\∀(d:Bool×Bool),c x d
abbrev fW:=oN oM
abbrev HO(a:Bool×Bool->Prop)(b:Bool×Bool)(c:(Bool×Bool)->Prop)(d:QV)(e:MH)(g:PH):=∃(x:Bool×Bool),aA (a x) eM (aA (kN b.1 x.1) (c x) (cZ (eJ d) e e g g))
abbrev El a:=kN false a
attribute [push_cast] kN yR KE fW HO El
def Tn(v:QV)(m:MH)(h:PH)(K:bo):=
  ∃(I:Bool->Prop),eU v.op 9 (∃(x:Bool),aA (I x) eM (aA (yR x) (eJ v) (dY m m h h))) (∃(x:Bool),aA (I x) eM (aA (kN (v.op==10) x) (eJ v) (dY m m h h)))/\∀(x:Bool),KE (I x) (λI1=>eU v.op 1 (∃(e:Bool×Bool),aA (I1 e) eM (aA (kN x e.1) (yR e.2) (cZ (eJ v) m m h h))) (∃(e:Bool×Bool),aA (I1 e) eM (aA (kN x e.1) (kN (v.table==0) e.2) (cZ (eJ v) m m h h)))) (λI1 e=>KE (I1 e) (λI2=>branch e.2 (eU v.op 2 (∃(d:Bool×Bool),aA (I2 d) eM (aA (kN e.1 d.1) (yR d.2) (cZ (eJ v) m m h h))) (KD (λg w p q=>aI (eF v.where_.enc (kQ (bF cL cL (bF cL cL (bF cL cL (bF vQz cL (bF cL cL (bF cL vQz fW)))))))=eF g.enc (gP w)) (fH h p g)
 (fH h q w) (∀(r:Bool),(iE r↔p=q)->HO I2 e (λd=>kN r d.2) v m h)))) (∃(d:Bool×Bool),aA (I2 d) eM (aA (kN e.1 d.1) (El d.2) (cZ (eJ v) m m h h)))) (λI2 d=>KE (I2 d) (λI3=>branch d.2 (eU v.op 3 (∃(c:Bool×Bool),aA (I3 c) eM (aA (kN d.1 c.1) (yR c.2) (cZ (eJ v) m m h h))) (HO I3 d (λc=>kN (aH v.columns==0) c.2) v m h)) (∃(c:Bool×Bool),aA (I3 c) eM (aA (kN d.1 c.1) (El c.2) (cZ (eJ v) m m h h)))) (λI3 c=>KE (I3 c) (λI4=>branch c.2 (dR (v.op==4) (HO I4 c (λf=>yR f.2) v m h) (v.op==5) (HO I4 c (λf=>yR f.2) v m h) (HO I4 c (λf=>kN (aH v.on==0) f.2) v m h)) (∃(f:Bool×Bool),aA (I4 f) eM (aA (kN c.1 f.1) (El f.2)
 (cZ (eJ v) m m h h)))) (λI4 f=>gX (I4 f) f.2 (dR f.1 (K iM m h) (aH v.group==0) (eU (aH v.order) 0 (K (Af (v.limit==0)) m h) (K bH m h)) (K bH m h)) (K bH m h)))))
abbrev AP(a:Int)(b:Int->Prop):=∃(x:Int),rR a x/\b x
abbrev bW(a:bo)(b:Int)(c:Nat->Option Obj)(d:Nat->Nat->Option Value):=a (CV.tup (eZ EZ b)) c d
abbrev dN(a:Sl):=Sl.mk a.a a.len a.cap
abbrev lI(a:bo)(b:Sl)(c:Int)(d:Nat->Option Obj)(e:PH):=a (CV.tup (eZ (mQ b) c)) d e
abbrev sQ(a:List bt):=(↑a.length:Int)
abbrev tY a b c d:=bY a 1 b (λx e=>lI c x 0 d e)
abbrev AW(a:Nat×Sl×Sl×bn×PH):=a.2.2.1
abbrev AX(a:Nat×Sl×Sl×bn×PH):=a.2.2.2.2
abbrev HY(a:Nat×Sl×Sl×bn×PH):=gW a.2.2.2.1
abbrev G6(a:Sl->bu->Prop):=∃(x:Sl)(c:bu),a x c
abbrev sL(a b:List bt)(c:Nat):=i7 (jW a b.length) c
abbrev sM(a b:List bt):=nT (jW a b.length)
abbrev Qe(a:Sl->bn->bz->Prop):=rT (λx c=>∃(d:bz),a x c d)
abbrev lG a b:=tO (cA a) (mQ b)
attribute [push_cast] AP bW dN lI sQ tY AW AX HY G6 sL sM Qe lG
def M1 sc p v a b m h K:=
  AP v.op (λo=>aY (arity o) 0 (bW K 100 m h) (oW (λC q=>aA (eO (cA v) (cA C)) (dG h q C) (∀(r:Bool),gX (iE r↔cR q) (!r) (bW K 100 m h) (∃(y:List bt),aA (fN 1 y) (dC h (dN a) 1 y) (aA (i7 y.length 8) (nT y.length) (dR (v.op==1) (aY v.table 0 (bW K 100 m h) (iA v.table (kM sc) (bW K 100 m h) (AQ sc v.table h (λs D=>fR (aH s) 12 (bW K 2 m D) (lI K s 0 m D))))) (v.op==2) (FG (cX a (fZ p (gP v.where_))) h (λc E F=>pP (iC c E F !=0) (bW K (iC c E F) m h) (sQ y) 12 (bW K 2 m h) (tY h y K m))) (dR (v.op==3) (eU (aH v.columns) 0 (bW K 100 m h) (∃(I:Nat×Sl×Sl×bn×PH->Prop)(G:Nat×Sl×Sl×bn×PH->Nat),(∃(x:Nat×Sl×Sl×bn×
 PH),aA (I x) (aZ a x.2.1) (aA (eL 94) (aZ v.columns (AW x)) (aA (bN v.columns (AW x)) (bA x.1) (aA (sS x.2.2.2.1) (m=m) (bT h (AX x))))))/\∀(x:Nat×Sl×Sl×bn×PH),I x->aY (↑x.1:Int) (aH (AW x)) (bJ (λj e=>aI (aW (AW x).a j e) (0<=(↑x.1:Int)) ((↑x.1:Int)<aH (AW x)) (∃(d:Int),aK m (AX x) j (e+bM x.1 1) (bB d)/\HP x.2.1 d (AX x) (λl n=>nX (CQ l n) (bW K 100 m (AX x)) (bJ (λH J=>aI (aW x.2.1.a H J) (0<=d) (d<aH x.2.1) (∃(L:Int),aI (aK m (AX x) H (J+gY d 1) (bB L)) (AL (HY x)) (dO (HY x)) (∃(B:Nat×Sl×Sl×bn×PH),aA (I B) (G B<G x) (aA (aZ x.2.1 B.2.1) (eL 94) (aA (aZ (AW x) (AW B)) (bN (AW x)
 (AW B)) (aA (gK (bE x.1 1)=bO B.1) (lK (dL (HY x) (bB L)) B.2.2.2.1) (dY m m (AX x) (AX B))))))))))))) (fR (sQ (HY x)) 12 (bW K 2 m (AX x)) (tY (AX x) (HY x) K m)))) (v.op==4) (qP (λs t=>G6 (λu e=>Jr (λz j=>aA (cX v.on (cJ a b)=cX s (cJ t u)) (jC h s e) (aA (Ints h t z) (Ints h u j) (∀(f:Bool),(iE f↔Good (nH z j) e)->dR (!f) (bW K 100 m h) (v.op==4) (∃(d:List bt),aA (fN 1 d) (dC h (dN b) 1 d) (aA (sL y d 8) (sM y d) (fR (sQ (y++d)) 12 (bW K 2 m h) (tY h (y++d) K m)))) (fR (sQ y) 12 (bW K 2 m h) (tY h y K m)))))))) (dR (v.op==5) (qP (λs t=>G6 (λu e=>Jr (λz j=>aA (cX v.on (cJ a b)=cX
 s (cJ t u)) (jC h s e) (aA (Ints h t z) (Ints h u j) (∀(f:Bool),(iE f↔Good (nH z j) e)->dR (!f) (bW K 100 m h) (v.op==4) (∃(d:List bt),aA (fN 1 d) (dC h (dN b) 1 d) (aA (sL y d 8) (sM y d) (fR (sQ (y++d)) 12 (bW K 2 m h) (tY h (y++d) K m)))) (fR (sQ y) 12 (bW K 2 m h) (tY h y K m)))))))) (v.op==9) (∃(A:QV),Qe (λt g e=>∃(z:bn),aA (lG v a=lG A t) (Ints h A.group g) (aA (jB h A.order e) (Ints h t z) (∀(f:Bool),(iE f↔nA z g e A.limit)->pP (!f) (bW K 100 m h) (sQ y) 12 (bW K 2 m h) (tY h y K m))))) (AO a b h (λz j f=>(iE f↔z=j)->dR (!f) (bW K 100 m h) (v.op==10) (∃(A:QV),Qe (λt g e=>∃(M:bn),aA (lG v a=lG A t)
 (Ints h A.group g) (aA (jB h A.order e) (Ints h t M) (∀(O:Bool),(iE O↔nA M g e A.limit)->pP (!O) (bW K 100 m h) (sQ y) 12 (bW K 2 m h) (tY h y K m))))) (fR (sQ y) 12 (bW K 2 m h) (tY h y K m)))))))))))))
theorem EL{α n}{l:List α}(h:n=l.length):((n:Int)==0)=true↔l=[]:=by
 rw[beq_iff_eq,h, <-length_eq_zero_iff];omega
theorem Fe h:fH h fO ⟨0,0,fS,fS,⟨none,0,0⟩⟩:=fH.mk (v:=⟨0,0,fS,fS,⟨none,0,0⟩⟩) (.nil _ _ _ _)
theorem acQ:bm 174 aGZ:=by
 refine iQ func174 ?_;rintro o m h K ⟨v,q,rfl,t,g⟩;refine⟨bFX v m h,rfl,aE ZC aG,Tn v m h K,ax,?_⟩;dsimp only[Tn,push_cast];obtain⟨op,ta,w,co,on,gr,od,li,args⟩:=q;have a:=t.parts;have u:=a.op_;have y:=a.table_;have z:=a.limit_;have D:=EL a.columns_.slen;have E:=EL a.on_.slen;have F:=EL a.group_.slen;have G:=EL a.order_.slen;simp only[cR]at g;subst u y z;refine⟨λr=>(r=true↔v.op=9\/v.op=10),aD (λd=>⟨true,bg,MT⟩) (λd=>⟨_,?_,MT⟩),λr j=>?_⟩
 .grind
 refine⟨λx=>x.1=r/\(x.2=true↔(v.op=1\/v.table=0)),aD (λd=>⟨(r,true),⟨rfl,bg⟩,MT⟩) (λd=>⟨(r,_),⟨rfl,?_⟩,MT⟩),?_⟩
 .grind
 rintro⟨r,c⟩ ⟨rfl,e⟩;dsimp only at e j⊢
 refine⟨λx=>x.1=r/\(x.2=true↔(v.op=1\/v.table=0)/\(v.op=2\/w=fO)),aD (λd=>aD (λf=>⟨(r,true),⟨rfl,⟨λ_=>⟨e.1 d,.inl bg⟩,λ_=>rfl⟩⟩,MT⟩) (λf=>⟨v.where_,⟨0,0,fS,fS,⟨none,0,0⟩⟩,w,fO,rfl,a.where_,Fe h,λA B=>⟨(r,A),⟨rfl,?_⟩,MT⟩⟩)) (λd=>⟨(r,false),⟨rfl,?_⟩,MT⟩),?_⟩
 .grind
 .grind
 clear e c;rintro⟨r,c⟩ ⟨rfl,e⟩;dsimp only at e j⊢
 refine⟨λx=>x.1=r/\(x.2=true↔(v.op=1\/v.table=0)/\(v.op=2\/w=fO)/\(v.op=3\/co=[])),aD (λd=>aD (λf=>⟨(r,true),⟨rfl,⟨λ_=>⟨(e.1 d).1,(e.1 d).2,.inl bg⟩,λ_=>rfl⟩⟩,MT⟩) (λf=>⟨(r,_),⟨rfl,?_⟩,MT⟩)) (λd=>⟨(r,false),⟨rfl,?_⟩,MT⟩),?_⟩
 .grind
 .grind
 clear e c;rintro⟨r,c⟩ ⟨rfl,e⟩;dsimp only at e j⊢
 refine⟨λx=>x.1=r/\(x.2=true↔(v.op=1\/v.table=0)/\(v.op=2\/w=fO)/\(v.op=3\/co=[])/\(v.op=4\/v.op=5\/on=[])),aD (λd=>aD (λf=>⟨(r,true),⟨rfl,⟨λ_=>⟨(e.1 d).1,(e.1 d).2.1,(e.1 d).2.2,.inl bg⟩,λ_=>rfl⟩⟩,MT⟩) (λf=>aD (λn=>⟨(r,true),⟨rfl,⟨λ_=>⟨(e.1 d).1,(e.1 d).2.1,(e.1 d).2.2,.inr (.inl bg)⟩,λ_=>rfl⟩⟩,MT⟩) (λn=>⟨(r,_),⟨rfl,?_⟩,MT⟩))) (λd=>⟨(r,false),⟨rfl,?_⟩,MT⟩),?_⟩
 .grind
 .grind
 clear e c;rintro⟨r,c⟩ ⟨rfl,e⟩;dsimp only at e j⊢
 refine aD (λd=>aD (λf=>g true ⟨λ_=>?_,λ_=>rfl⟩) (λf=>aD (λn=>aD (λC=>g _ ?_) (λC=>g false ?_)) (λn=>g false ?_))) (λd=>g false ?_)
 .grind
 .grind
 .grind
 .grind
 .grind
theorem Bs(l:bn):fN 1 (l.map eI):=by
 constructor
 .intro e c;obtain⟨x,_,rfl⟩:=mem_map.1 c;rfl
 .intro e c u d;obtain⟨x,_,rfl⟩:=mem_map.1 c;simp[eI]at d;subst d;rfl
theorem KR.err{r e}(d:KR K m h r)(c:PH.le h h')(f:r=eC e):K (.tup [.val (.slice none 0 0),.val (.int .i64 e)]) m h':=by
 subst f;exact d ⟨none,0,0⟩ h' c ⟨.nil _ _,by simp[eC]⟩
theorem KR.big{r}(d:KR K m h r)(c:PH.le h h')(e:r=mX l)(f:12<l.length):K (.tup [.val (.slice none 0 0),.val (.int .i64 2)]) m h':=
 d.err c (by rw[e,mX,if_neg aC];rfl)
theorem KR.ok{r sl}(d:KR K m h r)(c:PH.le h h')(e:r=mX l)(f:l.length<=12)(g:dC h' sl 1 (l.map eI)):K (.tup [.val (.slice sl.a sl.len sl.cap),.val (.int .i64 0)]) m h':=by
 rw[e,mX,if_pos f]at d;exact d sl h' c ⟨g,bg⟩
theorem cqZ{p a:Sl}{b q n C}(W:iF h s sc)(h8:nU s)(hp:Ints h p ps)(X:dG h q v)(B:Ints h a n)(L:Ints h b C)(Y:n.length<=12)(Z:C.length<=12)(d:KR K m h (eK s ps q n C)):M1 sc p v a b m h K:=by
 dsimp only[M1,push_cast];have O:=X;obtain⟨op,ta,w,co,on,gr,od,li,args⟩:=q;have x:=X.parts;have e0:=x.op_;have e1:=x.table_;have e2:=x.limit_;have a0:=W.tables.slen;have a1:=B.slen;have H:=x.columns_.slen;have P:=x.columns_.len;subst e0 e1 e2;refine⟨v.op,rfl,aF (λQ=>d.err (.refl _) ?_) (λQ=>⟨v,_,rfl,O,λr z=>aD (λh2=>d.err (.refl _) ?_) (λh2=>?_)⟩)⟩
 .unfold eK;rw[if_pos (.inl Q)]
 .unfold eK;rw[if_pos (.inr λe=>bg)]
 have hu:cR (.mk v.op v.table w co on gr od v.limit args):=z.1 bg;unfold eK at d;rw[if_neg (λe=>e.elim Q (λe=>e hu))]at d;dsimp only at d;clear z h2;refine⟨n.map eI,Bs _,B.row,bf,bf,aD (λo=>?_) (λo=>aD (λy=>?_) (λy=>aD (λA=>?_) (λA=>aD (λD=>?_) (λD=>aD (λE=>?_) (λE=>aD (λI=>?_) (λI=>?_))))))⟩
 .rw[beq_iff_eq]at o;rw[if_pos o]at d;refine aF (λu=>d.err (.refl _) (if_neg aC)) (λu=>aF (λt=>d.err (.refl _) (if_neg aC)) (λt=>⟨sc,s,v.table,rfl,W,h8,λF h' f j=>?_⟩));rw[if_pos aC]at d;have:=j.slen;exact aF (λg=>d.big f rfl aC) (λg=>d.ok f rfl aC j.row)
 .rw[beq_eq_false_iff_ne]at o;rw[beq_iff_eq]at y;rw[if_neg o,if_pos y]at d;refine⟨a,p,v.where_,n,ps,w,rfl,B,hp,x.where_,aD (λu=>d.err (.refl _) (if_neg bg)) (λu=>?_)⟩;rw[if_pos bg]at d;exact aF (λg=>d.big (.refl _) rfl bg) (λg F h' f j=>d.ok f rfl aC j)
 .rw[beq_eq_false_iff_ne]at o y;rw[beq_iff_eq]at A;rw[if_neg o,if_neg y,if_pos A]at d;refine aD (λu=>d.err (.refl _) (if_neg λe=>e.1 ((EL H).1 u))) (λu=>?_);have R:co≠[]:=λe=>bg
  refine⟨λ⟨i,a',S,l,hx⟩=>a'=a/\S=v.columns/\hx=h/\i<=co.length/\l=(co.take i).map (λc=>n.getD c.toNat 0)/\gJ (λ_ c=>CQ n c=true) co i,λ⟨i,_,_,_,_⟩=>co.length-i,⟨(0,a,v.columns,[],h),⟨rfl,rfl,rfl,aC,ay,.zero⟩,MT⟩,?_⟩;rintro⟨i,a,_,l,h⟩ ⟨rfl,rfl,rfl,j,rfl,hg⟩;dsimp only;refine aF (λJ=>?_) (λa2=>?_)
  .obtain⟨c,M⟩:=eV H J;obtain⟨b1,o1,T,r1⟩:=x.columns_.at' M;refine⟨b1,o1,T,aC,J,c,.imm r1,a,n,c,rfl,B,aD (λt=>d.err (.refl _) (if_neg λe=>?_)) (λt=>?_)⟩
   .have:=e.2 i c M;grind
   have t:CQ n c=true:=bg
   have g:=eY.1 t;obtain⟨b2,o2,U,r2⟩:=B.inb g.1 g.2;refine⟨b2,o2,U,aC,aC,_,.imm r2,?_,?_,(i+1,a,v.columns,(co.take (i+1)).map (λc=>n.getD c.toNat 0),h),⟨rfl,rfl,rfl,aC,rfl,hg.succ M t⟩,aC,?_⟩
   .simp;omega
   .simp;omega
   .rw[jV M,map_append];exact MT
  .rw[if_pos ⟨R,hg.all aC⟩]at d;rw[take_of_length_le aC];exact aF (λg=>d.big (.refl _) rfl bg) (λg F h' f j=>d.ok f rfl bg j)
 .rw[beq_eq_false_iff_ne]at o y A;have G:=beq_iff_eq.1 D;rw[if_neg o,if_neg y,if_neg A,if_pos G]at d;refine⟨v.on,a,b,on,n,C,rfl,x.on_,B,L,λr z=>aD (λu=>d.err (.refl _) (if_neg λe=>?_)) (λu=>aD (λ_=>⟨C.map eI,Bs _,L.row,bf,bf,?_⟩) (λt=>?_))⟩
  .grind
  .rw[if_pos (z.1 bg)]at d;rw[<-map_append];exact aF (λg=>d.big (.refl _) rfl bg) (λg F h' f j=>d.ok f rfl bg j)
  grind
 .rw[beq_eq_false_iff_ne]at o y A;have G:=beq_eq_false_iff_ne.1 D;rw[beq_iff_eq]at E;rw[if_neg o,if_neg y,if_neg A,if_neg G,if_pos E]at d;refine⟨v.on,a,b,on,n,C,rfl,x.on_,B,L,λr z=>aD (λu=>d.err (.refl _) (if_neg λe=>?_)) (λu=>aD (λt=>?_) (λt=>?_))⟩
  .grind
  .grind
  .rw[if_pos (z.1 bg)]at d;exact aF (λg=>d.big (.refl _) rfl bg) (λg F h' f j=>d.ok f rfl aC j)
 .rw[beq_eq_false_iff_ne]at o y A D E;rw[beq_iff_eq]at I;rw[if_neg o,if_neg y,if_neg A,if_neg D,if_neg E,if_pos I]at d;refine⟨v,a,gr,od,n,rfl,x.group_,x.order_,B,λr z=>aD (λu=>d.err (.refl _) (if_neg λe=>?_)) (λu=>?_)⟩
  .grind
  rw[if_pos (z.1 bg)]at d;exact aF (λg=>d.big (.refl _) rfl bg) (λg F h' f j=>d.ok f rfl aC j)
 .rw[beq_eq_false_iff_ne]at o y A D E I;rw[if_neg o,if_neg y,if_neg A,if_neg D,if_neg E,if_neg I]at d;refine⟨a,b,n,C,rfl,B,L,λr z=>aD (λu=>d.err (.refl _) ?_) (λu=>aD (λt=>⟨v,a,gr,od,n,rfl,x.group_,x.order_,B,λr2 V=>aD (λd4=>d.err (.refl _) ?_) (λd4=>?_)⟩) (λt=>?_))⟩
  .grind
  .grind
  .rw[beq_iff_eq]at t;rw[if_pos t,if_pos ⟨z.1 bg,V.1 bg⟩]at d;exact aF (λg=>d.big (.refl _) rfl bg) (λg F h' f j=>d.ok f rfl aC j)
  .rw[beq_eq_false_iff_ne]at t;rw[if_neg t,if_pos (z.1 bg)]at d;exact aF (λg=>d.big (.refl _) rfl bg) (λg F h' f j=>d.ok f rfl aC j)
theorem ajZ:bm 127 cyZ:=by
 refine iQ func127 ?_;rintro c m h K ⟨sc,p,v,a,b,s,ps,q,y,z,rfl,d,e,f,g,j,n,o,t,u⟩;refine⟨bLQ m,rfl,aE Rc (aE acQ (aE Ir (aE Mv (aE Ju (aE abJ (aE abZ (aE abX aG))))))),M1 sc p v a b m h K,ax,?_⟩;exact cqZ d e f g j n o t u
mutual
noncomputable def aL(s:jQ)(ps:bn):Query->bn×Int
 |.mk op ta w co on gr od li args=>
  match fL s ps args with
  |(ks,e)=>if e=0 then(if(ks.length:Int)=arity op then eK s ps (.mk op ta w co on gr od li args) (ks.getD 0 []) (ks.getD 1 [])else eC 100)else eC e
noncomputable def fL(s:jQ)(ps:bn):ce->List bn×Int
 |[]=>([],0)
 |q::qs=>
  match aL s ps q with
  |(k,e)=>if e=0 then(match fL s ps qs with|(ks,c)=>if c=0 then(k::ks,0)else([],c))else([],e)
end
theorem uX{s:jQ}{ps:bn}:∀{c:ce}{ks:List bn},c.map (aL s ps)=ks.map (λk=>(k,0))->fL s ps c=(ks,0)
 |[],[],_=>by simp[fL]
 |q::c,k::ks,h=>by
  simp only[map_cons,List.cons.injEq]at h;simp only[fL,h.1,uX h.2,if_true]
 |[],_::_,h=>by simp at h
 |_::_,[],h=>by simp at h
theorem Hb{s:jQ}{ps:bn}{e:Int}(d:e≠0):∀{c:ce}{ks:List bn}{i:Nat}{q:Query},(c.take i).map (aL s ps)=ks.map (λk=>(k,0))->c[i]? =some q->(aL s ps q).2=e->fL s ps c=([],e)
 |[],_,_,_,_,h,_=>by simp at h
 |q::c,_,0,g,_,h,f=>by
  simp at h;subst h;simp only[fL,f,if_neg d]
 |q::c,[],i+1,_,h,_,_=>by simp at h
 |q::c,k::ks,i+1,g,h,j,f=>by
  simp only[take_succ_cons,map_cons,List.cons.injEq]at h;have:=Hb d h.2 bg f;simp only[fL,h.1,this,if_true,if_neg d]
theorem btZ l:(mX l).1.length<=12:=by unfold mX;grind
theorem aTQ s ps q a b:(eK s ps q a b).1.length<=12:=by
 obtain⟨op,ta,w,co,on,gr,od,li,args⟩:=q;unfold eK;dsimp only
 repeat' split
 all_goals first|exact btZ _|(simp[eC];done)
theorem lM s ps q:(aL s ps q).1.length<=12:=by
 obtain⟨op,ta,w,co,on,gr,od,li,args⟩:=q;simp only[aL]
 repeat' split
 all_goals first|exact aTQ .. |simp[eC]
noncomputable def fI s ps q:=
 if eH s=0 then(if ps.all gM=true then(if nI q=true then aL s ps q else eC 2)else eC 1)else eC (eH s)
def Slices(h:PH)(c:bx)(ks:List bn):=c.length=ks.length/\∀(j:Nat) s k,c[j]? =some s->ks[j]? =some k->Ints h s k
theorem Slices.mono{c}(x:Slices h c ks)(le:PH.le h h'):Slices h' c ks:=⟨x.1,λj s k d e=>(x.2 j s k d e).mono le⟩
theorem Slices.snoc{c s k}(x:Slices h c ks)(o:Ints h s k):Slices h (c++[s]) (ks++[k]):=by
 refine⟨by simp[x.1],λj g n d e=>?_⟩;by_cases f:j<c.length
 .rw[getElem?_append_left f]at d;rw[getElem?_append_left (by rw[<-x.1];exact f)]at e;exact x.2 j g n d e
 .rw[getElem?_append_right aC]at d;rw[getElem?_append_right (by have:=x.1;omega), <-x.1]at e
  grind
def Gu N:=λc m h K=>∃sc p v s ps q,c=[aS sc,cS p,aQ v]/\iF h s sc/\nU s/\Ints h p ps/\dG h q v/\SizeOf.sizeOf q<N/\KR K m h (aL s ps q)
def Od:=λc m h K=>∃sc p v s ps q,c=[aS sc,cS p,aQ v]/\iF h s sc/\Ints h p ps/\dG h q v/\KR K m h (fI s ps q)
noncomputable def cfX(N:Nat)(sc:bZ)(p:Sl)(v:QV)(m:MH):=
 dE [(64,Gu N),(126,RL),(127,cyZ)] [(3,{A:=Nat×bx×PH,st:=λ⟨i,c,h⟩=>bU 58 61 [(1,sv p),(3,.at (.ptr 3 0)),(5,.at (.ptr 5 0)),(8,.at (.lst 35)),(14,iv v.args.len),(15,iv i)] [(3,.cells 27 (sc.enc.map .val)),(5,.cells 41 (v.enc.map .val)),(35,.lst 36 1 (c.map eS))] m h})] [] [] false
abbrev OU(a:(Nat×bx×PH->Prop)->(Nat×bx×PH)->Prop)(b:(Nat×bx×PH->Prop)->(Nat×bx×PH->Nat)->(Nat×bx×PH)->Prop):=∃(x:Nat×bx×PH->Prop)(d:Nat×bx×PH->Nat),(∃(c:Nat×bx×PH),a x c)/\∀(c:Nat×bx×PH),b x d c
abbrev mV a b:=bR a 1 (List.map eS b)
abbrev Ii a b:=bR a 1 []=mV a b
abbrev oU(a:Nat×bx×PH):=a.2.2
abbrev Fp(a:bZ->Sl->Prop):=∃(x:bZ)(c:Sl),a x c
abbrev Es(a:jQ->bn->Prop):=∃(x:jQ)(c:bn),a x c
abbrev Ko(a:bZ)(b:Sl)(c:QV)(d:PH)(e:Nat)(g:jQ->bn->Query->Sl->PH->Prop):=Fp (λx t=>∃(u:QV),Es (λf n=>∃(j:Query),aA (cC (cK a) (fZ b (cA c))=cC (cK x) (fZ t (cA u))) (iF d f x) (aA (nU f) (Ints d t n) (aA (dG d j u) (xQ j e) (∀(y:Sl)(o:PH),bQ d o (Ints o y (aL f n j).1) (g f n j y o))))))
abbrev kB a:=i7 (jW a 1) 24
abbrev gH a:=List.map eS a
abbrev wH(a:Nat×bx×PH):=gH a.2.1
abbrev lY a b:=a::lT b
abbrev KF a:=wH a++lY fW fW
abbrev mI(a:List bt)(b:Nat)(c:bt):=a[b]? =Option.some c
abbrev Cy(a:Prop)(b c:Int)(d:List bt)(e:bt->Prop):=aI a (b<=c) (c<sQ d) (∃(x:bt),e x)
abbrev tW(a:Nat)(b c:bt):=List.take a (List.drop 0 b)=c
attribute [push_cast] OU mV Ii oU Fp Es Ko kB gH wH lY KF mI Cy tW
def Xq N sc p v m h K:=
  OU (λI x=>aA (I x) (aJ p) (aA (eP 3) eN (aA (eL 35) (vV v) (aA (bA x.1) (cG sc) (aA (eJ v) (Ii 36 x.2.1) (aA (m=m) (h=oU x) True)))))) (λI t x=>I x->aY (↑x.1:Int) (aH v.args) (bJ (λb o=>aI (aW v.args.a b o) (0<=(↑x.1:Int)) ((↑x.1:Int)<aH v.args) (∃(y:QV),aK m (oU x) b (o+bM x.1 21) y.enc/\Ko sc p y (oU x) N (λs f q c d=>cV (aL s f q).2 0 (K (CV.tup (tO EZ (CV.val (fV (aL s f q).2)))) m d) (aA (kB (wH x)) (dO (wH x)) (∃(g:Nat×bx×PH),aA (I g) (t g<t x) (aA (aJ p) jR (aA eN (eL 35) (aA (vV v) (gK (bE x.1 1)=bO g.1) (aA (cG sc) (eJ v) (aA (bR 36 1 (dL (wH x) (aR c))=mV 36 g.2.1) (m=m) (bT d (oU g))))))))))))) (AP v.op
 (λo=>cV (sQ (wH x)) (arity o) (bW K 100 m (oU x)) (aA (i7 (jW (wH x) 2) 24) (nT (jW (wH x) 2)) (aA (cH 0) (0<sQ (KF x)) (∃(e:bt),mI (KF x) 0 e/\∃(y:Sl),Cy (tW 1 e (aR y)) 0 1 (KF x) (λu=>mI (KF x) 1 u/\∃(z:Sl),tW 1 u (aR z)/\Fp (λs f=>∃(A:QV),qP (λa b=>Es (λc n=>∃(q:Query),Jr (λl j=>aA (cC (cK sc) (cX p (cC v.enc (cJ y z)))=cC (cK s) (cX f (cC A.enc (cJ a b)))) (iF (oU x) c s) (aA (nU c) (Ints (oU x) f n) (aA (dG (oU x) q A) (Ints (oU x) a l) (aA (Ints (oU x) b j) (l.length<=12) (j.length<=12/\∀(B:Sl)(d:PH),bQ (oU x) d (Ints d B (eK c n q l j).1) (K (CV.tup (fZ B (CV.val (fV
 (eK c n q l j).2)))) m d))))))))))))))))
abbrev Kx(a:bZ)(b:PH)(c:jQ->Prop):=qO (λx d=>aA (eO (kQ (cK a)) (kQ (cK x))) (iF b d x) (c d))
attribute [push_cast] Kx
def XL N sc p v m h K:=
  Kx sc h (λs=>cV (eH s) 0 (bW K (eH s) m h) (xC p h (λl=>nX (En l) (bW K 1 m h) (oW (λc d=>aA (eO (cA v) (cA c)) (dG h d c) (nX (nI d) (bW K 2 m h) (Ko sc p v h N (λe f q g j=>K (CV.tup (fZ g (CV.val (fV (aL e f q).2)))) m j))))))))
theorem Mn{c:ce}(h:c.map (aL s ps)=ks.map (λk=>(k,0))) j:(ks.getD j []).length<=12:=by
 rw[getD_eq_getElem?_getD];cases e:ks[j]? with
 |none=>simp
 |some k=>
  have d:(c.map (aL s ps))[j]? =some (k,0):=bg
  rw[getElem?_map,Option.map_eq_some_iff]at d;obtain⟨q,_,f⟩:=d;have:=lM s ps q
  grind
theorem Slices.pick{c}(x:Slices h c ks) j(f:j<c.length+2):∃y:Sl,(c.map eS++[[.slice none 0 0],[.slice none 0 0]])[j]? =some [.slice y.a y.len y.cap]/\Ints h y (ks.getD j []):=by
 by_cases d:j<c.length
 .refine⟨c[j],?_,?_⟩
  .rw[getElem?_append_left bg];simp[d,eS]
  .have e:j<ks.length:=by rw[<-x.1];exact d
   rw[getD_eq_getElem?_getD,getElem?_eq_getElem e];exact x.2 j _ _ (getElem?_eq_getElem d) (getElem?_eq_getElem e)
 .refine⟨⟨none,0,0⟩,?_,?_⟩
  .grind
  .rw[getD_eq_getElem?_getD,getElem?_eq_none (by have:=x.1;omega)];exact⟨.nil _ _,ay⟩
theorem aCJ:∀N,bm 64 (Gu N)
 |0=>by
  refine fK (fn:=Tryz.f64) (c:=dX Tryz.f64) func64 rfl az ?_;rintro C m h K ⟨sc,p,v,s,ps,q,rfl,_,_,_,_,Y,_⟩;omega
 |N+1=>by
  refine iQ func64 ?_;rintro C m h K ⟨sc,p,v,s,ps,q,rfl,Q,R,S,T,Y,n⟩;refine⟨cfX N sc p v m,rfl,aE (aCJ N) (aE Rc (aE ajZ aG)),Xq N sc p v m h K,ax,?_⟩;dsimp only[Xq,push_cast];have D:=@C3 q;have E:=T;obtain⟨op,ta,w,co,on,gr,od,li,args⟩:=q;have x:=T.parts;have e0:=x.op_;have Z:=x.args_.slen;have U:=x.args_.len;simp only[Query.args]at D;simp only[aL]at n;refine⟨λ⟨i,z,F⟩=>i<=args.length/\PH.le h F/\∃ks,Slices F z ks/\(args.take i).map (aL s ps)=ks.map (λk=>(k,0)),λ⟨i,_,_⟩=>args.length-i,⟨(0,[],h),⟨aC,.refl _,[],⟨rfl,λj s k y=>by simp at y⟩,ay⟩,MT⟩,?_⟩;rintro⟨i,z,F⟩ ⟨V,d,ks,A,g⟩;have G:ks.length=i:=by have:=congrArg List.length g;grind
  have a':z.length=i:=by rw[A.1,G]
  dsimp only;refine aF (λo=>?_) (λa0=>?_)
  .obtain⟨B,t⟩:=eV Z o;obtain⟨b1,o1,u,H,r1,I⟩:=(x.args_.mono d).at t;refine⟨b1,o1,H,aC,o,u,.imm r1,sc,p,u,s,ps,B,rfl,Q.mono d,R,S.mono d,I,?_,λJ h' f L=>aD (λy=>?_) (λy=>?_)⟩
   .grind
   .have M:(aL s ps B).2≠0:=bg
    rw[Hb M g t rfl]at n;exact n.err (d.trans f) (if_neg M)
   .have M:(aL s ps B).2=0:=bg
    refine⟨bf,bf,(i+1,z++[J],h'),⟨aC,d.trans f,ks++[(aL s ps B).1],(A.mono f).snoc L,?_⟩,aC,?_⟩
    .rw[jV t,g,map_append]
     grind
    .rw[map_append];exact MT
  .rw[take_of_length_le aC]at g;rw[uX g]at n;simp only[if_true]at n;refine⟨v.op,rfl,aD (λy=>n.err d (if_neg λe=>?_)) (λy=>?_)⟩
   .grind
   have y:(z.length:Int)=arity op:=bg
   rw[if_pos aC]at n;obtain⟨W,O,i0⟩:=A.pick 0 aC;obtain⟨X,P,i1⟩:=A.pick 1 aC;exact⟨bf,bf,aC,bf,_,O,W,rfl,aC,bf,_,P,X,rfl,sc,p,v,W,X,s,ps,_,_,_,rfl,Q.mono d,R,S.mono d,E.mono d,i0,i1,Mn g 0,Mn g 1,λJ h' f V=>n J h' (d.trans f) V⟩
theorem aPZ(h:eH s=0):nU s:=by
 have c:Ey s:=Classical.byContradiction λd=>by rw[xO d]at h;cases h
 intro t e;obtain⟨j,f⟩:=mem_iff_getElem?.1 e;exact(c.2 j t f).1
theorem a7Q:bm 26 Od:=by
 refine iQ func26 ?_;rintro n m h K ⟨sc,p,v,s,ps,q,rfl,f,g,j,c⟩;refine⟨dE [(61,CX),(62,RC),(63,aHQ),(64,Gu (SizeOf.sizeOf q+1))] [] [] [] false,rfl,aE a3J (aE SK (aE a3Z (aE (aCJ _) aG))),XL (SizeOf.sizeOf q+1) sc p v m h K,ax,?_⟩;dsimp only[XL,push_cast];unfold fI at c;refine⟨sc,s,rfl,f,aD (λd=>c.err (.refl _) (if_neg bg)) (λd=>?_)⟩;have d:eH s=0:=bg
 rw[if_pos d]at c;refine⟨p,ps,rfl,g,aD (λo=>c.err (.refl _) (if_neg λe=>bg)) (λo=>?_)⟩;rw[if_pos bg]at c;refine⟨v,q,rfl,j,aD (λt=>c.err (.refl _) (if_neg λe=>bg)) (λt=>?_)⟩;rw[if_pos bg]at c;exact⟨sc,p,v,s,ps,q,rfl,f,aPZ d,g,j,aC,c⟩
def aN(n:NV):CV:=.val (.agg ⟨n.enc⟩)
structure B4(h:PH)(s:jQ)(ps:bn)(q:Query)(ks:List bn)(n:NV):Prop where
 s_:iF h s n.s
 ps_:Ints h n.params ps
 q_:dG h q n.q
 ks_:bL h 1 eS (λk sl=>Ints h sl k) n.args ks
 len:∀k∈ks,k.length<=12
def Query.withOf(u q:Query):Query:=match u,q with|.mk _ ta w co on gr od li _,.mk op _ _ _ _ _ _ _ args=>.mk op ta w co on gr od li args
def D7:Vc.Spec:=λc m h K=>∃n k u s ps q ks d,c=[aN n,cI k,aQ u]/\B4 h s ps q ks n/\dG h d u/\∀r:Bool,(r=true↔(ks.length:Int)=k/\q=d.withOf q)->K (cB r) m h
def Ru:Vc.Spec:=λc m h K=>∃n s ps q ks,c=[aN n]/\B4 h s ps q ks n/\K (aQ ⟨0,0,⟨0,0,fS,fS,⟨none,0,0⟩⟩,⟨none,0,0⟩,⟨none,0,0⟩,n.q.group,n.q.order,n.q.limit,⟨none,0,0⟩⟩) m h
def Rv:Vc.Spec:=λc m h K=>∃n s ps q ks a,c=[aN n]/\B4 h s ps q ks n/\ks[0]? =some a/\∀r:Bool,(r=true↔∃op ta w co on gr od li args,q= .mk op ta w co on gr od li args/\nA a gr od li)->K (cB r) m h
def OD(ks:List bn):Query->Prop
 |.mk op ta w co on gr od li _=>ks.length=2/\ta=0/\w=fO/\co=[]/\gr=[]/\od=[]/\li=0/\Good (nH (ks.getD 0 []) (ks.getD 1 [])) on
def Rz:Vc.Spec:=λc m h K=>∃n s ps q ks,c=[aN n]/\B4 h s ps q ks n/\∀r:Bool,(r=true↔OD ks q)->K (cB r) m h
noncomputable def bBX(n:NV)(h:PH):=
 qV [] [(4,{A:=Nat×Nat×Nat×MH,st:=λ⟨i,c,b,d⟩=>bU 72 73 [(1,.at (.ptr 1 0)),(3,iv c),(4,vv (.pointer (some ⟨b,0,none⟩))),(16,sv n.q.group),(17,iv n.q.group.len),(18,iv i)] [(1,.cells 190 (n.enc.map .val))] d h}),
  (11,{A:=Nat×Nat×MH,st:=λ⟨i,c,d⟩=>bU 72 73 [(1,.at (.ptr 1 0)),(3,iv c),(39,sv n.q.order),(40,iv n.q.order.len),(41,iv i)] [(1,.cells 190 (n.enc.map .val))] d h})] [] [] [280] [] false
noncomputable def bBZ(n:NV)(h:PH):=
 qV [(236,D7)] [(6,{A:=Nat×Sl×Sl×Nat×Nat×MH,st:=λ⟨i,s,t,b,c,d⟩=>bU 80 81 [(3,sv s),(4,sv t),(5,vv (.pointer (some ⟨b,0,none⟩))),(6,vv (.pointer (some ⟨c,0,none⟩))),(28,sv n.q.on),(29,iv n.q.on.len),(30,iv i)] [] d h})] [] [] [280] [] false
abbrev rW(a:QV):=fV a.table
abbrev sO(a:QV):=fV a.where_.op
abbrev sT(a:QV):=a.where_.cmp
abbrev nR(a:OV):=fV a.kind
abbrev mW(a:QV):=a.where_.left
abbrev yQ(a:OV):=fV a.index
abbrev Gz(a:OV):=a.value.int
abbrev tT a:=fV (Gz a)
abbrev vI(a b:QV)(c:bt):=bF (fV a.op) (rW b) (bF (sO b) (fV (sT b)) (bF (nR (mW b)) (yQ (mW b)) (bF (fV (pY (mW b))) (tT (mW b)) c)))
abbrev Bz(a:OV):=a.value.text
abbrev BX a:=Value.string (Bz a)
abbrev pJ(a:QV):=a.where_.right
abbrev vP a b:=bF (BX (mW a)) (nR (pJ a)) (bF (yQ (pJ a)) (fV (pY (pJ a))) (bF (tT (pJ a)) (BX (pJ a)) (bF (dP a.where_.args) (dP a.columns) b)))
abbrev xW(a:QV):=dP a.group
abbrev xX(a:QV):=dP a.order
abbrev uL(a:QV):=fV a.limit
attribute [push_cast] rW sO sT nR mW yQ Gz tT vI Bz BX pJ vP xW xX uL
def Ta(n:NV)(k:Int)(u:QV)(m:MH)(h:PH)(K:bo):=
  eU (aH n.args) k (∃(v:QV),oW (λw p=>∃(q:Query),aI (tO (cA n.q) (kQ (vI n.q u (vP u (bF (dP u.on) (xW u) (bF (xX u) (uL u) (aR n.q.args))))))=tO (cA v) (cA w)) (dG h p v) (dG h q w) (∀(r:Bool),(iE r↔p=q)->K (Af r) m h))) (K bH m h)
abbrev HZ a:=bF cL cL (bF cL cL (bF cL cL (bF cL cL a)))
abbrev tQ a b:=bF vQz cL (bF cL cL (bF cL vQz (bF oM a b)))
attribute [push_cast] HZ tQ
def S9(n:NV)(m:MH)(h:PH)(K:bo):=
  K (kQ (HZ (tQ oM (bF oM (xW n.q) (bF (xX n.q) (uL n.q) fW))))) m h
abbrev wN:=Value.bool false
abbrev OK(a:MH)(b:PH)(c:Nat->MH->Prop):=∀(x:Nat)(d:MH),bG (cF a b x) (bK a d x (bF wN wN (bF wN wN (bF wN wN (bF wN wN (bF wN wN (bF wN wN [])))))) 280) (c x d)
abbrev yT(a:QV):=j9 a.table
abbrev BQ(a:QV)(b:Sl)(c d:At)(e:ct):=pQ a.where_ (gA (yG a.columns) (yG b) (gA c d e))
abbrev Ef(a:QV):=yG a.group
abbrev Eg(a:QV):=yG a.order
abbrev Ft(a:NV):=eQ (oQ 190 (gA (Ke a.s) (Kd a.s) (gA (yG a.params) (j9 a.q.op) (yT a.q::BQ a.q a.q.on (Ef a.q) (Eg a.q) (gA (j9 a.q.limit) (yG a.q.args) (wA (yG a.args)))))))
abbrev tM a:=oN (Value.bool a)
abbrev sR(a:MH)(b c:Nat)(d:bt)(e:MH->Prop):=jN (λx f=>aA (yA a b (gG x f 0)) (c<x.size) (∀(g:MH),bK a g b (splice x.toList c d) f->e g))
attribute [push_cast] wN OK yT BQ Ef Eg Ft tM sR
def Iu n m h K:=
  bJ (λb o=>aI (aW n.args.a b o) ((0:Int)<=0) (0<aH n.args) (∃(y:Sl),aK m h b (o+0) (aR y)/\OK m h (λz A=>∃(I:Nat×Nat×Nat×MH->Prop)(t:Nat×Nat×Nat×MH->Nat),(∃(x:Nat×Nat×Nat×MH),aA (I x) eM (aA (bO y.len=bO x.2.1) (dM z (j6 x.2)) (aA (aJ n.q.group) (bI n.q.group) (aA (bA x.1) (Ft n) (dY A (i6 x.2) h h)))))/\∀(x:Nat×Nat×Nat×MH),I x->aY (↑x.1:Int) (aH n.q.group) (bJ (λe f=>aI (aW n.q.group.a e f) (0<=(↑x.1:Int)) ((↑x.1:Int)<aH n.q.group) (∃(d:Int),aK (i6 x.2) h e (f+bM x.1 1) (bB d)/\aY d 0 (mP K x.2 h) (iA d (↑x.2.1:Int) (mP K x.2 h) (aA (cH d) (d<12) (∃(u:Bool),aK (i6 x.2) h (j6 x.2) (0+gY d 1) (tM u)/\branch u (mP K x.2 h)
 (aA (cH d) (d<12) (sR (i6 x.2) (j6 x.2) (0+gY d 1) (oN C9) (λj=>∃(c:Nat×Nat×Nat×MH),aA (I c) (t c<t x) (aA eM (cD x.2.1 c.2.1) (aA (dM (j6 x.2) (j6 c.2)) (aJ n.q.group) (aA (bI n.q.group) (gK (bE x.1 1)=bO c.1) (cZ (Ft n) j (i6 c.2) h h))))))))))))) (∃(I1:Nat×Nat×MH->Prop)(j:Nat×Nat×MH->Nat),Pc (λc=>aA (I1 c) eM (aA (cD x.2.1 (j6 c)) (aJ n.q.order) (aA (bI n.q.order) (bA c.1) (aA (Ft n) (i6 x.2=i6 c) (bT h h))))) (λc=>I1 c->aY (↑c.1:Int) (aH n.q.order) (bJ (λe f=>aI (aW n.q.order.a e f) (0<=(↑c.1:Int)) ((↑c.1:Int)<aH n.q.order) (∃(d:Int×Bool),aK (i6 c) h e (f+bM c.1 2) (A4 d)/\aY d.1 0 (mP K c h) (iA
 d.1 (↑(j6 c):Int) (mP K c h) (∃(g:Nat×Nat×MH),aA (I1 g) (j g<j c) (aA eM (cD (j6 c) (j6 g)) (aA (aJ n.q.order) (bI n.q.order) (aA (gK (bE c.1 1)=bO g.1) (Ft n) (dY (i6 c) (i6 g) h h))))))))) (branch (decide (aH n.q.order<=12)) (iA n.q.limit 0 (K (Af (decide (n.q.limit<=100))) (i6 c) h) (mP K c h)) (mP K c h)))))))
abbrev Fk(a:jQ->bn->Query->(List bn)->Prop):=Es (λx c=>∃(d:Query)(e:List bn),a x c d e)
abbrev DF(a:cr)(b:NV->Int->QV->cr)(c:PH)(d:Int->Query->(List bn)->Query->Bool->Prop):=∃(x:NV)(e:Int)(f:QV),Fk (λo t g j=>∃(n:Query),aI (a=b x e f) (B4 c o t g j x) (dG c n f) (∀(u:Bool),d e g j n u))
abbrev jI(a:NV)(b:bt):=bF (yQ (mW a.q)) (fV (pY (mW a.q))) (bF (tT (mW a.q)) (BX (mW a.q)) (bF (nR (pJ a.q)) (yQ (pJ a.q)) (bF (fV (pY (pJ a.q))) (tT (pJ a.q)) b)))
abbrev BV a b c d:=bF (BX a) (dP b.where_.args) (bF (dP b.columns) (dP c) (bF (xW b) (xX b) (bF (fV b.limit) (dP b.args) (aR d))))
abbrev gL(a:NV):=BV (pJ a.q) a.q a.q.on a.args
abbrev tP a b:=bF a oM (bF oM cL b)
abbrev DL(a:List bn)(b:Int)(c d:Query):=(↑a.length:Int)=b/\c=Query.withOf d c
abbrev mH(a:Nat×Sl×Sl×Nat×Nat×MH):=a.2.2.2
attribute [push_cast] Fk DF jI BV gL tP DL mH
def Iv n m h K:=
  DF (cC (bF (Ak n.s) (Aj n.s) (bF (dP n.params) (fV n.q.op) (bF (rW n.q) (sO n.q) (bF (fV (sT n.q)) (nR (mW n.q)) (jI n (gL n)))))) (fQ 2 (kQ (HZ (tQ oM (tP (dP n.q.on) fW)))))) (λd k u=>cC (bF (Ak d.s) (Aj d.s) (bF (dP d.params) (fV d.q.op) (bF (rW d.q) (sO d.q) (bF (fV (sT d.q)) (nR (mW d.q)) (jI d (gL d)))))) (fQ k (cA u))) h (λk q L u r=>gX (iE r↔DL L k q u) (!r) (K bH m h) (bJ (λb o=>aI (aW n.args.a b o) ((0:Int)<=0) (0<aH n.args) (∃(y:Sl),aK m h b (o+0) (aR y)/\bJ (λf g=>aI (aW n.args.a f g) ((0:Int)<=1) (1<aH n.args) (∃(j:Sl),aK m h f (g+1) (aR j)/\OK m h (λM O=>OK O h (λP Q=>∃(I:Nat×Sl×Sl×Nat×Nat×
 MH->Prop)(t:Nat×Sl×Sl×Nat×Nat×MH->Nat),(∃(x:Nat×Sl×Sl×Nat×Nat×MH),aA (I x) (aZ y x.2.1) (aA (aZ j x.2.2.1) (dM M (mH x).1) (aA (dM P (j6 (mH x))) (aJ n.q.on) (aA (bI n.q.on) (bA x.1) (dY Q (i6 (mH x)) h h)))))/\∀(x:Nat×Sl×Sl×Nat×Nat×MH),I x->aY (↑x.1:Int) (aH n.q.on) (bJ (λz A=>aI (aW n.q.on.a z A) (0<=(↑x.1:Int)) ((↑x.1:Int)<aH n.q.on) (∃(c:Int×Int),aA (aK (i6 (mH x)) h z (A+bM x.1 2) (vO c)) (cH 0) (aA ((0:Int)<2) (cH 1) ((1:Int)<2/\aY c.1 0 (mP K (mH x) h) (iA c.1 (aH x.2.1) (mP K (mH x) h) (aY c.2 0 (mP K (mH x) h) (iA c.2 (aH x.2.2.1) (mP K (mH x) h) (bJ (λB C=>aI (aW x.2.1.a B C) (0<=c.1) (c.1<aH x.2.1)
 (∃(D:Int),aK (i6 (mH x)) h B (C+gY c.1 1) (bB D)/\bJ (λE F=>aI (aW x.2.2.1.a E F) (0<=c.2) (c.2<aH x.2.2.1) (∃(G:Int),aK (i6 (mH x)) h E (F+gY c.2 1) (bB G)/\cV D G (mP K (mH x) h) (aA (cH c.1) (c.1<12) (∃(H:Bool),aK (i6 (mH x)) h (mH x).1 (0+gY c.1 1) (tM H)/\branch H (mP K (mH x) h) (aA (cH c.2) (c.2<12) (∃(J:Bool),aK (i6 (mH x)) h (j6 (mH x)) (0+gY c.2 1) (tM J)/\branch J (mP K (mH x) h) (aA (cH c.1) (c.1<12) (sR (i6 (mH x)) (mH x).1 (0+gY c.1 1) (oN C9) (λR=>aA (cH c.2) (c.2<12) (sR R (j6 (mH x)) (0+gY c.2 1) (oN C9) (λS=>∃(e:Nat×Sl×Sl×Nat×Nat×MH),aA (I e) (t e<t x)
 (aA (aZ x.2.1 e.2.1) (aZ x.2.2.1 e.2.2.1) (aA (dM (mH x).1 (mH e).1) (dM (j6 (mH x)) (j6 (mH e))) (aA (aJ n.q.on) (bI n.q.on) (cZ (gK (bE x.1 1)=bO e.1) S (i6 (mH e)) h h)))))))))))))))))))))))))) (K iM (i6 (mH x)) h)))))))))
structure Arr(m:MH)(b:Nat)(seen:bn):Prop where
 ex:∃bs:cq,m b=some (.cells ⟨bs.map Value.bool⟩ 280 (0,0))/\bs.length=12/\∀k:Nat,k<12->(bs[k]? =some true↔(k:Int)∈seen)
theorem Arr.zero(h:m b=some (.cells ⟨[.bool false,.bool false,.bool false,.bool false,.bool false,.bool false,.bool false,.bool false,.bool false,.bool false,.bool false,.bool false]⟩ 280 (0,0))):Arr m b []:=
 ⟨⟨replicate 12 false,h,rfl,λk c=>bg⟩⟩
theorem Arr.look{c}(x:Arr m b c){n}(f:0<=n)(g:n<12):∃y:Bool,aK m h b (0+n.toNat*1) [.bool y]/\(y=true↔n∈c):=by
 obtain⟨d,e,j,o⟩:=x.ex;have t:n.toNat<d.length:=by omega
 refine⟨d[n.toNat],.lent _ _ _ e ?_,?_⟩
 .simp only[Nat.zero_add,Nat.mul_one,length_cons,length_nil];rw[drop_eq_getElem_cons bg];simp
 grind
theorem Arr.store{c}(x:Arr m b c){n}(o:0<=n)(t:n<12):∃(cs:Array Value)(E:TypeId),yA m b (.cells cs E (0,0))/\0+n.toNat*1<cs.size/\∀m',lF m m' b (.cells ⟨splice cs.toList (0+n.toNat*1) [.bool true]⟩ E (0,0))->Arr m' b (c++[n]):=by
 obtain⟨d,e,u,y⟩:=x.ex;have f:n.toNat<d.length:=by omega
 refine⟨_,_,⟨e⟩,bg,λm' g=>⟨d.set n.toNat true,?_,bg,λk j=>?_⟩⟩
 .rw[g.at_];congr 3;simp only[splice,Nat.zero_add,Nat.mul_one,length_cons,length_nil];rw[set_eq_take_append_cons_drop,if_pos f];simp[map_take,map_drop]
 grind
theorem Arr.other{f d}(x:Arr m b d)(g:b≠f)(t:∀c,c≠f->m' c=m c):Arr m' b d:=by
 obtain⟨j,e,n,o⟩:=x.ex;exact⟨j,bg,n,o⟩
theorem B4.arg{q n}(x:B4 h s ps q ks n){j k}(c:ks[j]? =some k):∃b o sl,n.args.a=some ⟨b,o,none⟩/\cO h b (o+j*1) [.slice sl.a sl.len sl.cap]/\Ints h sl k/\k.length<=12/\j<n.args.len:=by
 obtain⟨b,o,sl,e,r,d⟩:=x.ks_.at c;have:=(List.getElem?_eq_some_iff.1 c).1;exact⟨b,o,sl,e,r,d,x.len k (mem_of_getElem? c),by rw[x.ks_.slen];exact this⟩
theorem clQ{n}(c:K (aQ ⟨0,0,⟨0,0,fS,fS,⟨none,0,0⟩⟩,⟨none,0,0⟩,⟨none,0,0⟩,n.q.group,n.q.order,n.q.limit,⟨none,0,0⟩⟩) m h):S9 n m h K:=c
theorem xZ:bm 236 D7:=by
 refine iQ func236 ?_;rintro C m h K ⟨n,k,u,s,ps,q,ks,D,rfl,c,E,B⟩;refine⟨dE [(259,cTZ)] [] [] [] false,rfl,aE Zu aG,Ta n k u m h K,ax,?_⟩;dsimp only[Ta,push_cast];have L:=c.ks_.slen;have F:=c.q_;have d:=c.q_;obtain⟨op,ta,w,co,on,gr,od,li,args⟩:=q;obtain⟨G,f,H,g,j,o,t,z,A⟩:=D;have x:=E.parts;have y:=F.parts;refine aD (λI=>⟨n.q,⟨n.q.op,u.table,u.where_,u.columns,u.on,u.group,u.order,u.limit,n.q.args⟩,_,.mk op f H g j o t z args,rfl,d,tU.rep ⟨y.op_,x.table_,x.where_,x.columns_,x.on_,x.group_,x.order_,x.limit_,y.args_⟩,λr J=>B r (J.trans ⟨λe=>⟨?_,e⟩,λe=>e.2⟩)⟩) (λI=>B false ⟨λe=>(by cases e),λe=>?_⟩)
 .grind
 grind
theorem Q0:bm 238 Ru:=by
 refine iQ func238 ?_;rintro c m h K ⟨n,s,ps,q,ks,rfl,e,d⟩;refine⟨dE [] [] [] [] false,rfl,aG,S9 n m h K,ax,?_⟩;exact clQ d
theorem ckJ{n op w on args}(u:B4 h s ps (.mk op ta w co on gr od li args) ks n)(ha:ks[0]? =some a)(W:∀r:Bool,(r=true↔nA a gr od li)->K (cB r) m h):Iu n m h (lR h K):=by
 dsimp only[Iu,push_cast];have x:=u.q_.parts;have gl:=x.group_.slen;have X:=x.group_.len;have ol:=x.order_.slen;have Y:=x.order_.len;have el:=x.limit_;obtain⟨b0,o0,Z,e0,r0,J,a',a0⟩:=u.arg ha;have L:=J.slen;have bad:∀f,Sub m f->¬nA a gr od li->lR h K (.val (.bool false)) f h:=λf hm u=>.sub hm (W false ⟨λe=>(by cases e),λe=>(u e).elim⟩);refine⟨b0,o0,e0,aC,aC,Z,.imm aC,λb m1 hb C=>?_⟩;refine⟨λ⟨i,D,b',f⟩=>D=a.length/\b'=b/\i<=gr.length/\Sub m f/\Arr f b (gr.take i)/\gJ (Gv a) gr i,λ⟨i,_,_,_⟩=>gr.length-i,⟨(0,Z.len,b,m1),⟨L,rfl,aC,(Sub.refl m).upd hb.m_ C.other,.zero C.at_,.zero⟩,MT⟩,?_⟩;rintro⟨i,D,b,f⟩ ⟨rfl,rfl,hi,d,j,M⟩;dsimp only;refine aF (λo=>?_) (λF=>?_)
 .obtain⟨c,z⟩:=eV gl o;obtain⟨O,P,Q,R⟩:=x.group_.at' z;have t:¬Gv a (gr.take i) c->lR h K (.val (.bool false)) f h:=λu=>bad f d λg=>Good.not z u g.group_;refine⟨O,P,Q,aC,o,c,.imm R,aF (λG=>t λg=>?_) (λG=>aF (λB=>t λg=>?_) (λB=>?_))⟩
  .have:=eY.1 g.1;omega
  .have:=eY.1 g.1;omega
  obtain⟨y,hy,S⟩:=j.look (h:=h) (n:=c) aC aC;refine⟨aC,aC,y,hy,aD (λh3=>t λg=>g.2 (S.1 h3)) (λh3=>?_)⟩;obtain⟨cs,E,T,U,V⟩:=j.store (n:=c) aC aC;refine⟨aC,aC,cs,E,T,U,λm2 H=>⟨(i+1,a.length,b,m2),⟨rfl,rfl,aC,d.upd hb.m_ H.other,?_,M.succ z ⟨eY.2 ⟨aC,aC⟩,λe=>?_⟩⟩,aC,MT⟩⟩
  .have:=V m2 H
   rwa [take_add_one,z]
  grind
 have gg:=M.all aC;refine⟨λ⟨i,D,f⟩=>D=a.length/\i<=od.length/\Sub m f/\gJ (JG a) od i,λ⟨i,_,_⟩=>od.length-i,⟨(0,a.length,f),⟨rfl,aC,d,.zero⟩,MT⟩,?_⟩;clear hi M F d j f;rintro⟨i,D,f⟩ ⟨rfl,hi,d,I⟩;dsimp only;refine aF (λo=>?_) (λF=>?_)
 .obtain⟨c,z⟩:=eV ol o;obtain⟨O,P,Q,R⟩:=x.order_.at z;have A:¬JG a (od.take i) c->lR h K (.val (.bool false)) f h:=λu=>bad f d λg=>Good.not z u g.order_;refine⟨O,P,Q,aC,o,c,.imm R,aF (λG=>A λg=>?_) (λG=>aF (λB=>A λg=>?_) (λB=>⟨(i+1,a.length,f),⟨rfl,aC,d,I.succ z (eY.2 ⟨aC,aC⟩)⟩,aC,MT⟩))⟩
  .have:=eY.1 (show CQ a c.1=true from g);omega
  .have:=eY.1 (show CQ a c.1=true from g);omega
 have oo:=I.all aC;rw[el];refine aF (λG=>aF (λB=>?_) (λB=>bad f d λg=>?_)) (λG=>bad f d λg=>?_)
 .exact .sub d (W (decide (li<=100)) ⟨λe=>⟨gg,oo,aC,B,bk e⟩,λe=>decide_eq_true e.high⟩)
 .have:=g.low;omega
 .have:=g.len_;omega
theorem QZ:bm 239 Rv:=by
 refine EN func239 ?_;rintro c m h K ⟨n,s,ps,q,ks,a,rfl,d,f,g⟩;refine⟨bBX n h,rfl,aG,Iu n m h (lR h K),ax,?_⟩;dsimp only[Iu,push_cast];obtain⟨op,ta,w,co,on,gr,od,li,args⟩:=q;refine ckJ d f (λr j=>g r (j.trans ⟨λe=>⟨_,_,_,_,_,_,_,_,_,rfl,e⟩,?_⟩))
 grind
theorem YO{on sl}(c:jC h sl on):dG h (.mk 0 0 fO [] on [] [] 0 []) ⟨0,0,⟨0,0,fS,fS,⟨none,0,0⟩⟩,⟨none,0,0⟩,sl,⟨none,0,0⟩,⟨none,0,0⟩,0,⟨none,0,0⟩⟩:=
 tU.rep ⟨rfl,rfl,Fe h,⟨.nil _ _,ay⟩,c,⟨.nil _ _,ay⟩,⟨.nil _ _,ay⟩,rfl,.nil _ _ _ _⟩
theorem Q1:bm 237 Rz:=by
 refine EN func237 ?_;rintro a7 m h K ⟨n,s,ps,q,ks,rfl,t,hK⟩;refine⟨bBZ n h,rfl,aE xZ aG,Iv n m h (lR h K),ax,?_⟩;dsimp only[Iv,push_cast];obtain⟨op,ta,w,co,on,gr,od,li,args⟩:=q;show Iv n m h (lR h K);dsimp only[Iv,push_cast];have x:=t.q_.parts;have ol:=x.on_.slen;have a5:=x.on_.len;have bad:∀g,Sub m g->¬OD ks (.mk op ta w co on gr od li args)->lR h K (.val (.bool false)) g h:=λg T t=>.sub T (hK false ⟨λe=>(by cases e),λe=>(t e).elim⟩);refine⟨n,2,⟨0,0,⟨0,0,fS,fS,⟨none,0,0⟩⟩,⟨none,0,0⟩,n.q.on,⟨none,0,0⟩,⟨none,0,0⟩,0,⟨none,0,0⟩⟩,s,ps,_,ks,.mk 0 0 fO [] on [] [] 0 [],rfl,t,YO x.on_,λr hr=>aD (λh1=>bad m (Sub.refl m) λf=>?_) (λh1=>?_)⟩
 .have:r=true:=hr.2 ⟨by have:=f.1;omega,by obtain⟨_,rfl,rfl,rfl,rfl,rfl,rfl,_⟩:=f;rfl⟩
  grind
 obtain⟨U,G⟩:=hr.1 bg;simp only[Query.withOf,Query.mk.injEq]at G;obtain⟨_,rfl,rfl,rfl,_,rfl,rfl,rfl,_⟩:=G
 obtain⟨D,F,rfl⟩:∃D F,ks=[D,F]:=by
  match ks,U with
  |[D,F],_=>grind
  |[],h=>simp at h
  |[_],h=>simp at h
  |_::_::_::_,h=>grind
 obtain⟨b0,o0,H,e0,r0,i0,l0,j0⟩:=t.arg (j:=0) rfl;obtain⟨b1,o1,I,e1,r1,i1,l1,j1⟩:=t.arg (j:=1) rfl;have a8:=i0.slen;have a9:=i1.slen;have bad:∀g,Sub m g->¬Good (nH D F) on->lR h K (.val (.bool false)) g h:=λg T t=>bad g T λf=>t f.2.2.2.2.2.2.2;refine⟨b0,o0,e0,aC,aC,H,.imm aC,b1,o1,e1,aC,aC,I,.imm aC,λb m1 hb u c m2 hc A=>?_⟩;have B:b≠c:=λe=>by have:=hc.m_;rw[<-e,u.at_]at this;cases this
 have J:Sub m m1:=(Sub.refl m).upd hb.m_ u.other;have L:m c=none:=J.free hc.m_
 refine⟨λ⟨i,s',t',b',c',g⟩=>s'=H/\t'=I/\b'=b/\c'=c/\i<=on.length/\Sub m g/\Arr g b ((on.take i).map Prod.fst)/\Arr g c ((on.take i).map Prod.snd)/\gJ (nH D F) on i,λ⟨i,_,_,_,_,_⟩=>on.length-i,
  ⟨(0,H,I,b,c,m2),⟨rfl,rfl,rfl,rfl,aC,J.upd L A.other,(Arr.zero u.at_).other B A.other,.zero A.at_,.zero⟩,MT⟩,?_⟩
 rintro⟨i,H,I,b,c,g⟩ ⟨rfl,rfl,rfl,rfl,hi,o,hA,hB,hg⟩;dsimp only;refine aF (λM=>?_) (λb4=>.sub o (hK true ⟨λ_=>⟨rfl,rfl,rfl,rfl,rfl,rfl,rfl,hg.all aC⟩,λ_=>rfl⟩));obtain⟨p,O⟩:=eV ol M;obtain⟨bp,V,ep,rp⟩:=x.on_.at O;have d:¬nH D F (on.take i) p->lR h K (.val (.bool false)) g h:=λt=>bad g o (Good.not O t);refine⟨bp,V,ep,aC,M,p,.imm rp,aC,aC,aC,aC,aF (λd1=>d λf=>?_) (λd1=>aF (λd2=>d λf=>?_) (λd2=>aF (λd3=>d λf=>?_) (λd3=>aF (λd4=>d λf=>?_) (λd4=>?_))))⟩
 .have:=eY.1 f.1;omega
 .have:=eY.1 f.1;omega
 .have:=eY.1 f.2.1;omega
 .have:=eY.1 f.2.1;omega
 obtain⟨b2,o2,e2,r2⟩:=i0.inb (n:=p.1) aC aC;obtain⟨b3,o3,e3,r3⟩:=i1.inb (n:=p.2) aC aC;obtain⟨y,hy,W⟩:=hA.look (h:=h) (n:=p.1) aC aC;obtain⟨z,hz,X⟩:=hB.look (h:=h) (n:=p.2) aC aC;obtain⟨cs,E,Y,Z,a'⟩:=hA.store (n:=p.1) aC aC;refine⟨b2,o2,e2,aC,aC,_,.imm r2,b3,o3,e3,aC,aC,_,.imm r3,aD (λd5=>d λf=>?_) (λd5=>⟨aC,aC,y,hy,aD (λd6=>d λf=>?_) (λd6=>⟨aC,aC,z,hz,aD (λd7=>d λf=>?_) (λd7=>⟨aC,aC,cs,E,Y,Z,λm3 C=>?_⟩)⟩)⟩)⟩
 .rw[f.2.2.1]at d5;simp at d5
 .obtain⟨q,S,e⟩:=mem_map.1 (W.1 d6);exact(f.2.2.2 q S).1 e
 .obtain⟨q,S,e⟩:=mem_map.1 (X.1 d7);exact(f.2.2.2 q S).2 e
 have a2:=a' m3 C;have a3:=hB.other B.symm C.other;obtain⟨a4,E2,P,Q,a6⟩:=a3.store (n:=p.2) aC aC;refine⟨aC,aC,a4,E2,P,Q,λm4 R=>⟨(i+1,H,I,b,c,m4),⟨rfl,rfl,rfl,rfl,aC,(o.upd hb.m_ C.other).upd L R.other,?_,?_,hg.succ O ⟨eY.2 ⟨aC,aC⟩,eY.2 ⟨aC,aC⟩,bg,λq S=>⟨λe=>?_,λe=>?_⟩⟩⟩,aC,MT⟩⟩
 .rw[jV O];exact a2.other B R.other
 .rw[jV O];grind
 .grind
 .grind
def fin(r:bn×Int):=if r.2=0 then mX r.1 else eC r.2
def Query.op:Query->Int
 |.mk op .. =>op
noncomputable def B7(s:jQ)(ps:bn)(q:Query)(ks:List bn):=if(ks.length:Int)=arity q.op then eK s ps q (ks.getD 0 []) (ks.getD 1 [])else eC 100
def B8(P:Int->Prop):=λc m h K=>∃n s ps q ks,c=[aN n]/\B4 h s ps q ks n/\nU s/\P q.op/\∀r,fin r=B7 s ps q ks->KR K m h r
def cMQ h c ks:=bL h 1 eS (λk d=>Ints h d k) c ks
def LR:Vc.Spec:=λc m h K=>∃d ks,c=[cS d]/\cMQ h d ks/\ks.length<=10/\(∀k∈ks,k.length<=12)/\∀e h',PH.le h h'->Ints h' e ks.flatten->K (cS e) m h'
noncomputable def bDZ(n:NV)(m:MH)(h:PH):=
 dE [(236,D7)] [(5,{A:=Nat×bn,st:=λ⟨i,l⟩=>bU 57 58 [(1,.at (.ptr 1 0)),(4,.at (.lst 25)),(28,sv n.q.columns),(29,iv n.q.columns.len),(30,iv i)] [(1,.cells 190 (n.enc.map .val)),(25,.lst 3 1 (l.map eI))] m h})] [] [] false
abbrev US a b:=bF a b (bF cL cL (bF cL cL (bF cL cL (tQ oM (tP oM fW)))))
attribute [push_cast] US
def ID n m h K:=
  DF (cC (bF (Ak n.s) (Aj n.s) (bF (dP n.params) (fV n.q.op) (bF (rW n.q) (sO n.q) (bF (fV (sT n.q)) (nR (mW n.q)) (jI n (gL n)))))) (fQ 0 (kQ (US cL (rW n.q))))) (λc k u=>cC (bF (Ak c.s) (Aj c.s) (bF (dP c.params) (fV c.q.op) (bF (rW c.q) (sO c.q) (bF (fV (sT c.q)) (nR (mW c.q)) (jI c (gL c)))))) (fQ k (cA u))) h (λk q d u r=>gX (iE r↔DL d k q u) (!r) (bW K 100 m h) (aY n.q.table 0 (bW K 100 m h) (iA n.q.table (kM n.s) (bW K 100 m h) (AQ n.s n.q.table h (λs e=>lI K s 0 m e)))))
def IC n m h K:=
  DF (cC (bF (Ak n.s) (Aj n.s) (bF (dP n.params) (fV n.q.op) (bF (rW n.q) (sO n.q) (bF (fV (sT n.q)) (nR (mW n.q)) (jI n (gL n)))))) (fQ 1 (kQ (bF cL cL (bF (sO n.q) (fV (sT n.q)) (bF (nR (mW n.q)) (yQ (mW n.q)) (bF (fV (pY (mW n.q))) (tT (mW n.q)) (bF (BX (mW n.q)) (nR (pJ n.q)) (bF (yQ (pJ n.q)) (fV (pY (pJ n.q))) (bF (tT (pJ n.q)) (BX (pJ n.q)) (bF (dP n.q.where_.args) oM (tP oM fW)))))))))))) (λd k u=>cC (bF (Ak d.s) (Aj d.s) (bF (dP d.params) (fV d.q.op) (bF (rW d.q) (sO d.q) (bF (fV (sT d.q)) (nR (mW d.q)) (jI d (gL d)))))) (fQ k (cA u))) h (λk q t u r=>gX (iE r↔DL t k q u) (!r) (bW K 100 m h) (bJ (λb o=>aI (aW
 n.args.a b o) ((0:Int)<=0) (0<aH n.args) (∃(y:Sl),aK m h b (o+0) (aR y)/\FG (cX y (fZ n.params (gP n.q.where_))) h (λc p e=>cV (iC c p e) 0 (bW K (iC c p e) m h) (bJ (λf g=>aI (aW n.args.a f g) ((0:Int)<=0) (0<aH n.args) (∃(j:Sl),aK m h f (g+0) (aR j)/\lI K j 0 m h))))))))
abbrev AJ(a:NV):=a.q.columns
abbrev KN(a:(Nat×bn->Prop)->(Nat×bn)->Prop)(b:(Nat×bn->Prop)->(Nat×bn->Nat)->(Nat×bn)->Prop):=∃(x:Nat×bn->Prop)(d:Nat×bn->Nat),(∃(c:Nat×bn),a x c)/\∀(c:Nat×bn),b x d c
abbrev p9(a:Nat×bn):=gW a.2
attribute [push_cast] AJ KN p9
def IB n m h K:=
  DF (cC (bF (Ak n.s) (Aj n.s) (bF (dP n.params) (fV n.q.op) (bF (rW n.q) (sO n.q) (bF (fV (sT n.q)) (nR (mW n.q)) (jI n (gL n)))))) (fQ 1 (kQ (HZ (tQ (dP n.q.columns) (tP oM fW)))))) (λc k u=>cC (bF (Ak c.s) (Aj c.s) (bF (dP c.params) (fV c.q.op) (bF (rW c.q) (sO c.q) (bF (fV (sT c.q)) (nR (mW c.q)) (jI c (gL c)))))) (fQ k (cA u))) h (λk q E u r=>(iE r↔DL E k q u)->dR (!r) (bW K 100 m h) (aH n.q.columns==0) (bW K 100 m h) (aA (cH 0) (cH (aH n.q.columns)) (aA (zX (AJ n) 8) (zU (aH (AJ n))) (KN (λI x=>aA (I x) eM (aA (eL 25) (aJ (AJ n)) (aA (bI (AJ n)) (bA x.1) (aA (Ft n) (sS x.2) (dY m m h h))))) (λI f x=>I x
 ->aY (↑x.1:Int) (aH (AJ n)) (bJ (λb o=>aI (aW (AJ n).a b o) (0<=(↑x.1:Int)) ((↑x.1:Int)<aH (AJ n)) (∃(y:Int),aK m h b (o+bM x.1 1) (bB y)/\aY y 0 (bW K 100 m h) (bJ (λg j=>aI (aW n.args.a g j) ((0:Int)<=0) (0<aH n.args) (∃(t:Sl),aK m h g (j+0) (aR t)/\iA y (aH t) (bW K 100 m h) (bJ (λz A=>aI (aW n.args.a z A) ((0:Int)<=0) (0<aH n.args) (∃(e:Sl),aK m h z (A+0) (aR e)/\bJ (λB C=>aI (aW e.a B C) (0<=y) (y<aH e) (∃(D:Int),aI (aK m h B (C+gY y 1) (bB D)) (AL (p9 x)) (dO (p9 x)) (∃(d:Nat×bn),aA (I d) (f d<f x) (aA eM (eL 25) (aA (aJ (AJ n)) (bI (AJ n)) (aA (gK (bE x.1 1)=bO d.1) (Ft n) (cZ
 (lK (dL (p9 x) (bB D)) d.2) m m h h)))))))))))))))) (tY h (p9 x) K m))))))
abbrev lJ(a:NV)(b:bt):=kQ (bF (Ak a.s) (Aj a.s) (bF (dP a.params) (fV a.q.op) (bF (rW a.q) (sO a.q) (bF (fV (sT a.q)) (nR (mW a.q)) b))))
abbrev j3 a b c d e:=cO a b (c+d) e
attribute [push_cast] lJ j3
def IA n m h K:=
  ∃(c:NV),Fk (λs p q k=>aA (eO (lJ n (jI n (gL n))) (lJ c (jI c (gL c)))) (B4 h s p q k c) (∀(r:Bool),gX (iE r↔OD k q) (!r) (bW K 100 m h) (bJ (λb o=>aI (aW n.args.a b o) ((0:Int)<=0) (0<aH n.args) (∃(y:Sl),aK m h b (o+0) (aR y)/\bJ (λe f=>aI (aW n.args.a e f) ((0:Int)<=1) (1<aH n.args) (∃(g:Sl),aI (aK m h e (f+1) (aR g)) (j3 h b o 0 (aR y)) (j3 h e f 1 (aR g)) (bY h 1 (lY (aR y) (aR g)) (λB t=>∃(u:Sl)(d:List bn),aA (vG (mQ B)=vG (mQ u)) (cMQ t u d) (aA (d.length<=10) (∀(z:bn),List.Mem z d->z.length<=12) (∀(A:Sl)(j:PH),bQ t j (Ints j A d.flatten) (lI K A 0 m j))))))))))))
def Iz n m h K:=
  ∃(c:NV),Fk (λs p q k=>aA (eO (lJ n (jI n (gL n))) (lJ c (jI c (gL c)))) (B4 h s p q k c) (∀(r:Bool),gX (iE r↔OD k q) (!r) (bW K 100 m h) (bJ (λb o=>aI (aW n.args.a b o) ((0:Int)<=0) (0<aH n.args) (∃(y:Sl),aK m h b (o+0) (aR y)/\lI K y 0 m h)))))
def MQ n m h K:=
  DF (cC (bF (Ak n.s) (Aj n.s) (bF (dP n.params) (fV n.q.op) (bF (rW n.q) (sO n.q) (bF (fV (sT n.q)) (nR (mW n.q)) (jI n (gL n)))))) (fQ 2 (kQ zV))) (λc k u=>cC (bF (Ak c.s) (Aj c.s) (bF (dP c.params) (fV c.q.op) (bF (rW c.q) (sO c.q) (bF (fV (sT c.q)) (nR (mW c.q)) (jI c (gL c)))))) (fQ k (cA u))) h (λk q A u r=>gX (iE r↔DL A k q u) (!r) (bW K 100 m h) (bJ (λb o=>aI (aW n.args.a b o) ((0:Int)<=0) (0<aH n.args) (∃(y:Sl),aK m h b (o+0) (aR y)/\bJ (λd e=>aI (aW n.args.a d e) ((0:Int)<=1) (1<aH n.args) (∃(f:Sl),aK m h d (e+1) (aR f)/\AO y f h (λa B g=>gX (iE g↔a=B) (!g) (bW K 100 m h) (bJ (λj t=>aI (aW n.args.a j t)
 ((0:Int)<=0) (0<aH n.args) (∃(z:Sl),aK m h j (t+0) (aR z)/\lI K z 0 m h))))))))))
abbrev G5(a:Int->Int->Prop):=∃(x c:Int),a x c
abbrev Qi(a:bn->bz->Prop):=∃(x:bn)(c:bz),a x c
abbrev DP(a:Int->Int->Pred->bn->bu->bn->bz->Int->ce->Prop):=G5 (λx c=>∃(d:Pred)(e:bn)(f:bu),Qi (λg j=>∃(n:Int)(o:ce),a x c d e f g j n o))
attribute [push_cast] G5 Qi DP
def Iy n m h K:=
  ∃(e:NV),Fk (λs p q k=>aA (eO (lJ n (jI n (gL n))) (lJ e (jI e (gL e)))) (B4 h s p q k e) (DF (cC (bF (Ak n.s) (Aj n.s) (bF (dP n.params) (fV n.q.op) (bF (rW n.q) (sO n.q) (bF (fV (sT n.q)) (nR (mW n.q)) (jI n (gL n)))))) (fQ 1 (kQ (HZ (tQ oM (bF oM (xW e.q) (bF (xX e.q) (uL e.q) fW))))))) (λd f u=>cC (bF (Ak d.s) (Aj d.s) (bF (dP d.params) (fV d.q.op) (bF (rW d.q) (sO d.q) (bF (fV (sT d.q)) (nR (mW d.q)) (jI d (gL d)))))) (fQ f (cA u))) h (λf C D u r=>gX (iE r↔DL D f C u) (!r) (bW K 100 m h) (∃(d:NV),Fk (λE F j z=>∃(a:bn),aI (eO (lJ n (jI n (gL n))) (lJ d (jI d (gL d)))) (B4
 h E F j z d) (z[0]? =Option.some a) (∀(A:Bool),gX (iE A↔DP (λo t w c G g B l H=>j=Query.mk o t w c G g B l H/\nA a g B l)) (!A) (bW K 100 m h) (bJ (λb o=>aI (aW n.args.a b o) ((0:Int)<=0) (0<aH n.args) (∃(y:Sl),aK m h b (o+0) (aR y)/\lI K y 0 m h)))))))))
def Ix n m h K:=
  ∃(e:NV),Fk (λs p q k=>aA (eO (lJ n (jI n (gL n))) (lJ e (jI e (gL e)))) (B4 h s p q k e) (DF (cC (bF (Ak n.s) (Aj n.s) (bF (dP n.params) (fV n.q.op) (bF (rW n.q) (sO n.q) (bF (fV (sT n.q)) (nR (mW n.q)) (jI n (gL n)))))) (fQ 2 (kQ (HZ (tQ oM (bF oM (xW e.q) (bF (xX e.q) (uL e.q) fW))))))) (λd B u=>cC (bF (Ak d.s) (Aj d.s) (bF (dP d.params) (fV d.q.op) (bF (rW d.q) (sO d.q) (bF (fV (sT d.q)) (nR (mW d.q)) (jI d (gL d)))))) (fQ B (cA u))) h (λB L M u r=>gX (iE r↔DL M B L u) (!r) (bW K 100 m h) (bJ (λb o=>aI (aW n.args.a b o) ((0:Int)<=0) (0<aH n.args) (∃(y:Sl),aK m h b (o+0) (aR y)/\bJ (λf j=>aI
 (aW n.args.a f j) ((0:Int)<=1) (1<aH n.args) (∃(z:Sl),aK m h f (j+1) (aR z)/\AO y z h (λa O C=>gX (iE C↔a=O) (!C) (aA (j3 h b o 0 (aR y)) (j3 h f j 1 (aR z)) (bW K 100 m h)) (aA (j3 h b o 0 (aR y)) (j3 h f j 1 (aR z)) (∃(d:NV),Fk (λP Q D E=>∃(F:bn),aI (eO (lJ n (jI n (gL n))) (lJ d (jI d (gL d)))) (B4 h P Q D E d) (E[0]? =Option.some F) (∀(G:Bool),gX (iE G↔DP (λA t w c R g H l S=>D=Query.mk A t w c R g H l S/\nA F g H l)) (!G) (bW K 100 m h) (bJ (λI A=>aI (aW n.args.a I A) ((0:Int)<=0) (0<aH n.args) (∃(J:Sl),aK m h I (A+0) (aR J)/\lI K J 0 m h))))))))))))))))
theorem Vd{e}(h:e≠0):fin (eC e)=eC e:=by unfold fin;rw[if_neg (by simpa[eC]using h)];rfl
theorem aAJ l:fin (l,0)=mX l:=by unfold fin;grind
structure Tst(K:bo)(m:MH)(h:PH)(full:bn×Int):Prop where
 all:∀r,fin r=full->KR K m h r
theorem Tst.err{f e}(x:Tst K m h f)(d:f=eC e)(g:e≠0)(c:PH.le h h'):K (.tup [.val (.slice none 0 0),.val (.int .i64 e)]) m h':=
 (x.all (eC e) (by rw[d,Vd g])).err c rfl
theorem Tst.ok{f sl}(x:Tst K m h f)(d:f=mX l)(c:PH.le h h')(e:Ints h' sl l):K (.tup [.val (.slice sl.a sl.len sl.cap),.val (.int .i64 0)]) m h':=
 x.all (l,0) (by rw[d,aAJ]) sl h' c e
theorem z7{q}(h:¬((ks.length:Int)=arity q.op/\cR q)):B7 s ps q ks=eC 100:=by
 unfold B7;by_cases c:(ks.length:Int)=arity q.op
 .rw[if_pos c];unfold eK;rw[if_pos (.inr λe=>h ⟨c,e⟩)]
 grind
theorem tK{s:jQ}{ps op ta w co on gr od li args ks}(c:(ks.length:Int)=arity op)(d:cR (.mk op ta w co on gr od li args))(e:0<=arity op):
 B7 s ps (.mk op ta w co on gr od li args) ks=eK s ps (.mk op ta w co on gr od li args) (ks.getD 0 []) (ks.getD 1 [])/\¬(arity op<0\/¬cR (.mk op ta w co on gr od li args)):=by
 unfold B7;rw[if_pos (show(ks.length:Int)=arity (Query.op (.mk op ta w co on gr od li args))from c)]
 grind
section
variable{n:NV}{s:jQ}{ps:bn}{ta:Int}{w:Pred}{co:bn}{on:bu}{gr:bn}{od:bz}{li:Int}{args:ce}{ks:List bn}{m:MH}{h:PH}{K:bo}
theorem YZ(c:(ks.length:Int)=1):∃a,ks=[a]:=by
 match ks,c with
 |[a],_=>grind
 |[],h=>simp at h
 |_::_::_,h=>grind
theorem Ux(c:(ks.length:Int)=2):∃a b,ks=[a,b]:=by
 match ks,c with
 |[a,b],_=>grind
 |[],h=>simp at h
 |[_],h=>simp at h
 |_::_::_::_,h=>grind
theorem coQ(f:B4 h s ps (.mk 1 ta w co on gr od li args) ks n)(u:nU s)(c:Tst K m h (B7 s ps (.mk 1 ta w co on gr od li args) ks)):ID n m h K:=by
 dsimp only[ID,push_cast];have x:=f.q_.parts;have j:=x.table_;have y:=f.s_.tables.slen;refine⟨n,0,⟨0,n.q.table,⟨0,0,fS,fS,⟨none,0,0⟩⟩,⟨none,0,0⟩,⟨none,0,0⟩,⟨none,0,0⟩,⟨none,0,0⟩,0,⟨none,0,0⟩⟩,s,ps,_,ks,.mk 0 ta fO [] [] [] [] 0 [],rfl,f,tU.rep ⟨rfl,j,Fe h,⟨.nil _ _,ay⟩,⟨.nil _ _,ay⟩,⟨.nil _ _,ay⟩,⟨.nil _ _,ay⟩,rfl,.nil _ _ _ _⟩,λr o=>aD (λz=>c.err (z7 λe=>?_) aC (.refl _)) (λz=>?_)⟩
 .have:r=true:=o.2 ⟨e.1,by have:=e.2;simp[cR]at this;obtain⟨rfl,rfl,rfl,rfl,rfl,rfl⟩:=this;rfl⟩
  grind
 obtain⟨A,d⟩:=o.1 bg;simp only[Query.withOf,Query.mk.injEq]at d;obtain⟨_,_,rfl,rfl,rfl,rfl,rfl,rfl,_⟩:=d;obtain⟨B,C⟩:=tK (s:=s) (ps:=ps) (op:=1) (ta:=ta) (w:=fO) (co:=[]) (on:=[]) (gr:=[]) (od:=[]) (li:=0) (args:=args) (ks:=ks) A (by simp[cR]) az;rw[B]at c;unfold eK at c;rw[if_neg C]at c;dsimp only at c;rw[if_pos rfl]at c;refine aF (λD=>c.err (if_neg aC) aC (.refl _)) (λD=>aF (λE=>c.err (if_neg aC) aC (.refl _)) (λE=>⟨n.s,s,n.q.table,rfl,f.s_,u,λy h' g t=>?_⟩));rw[j]at t;exact c.ok (if_pos aC) g t
theorem cnJ(f:B4 h s ps (.mk 2 ta w co on gr od li args) ks n)(c:Tst K m h (B7 s ps (.mk 2 ta w co on gr od li args) ks)):IC n m h K:=by
 dsimp only[IC,push_cast];have x:=f.q_.parts;refine⟨n,1,⟨0,0,n.q.where_,⟨none,0,0⟩,⟨none,0,0⟩,⟨none,0,0⟩,⟨none,0,0⟩,0,⟨none,0,0⟩⟩,s,ps,_,ks,.mk 0 0 w [] [] [] [] 0 [],rfl,f,tU.rep ⟨rfl,rfl,x.where_,⟨.nil _ _,ay⟩,⟨.nil _ _,ay⟩,⟨.nil _ _,ay⟩,⟨.nil _ _,ay⟩,rfl,.nil _ _ _ _⟩,λr o=>aD (λB=>c.err (z7 λe=>?_) aC (.refl _)) (λB=>?_)⟩
 .have:r=true:=o.2 ⟨e.1,by have:=e.2;simp[cR]at this;obtain⟨rfl,rfl,rfl,rfl,rfl,rfl⟩:=this;rfl⟩
  grind
 obtain⟨t,d⟩:=o.1 bg;simp only[Query.withOf,Query.mk.injEq]at d;obtain⟨_,rfl,_,rfl,rfl,rfl,rfl,rfl,_⟩:=d;obtain⟨C,D⟩:=tK (s:=s) (ps:=ps) (op:=2) (ta:=0) (w:=w) (co:=[]) (on:=[]) (gr:=[]) (od:=[]) (li:=0) (args:=args) (ks:=ks) t (by simp[cR]) az;rw[C]at c;unfold eK at c;rw[if_neg D]at c;dsimp only at c;rw[if_neg az,if_pos rfl]at c;obtain⟨a,rfl⟩:=YZ t;obtain⟨u,y,g,z,F,A,G,H⟩:=f.arg (j:=0) rfl;simp only[getD_cons_zero]at c;refine⟨u,y,z,aC,aC,g,.imm aC,g,n.params,n.q.where_,a,ps,w,rfl,A,f.ps_,x.where_,aD (λE=>c.err (if_neg bg) bg (.refl _)) (λE=>⟨u,y,z,aC,aC,g,.imm aC,c.ok (if_pos bg) (.refl _) A⟩)⟩
theorem cmJ(t:B4 h s ps (.mk 5 ta w co on gr od li args) ks n)(d:Tst K m h (B7 s ps (.mk 5 ta w co on gr od li args) ks)):Iz n m h K:=by
 dsimp only[Iz,push_cast];refine⟨n,s,ps,_,ks,rfl,t,λr u=>aD (λy=>d.err ?_ aC (.refl _)) (λy=>?_)⟩
 .by_cases f:((ks.length:Int)=arity 5/\cR (.mk 5 ta w co on gr od li args))
  .obtain⟨g,o⟩:=tK (s:=s) (ps:=ps) f.1 f.2 az;rw[g];unfold eK;rw[if_neg o];dsimp only;rw[if_neg az,if_neg az,if_neg az,if_neg az,if_pos rfl,if_neg];intro c;have e:=f.2;simp[cR]at e;have:r=true:=u.2 ⟨by have:=f.1;simp[arity]at this;omega,e.1,e.2.1,e.2.2.1,e.2.2.2.1,e.2.2.2.2.1,e.2.2.2.2.2,c⟩
   grind
  .exact z7 f
 obtain⟨z,rfl,rfl,rfl,rfl,rfl,rfl,c⟩:=u.1 bg;obtain⟨g,o⟩:=tK (s:=s) (ps:=ps) (op:=5) (ta:=0) (w:=fO) (co:=[]) (on:=on) (gr:=[]) (od:=[]) (li:=0) (args:=args) (ks:=ks) (by rw[z];rfl) (by simp[cR]) az;rw[g]at d;unfold eK at d;rw[if_neg o]at d;dsimp only at d;rw[if_neg az,if_neg az,if_neg az,if_neg az,if_pos rfl,if_pos c]at d;obtain⟨a,b,rfl⟩:=Ux (ks:=ks) aC;obtain⟨A,B,C,D,F,E,G,H⟩:=t.arg (j:=0) rfl;exact⟨A,B,D,aC,aC,C,.imm aC,d.ok rfl (.refl _) E⟩
theorem cnQ(y:B4 h s ps (.mk 4 ta w co on gr od li args) ks n)(f:Tst K m h (B7 s ps (.mk 4 ta w co on gr od li args) ks)):IA n m h K:=by
 dsimp only[IA,push_cast];refine⟨n,s,ps,_,ks,rfl,y,λr D=>aD (λE=>f.err ?_ aC (.refl _)) (λE=>?_)⟩
 .by_cases o:((ks.length:Int)=arity 4/\cR (.mk 4 ta w co on gr od li args))
  .obtain⟨z,A⟩:=tK (s:=s) (ps:=ps) o.1 o.2 az;rw[z];unfold eK;rw[if_neg A];dsimp only;rw[if_neg az,if_neg az,if_neg az,if_pos rfl,if_neg];intro c;have e:=o.2;simp[cR]at e;have:r=true:=D.2 ⟨by have:=o.1;simp[arity]at this;omega,e.1,e.2.1,e.2.2.1,e.2.2.2.1,e.2.2.2.2.1,e.2.2.2.2.2,c⟩
   grind
  .exact z7 o
 obtain⟨d,rfl,rfl,rfl,rfl,rfl,rfl,c⟩:=D.1 bg;obtain⟨z,A⟩:=tK (s:=s) (ps:=ps) (op:=4) (ta:=0) (w:=fO) (co:=[]) (on:=on) (gr:=[]) (od:=[]) (li:=0) (args:=args) (ks:=ks) (by rw[d];rfl) (by simp[cR]) az;rw[z]at f;unfold eK at f;rw[if_neg A]at f;dsimp only at f;rw[if_neg az,if_neg az,if_neg az,if_pos rfl,if_pos c]at f;obtain⟨a,b,rfl⟩:=Ux (ks:=ks) aC;obtain⟨F,G,B,H,S,I,T,U⟩:=y.arg (j:=0) rfl;obtain⟨J,L,C,M,V,O,W,X⟩:=y.arg (j:=1) rfl;refine⟨F,G,H,aC,aC,B,.imm aC,J,L,M,aC,aC,C,.imm aC,aC,aC,λP h' g t=>⟨P,[a,b],rfl,⟨⟨[B,C],t,rfl,λj k d=>?_⟩,ay⟩,ay,λk d=>y.len k d,λQ e u R=>f.ok (l:=a++b) ay (g.trans u) bg⟩⟩
 match j,d with
 |0,d=>simp at d;subst d;exact⟨B,rfl,I.mono g⟩
 |1,d=>simp at d;subst d;exact⟨C,rfl,O.mono g⟩
 |_+2,d=>simp at d
theorem cmZ{op}(t:op=6\/op=7\/op=8)(o:B4 h s ps (.mk op ta w co on gr od li args) ks n)(d:Tst K m h (B7 s ps (.mk op ta w co on gr od li args) ks)):MQ n m h K:=by
 dsimp only[MQ,push_cast];have x:=o.q_.parts;have P:arity op=2:=by rcases t with rfl|rfl|rfl<;>rfl
 have c:op≠1/\op≠2/\op≠3/\op≠4/\op≠5/\op≠9/\op≠10:=by omega
 refine⟨n,2,⟨0,0,⟨0,0,fS,fS,⟨none,0,0⟩⟩,⟨none,0,0⟩,⟨none,0,0⟩,⟨none,0,0⟩,⟨none,0,0⟩,0,⟨none,0,0⟩⟩,s,ps,_,ks,.mk 0 0 fO [] [] [] [] 0 [],rfl,o,tU.rep ⟨rfl,rfl,Fe h,⟨.nil _ _,ay⟩,⟨.nil _ _,ay⟩,⟨.nil _ _,ay⟩,⟨.nil _ _,ay⟩,rfl,.nil _ _ _ _⟩,λr z=>aD (λG=>d.err (z7 λe=>?_) aC (.refl _)) (λG=>?_)⟩
 .have A:(ks.length:Int)=arity op:=e.1;have:r=true:=z.2 ⟨aC,by have:=e.2;simp[cR,c]at this;obtain⟨rfl,rfl,rfl,rfl,rfl,rfl,rfl⟩:=this;rfl⟩
  grind
 obtain⟨H,f⟩:=z.1 bg;simp only[Query.withOf,Query.mk.injEq]at f;obtain⟨_,rfl,rfl,rfl,rfl,rfl,rfl,rfl,_⟩:=f;obtain⟨I,J⟩:=tK (s:=s) (ps:=ps) (op:=op) (ta:=0) (w:=fO) (co:=[]) (on:=[]) (gr:=[]) (od:=[]) (li:=0) (args:=args) (ks:=ks) aC (by simp[cR]) aC;rw[I]at d;unfold eK at d;rw[if_neg J]at d;dsimp only at d;rw[if_neg c.1,if_neg c.2.1,if_neg c.2.2.1,if_neg c.2.2.2.1,if_neg c.2.2.2.2.1,if_neg c.2.2.2.2.2.1,if_neg c.2.2.2.2.2.2]at d;obtain⟨a,b,rfl⟩:=Ux H;obtain⟨B,C,u,D,Q,E,R,S⟩:=o.arg (j:=0) rfl;obtain⟨L,M,F,A,T,O,U,V⟩:=o.arg (j:=1) rfl;refine⟨B,C,D,aC,aC,u,.imm aC,L,M,A,aC,aC,F,.imm aC,u,F,a,b,rfl,E,O,λW g=>aD (λy=>d.err (if_neg λe=>?_) aC (.refl _)) (λy=>⟨B,C,D,aC,aC,u,.imm aC,d.ok (if_pos (g.1 bg)) (.refl _) E⟩)⟩;have e:a=b:=e;rw[g.2 e]at y;cases y
theorem cnZ(z:B4 h s ps (.mk 3 ta w co on gr od li args) ks n)(d:Tst K m h (B7 s ps (.mk 3 ta w co on gr od li args) ks)):IB n m h K:=by
 dsimp only[IB,push_cast];have x:=z.q_.parts;have E:=x.columns_.slen;have F:=x.columns_.len;refine⟨n,1,⟨0,0,⟨0,0,fS,fS,⟨none,0,0⟩⟩,n.q.columns,⟨none,0,0⟩,⟨none,0,0⟩,⟨none,0,0⟩,0,⟨none,0,0⟩⟩,s,ps,_,ks,.mk 0 0 fO co [] [] [] 0 [],rfl,z,tU.rep ⟨rfl,rfl,Fe h,x.columns_,⟨.nil _ _,ay⟩,⟨.nil _ _,ay⟩,⟨.nil _ _,ay⟩,rfl,.nil _ _ _ _⟩,λr G=>aD (λQ=>d.err (z7 λe=>?_) aC (.refl _)) (λQ=>?_)⟩
 .have:r=true:=G.2 ⟨e.1,by have:=e.2;simp[cR]at this;obtain⟨rfl,rfl,rfl,rfl,rfl,rfl⟩:=this;rfl⟩
  grind
 obtain⟨H,o⟩:=G.1 bg;simp only[Query.withOf,Query.mk.injEq]at o;obtain⟨_,rfl,rfl,_,rfl,rfl,rfl,rfl,_⟩:=o;obtain⟨R,S⟩:=tK (s:=s) (ps:=ps) (op:=3) (ta:=0) (w:=fO) (co:=co) (on:=[]) (gr:=[]) (od:=[]) (li:=0) (args:=args) (ks:=ks) H (by simp[cR]) az;rw[R]at d;unfold eK at d;rw[if_neg S]at d;dsimp only at d;rw[if_neg az,if_neg az,if_pos rfl]at d;obtain⟨a,rfl⟩:=YZ H;obtain⟨I,J,L,M,r0,O,l0,j0⟩:=z.arg (j:=0) rfl;have T:=O.slen;simp only[getD_cons_zero]at d;refine aD (λP=>d.err (if_neg λe=>e.1 ((EL E).1 P)) aC (.refl _)) (λP=>?_);have A:co≠[]:=λe=>bg
 refine⟨aC,aC,aC,aC,λ⟨i,l⟩=>i<=co.length/\l=(co.take i).map (λc=>a.getD c.toNat 0)/\gJ (λ_ c=>CQ a c=true) co i,λ⟨i,_⟩=>co.length-i,⟨(0,[]),⟨aC,ay,.zero⟩,MT⟩,?_⟩;rintro⟨i,_⟩ ⟨hi,rfl,t⟩;dsimp only;refine aF (λu=>?_) (λU sl h' B f=>?_)
 .obtain⟨c,y⟩:=eV E u;obtain⟨V,W,C,X⟩:=x.columns_.at' y;have g:¬CQ a c=true->K (.tup [.val (.slice none 0 0),.val (.int .i64 100)]) m h:=λY=>d.err (if_neg λe=>Y (e.2 i c y)) aC (.refl _);refine⟨V,W,C,aC,u,c,.imm X,aF (λZ=>g λe=>?_) (λZ=>⟨I,J,M,aC,aC,L,.imm aC,aF (λd3=>g λe=>?_) (λd3=>?_)⟩)⟩
  .have:=eY.1 e;omega
  .have:=eY.1 e;omega
  obtain⟨b2,o2,D,r2⟩:=O.inb (n:=c) aC aC;refine⟨I,J,M,aC,aC,L,.imm aC,b2,o2,D,aC,aC,_,.imm r2,?_,?_,(i+1,(co.take (i+1)).map (λc=>a.getD c.toNat 0)),⟨aC,rfl,t.succ y (eY.2 ⟨aC,aC⟩)⟩,aC,?_⟩
  .simp;omega
  .simp;omega
  .rw[jV y,map_append];exact MT
 .rw[take_of_length_le aC]at f;exact d.ok (if_pos ⟨A,t.all aC⟩) B ⟨f,bf⟩
theorem cmX(d:B4 h s ps (.mk 9 ta w co on gr od li args) ks n)(c:Tst K m h (B7 s ps (.mk 9 ta w co on gr od li args) ks)):Iy n m h K:=by
 dsimp only[Iy,push_cast];have x:=d.q_.parts;refine⟨n,s,ps,_,ks,rfl,d,n,1,⟨0,0,⟨0,0,fS,fS,⟨none,0,0⟩⟩,⟨none,0,0⟩,⟨none,0,0⟩,n.q.group,n.q.order,n.q.limit,⟨none,0,0⟩⟩,s,ps,_,ks,.mk 0 0 fO [] [] gr od li [],rfl,d,tU.rep ⟨rfl,rfl,Fe h,⟨.nil _ _,ay⟩,⟨.nil _ _,ay⟩,x.group_,x.order_,x.limit_,.nil _ _ _ _⟩,λr g=>aD (λt=>c.err (z7 λe=>?_) aC (.refl _)) (λt=>?_)⟩
 .have:r=true:=g.2 ⟨e.1,by have:=e.2;simp[cR]at this;obtain⟨rfl,rfl,rfl,rfl⟩:=this;rfl⟩
  grind
 obtain⟨o,f⟩:=g.1 bg;simp only[Query.withOf,Query.mk.injEq]at f;obtain⟨_,rfl,rfl,rfl,rfl,_,_,_,_⟩:=f;obtain⟨u,y⟩:=tK (s:=s) (ps:=ps) (op:=9) (ta:=0) (w:=fO) (co:=[]) (on:=[]) (gr:=gr) (od:=od) (li:=li) (args:=args) (ks:=ks) o (by simp[cR]) az;rw[u]at c;unfold eK at c;rw[if_neg y]at c;dsimp only at c;rw[if_neg az,if_neg az,if_neg az,if_neg az,if_neg az,if_pos rfl]at c;obtain⟨a,rfl⟩:=YZ o;obtain⟨z,A,B,C,G,D,H,I⟩:=d.arg (j:=0) rfl;refine⟨n,s,ps,_,[a],a,rfl,d,rfl,λJ E=>aD (λF=>c.err (if_neg λe=>?_) aC (.refl _)) (λF=>⟨z,A,C,aC,aC,B,.imm aC,c.ok (if_pos ?_) (.refl _) D⟩)⟩
 .grind
 grind
theorem cmQ(d:B4 h s ps (.mk 10 ta w co on gr od li args) ks n)(c:Tst K m h (B7 s ps (.mk 10 ta w co on gr od li args) ks)):Ix n m h K:=by
 dsimp only[Ix,push_cast];have x:=d.q_.parts;refine⟨n,s,ps,_,ks,rfl,d,n,2,⟨0,0,⟨0,0,fS,fS,⟨none,0,0⟩⟩,⟨none,0,0⟩,⟨none,0,0⟩,n.q.group,n.q.order,n.q.limit,⟨none,0,0⟩⟩,s,ps,_,ks,.mk 0 0 fO [] [] gr od li [],rfl,d,tU.rep ⟨rfl,rfl,Fe h,⟨.nil _ _,ay⟩,⟨.nil _ _,ay⟩,x.group_,x.order_,x.limit_,.nil _ _ _ _⟩,λr t=>aD (λD=>c.err (z7 λe=>?_) aC (.refl _)) (λD=>?_)⟩
 .have:r=true:=t.2 ⟨e.1,by have:=e.2;simp[cR]at this;obtain⟨rfl,rfl,rfl,rfl⟩:=this;rfl⟩
  grind
 obtain⟨u,f⟩:=t.1 bg;simp only[Query.withOf,Query.mk.injEq]at f;obtain⟨_,rfl,rfl,rfl,rfl,_,_,_,_⟩:=f;obtain⟨E,F⟩:=tK (s:=s) (ps:=ps) (op:=10) (ta:=0) (w:=fO) (co:=[]) (on:=[]) (gr:=gr) (od:=od) (li:=li) (args:=args) (ks:=ks) u (by simp[cR]) az;rw[E]at c;unfold eK at c;rw[if_neg F]at c;dsimp only at c;rw[if_neg az,if_neg az,if_neg az,if_neg az,if_neg az,if_neg az,if_pos rfl]at c;obtain⟨a,b,rfl⟩:=Ux u;obtain⟨y,z,g,A,P,B,Q,R⟩:=d.arg (j:=0) rfl;obtain⟨G,H,C,I,S,J,T,U⟩:=d.arg (j:=1) rfl;refine⟨y,z,A,aC,aC,g,.imm aC,G,H,I,aC,aC,C,.imm aC,g,C,a,b,rfl,B,J,λV o=>aD (λL=>⟨aC,aC,c.err (if_neg λe=>?_) aC (.refl _)⟩) (λL=>⟨aC,aC,n,s,ps,_,[a,b],a,rfl,d,rfl,λW M=>aD (λO=>c.err (if_neg λe=>?_) aC (.refl _)) (λO=>⟨y,z,A,aC,aC,g,.imm aC,c.ok (if_pos ⟨o.1 bg,?_⟩) (.refl _) B⟩)⟩)⟩
 .grind
 .grind
 .grind
end
def fv(f:Nat):CV:=.val (.func (.func f) #[] #[])
def Uf:Vc.Spec:=λc m h K=>∃op,c=[cI op]/\
 branch (op==1) (K (fv 187) m h) (branch (op==2) (K (fv 188) m h) (branch (op==3) (K (fv 189) m h) (branch (op==4) (K (fv 190) m h) (branch (op==5) (K (fv 191) m h) (branch (op==6) (K (fv 192) m h) (branch (op==7) (K (fv 192) m h) (branch (op==8) (K (fv 192) m h) (branch (op==9) (K (fv 193) m h) (branch (op==10) (K (fv 194) m h) (K (.val .nilFunc) m h))))))))))
noncomputable def cdX(N:Nat)(sc:bZ)(p:Sl)(v:QV)(m:MH):=
 dE [(75,Gu N),(141,Uf),(187,B8 (· =1)),(188,B8 (· =2)),(189,B8 (· =3)),(190,B8 (· =4)),(191,B8 (· =5)),(192,B8 (λop=>op=6\/op=7\/op=8)),(193,B8 (· =9)),(194,B8 (· =10))] [(3,{A:=Nat×bx×PH,st:=λ⟨i,c,h⟩=>bU 62 65 [(1,sv p),(3,.at (.ptr 3 0)),(5,.at (.ptr 5 0)),(8,.at (.ptr 8 0)),(21,sv v.args),(22,iv v.args.len),(23,iv i)] [(3,.cells 27 (sc.enc.map .val)),(5,.cells 41 (v.enc.map .val)),(8,.cells 190 ((sc.enc++eS p++v.enc).map .val++[.lst 41])),(41,.lst 36 1 (c.map eS))] m h})] [] [] false
abbrev K3:=oN Value.nilFunc
abbrev p8 a:=Value.func (Fn.func a) sF sF
attribute [push_cast] K3 p8
def MY(op:Int)(m:MH)(h:PH)(K:bo):=
  ∀(b:Nat)(e:MH),bG (cF m h b) (bK m e b (bF Value.nilFunc Value.nilFunc (bF Value.nilFunc Value.nilFunc (bF Value.nilFunc Value.nilFunc (bF Value.nilFunc Value.nilFunc (bF Value.nilFunc Value.nilFunc K3))))) 241) (jN (λc E=>aA (yA e b (gG c E 0)) (11<=c.size) (∀(d:MH),bK e d b (bF Value.nilFunc (p8 187) (bF (p8 188) (p8 189) (bF (p8 190) (p8 191) (bF (p8 192) (p8 192) (bF (p8 192) (p8 193) (fA (p8 194) 11 c)))))) E->aY op 0 (K (CV.val Value.nilFunc) d h) (iA op 11 (K (CV.val Value.nilFunc) d h) (aA (cH op) (op<11) (∃(y:Option Nat),aK d h b (0+gY op 1) (oN (bOZ y))/\K (CV.val (bOZ y)) d h))))))
abbrev yW(a:Nat×bx×PH)(b:bZ)(c:Sl)(d:QV)(e:Sl->bt)(g:NV->CV)(i:Query->Prop)(j:(bn×Int)->Sl->PH->Prop):=bY (oU a) 1 (wH a) (λx y=>∃(z:NV),Fk (λf A o B=>aA (vG (kQ (bF (Ak b) (Aj b) (bF (dP c) (fV d.op) (bF (rW d) (sO d) (bF (fV (sT d)) (nR (mW d)) (e x))))))=vG (g z)) (B4 y f A o B z) (aA (nU f) (i o) (∀(t:bn×Int),fin t=B7 f A o B->∀(C:Sl)(u:PH),bQ y u (Ints u C t.1) (j t C u)))))
abbrev y8 a b:=bF (yQ (mW a)) (fV (pY (mW a))) (bF (tT (mW a)) (BX (mW a)) (bF (nR (pJ a)) (yQ (pJ a)) (bF (fV (pY (pJ a))) (tT (pJ a)) b)))
attribute [push_cast] yW y8
def Xj N sc p v m h K:=
  OU (λI x=>aA (I x) (aJ p) (aA (eP 3) eN (aA iH (aJ v.args) (aA (vV v) (bA x.1) (aA (cG sc) (eJ v) (aA (eQ (oQ 190 (gA (Ke sc) (Kd sc) (gA (yG p) (j9 v.op) (yT v::BQ v v.on (Ef v) (Eg v) (gA (j9 v.limit) (yG v.args) (wA (At.lst 41)))))))) (Ii 36 x.2.1) (dY m m h (oU x)))))))) (λI e x=>I x->aY (↑x.1:Int) (aH v.args) (bJ (λb o=>aI (aW v.args.a b o) (0<=(↑x.1:Int)) ((↑x.1:Int)<aH v.args) (∃(y:QV),aK m (oU x) b (o+bM x.1 21) y.enc/\Ko sc p y (oU x) N (λs f q g c=>cV (aL s f q).2 0 (K (CV.tup (tO EZ (CV.val (fV (aL s f q).2)))) m c) (aA (kB (wH x)) (dO (wH x)) (∃(d:Nat×bx×PH),aA (I d) (e d<e x) (aA (aJ p) jR (aA eN iH (aA (aJ v.args)
 (vV v) (aA (gK (bE x.1 1)=bO d.1) (cG sc) (aA (eJ v) (eQ (oQ 190 (gA (Ke sc) (Kd sc) (gA (yG p) (j9 v.op) (yT v::BQ v v.on (Ef v) (Eg v) (gA (j9 v.limit) (yG v.args) (wA (At.lst 41)))))))) (cZ (bR 36 1 (dL (wH x) (aR g))=mV 36 d.2.1) m m c (oU d))))))))))))) (AP v.op (λo=>dR (o==1) (yW x sc p v (λs=>y8 v (BV (pJ v) v v.on s)) (λn=>lJ n (jI n (gL n))) (λq=>q.op=1) (λr s c=>pP (r.2 !=0) (bW K r.2 m c) (aH s) 12 (bW K 2 m c) (lI K s 0 m c))) (o==2) (yW x sc p v (λs=>y8 v (BV (pJ v) v v.on s)) (λn=>lJ n (jI n (gL n))) (λq=>q.op=2) (λr s c=>pP (r.2 !=0) (bW K r.2 m c) (aH s) 12 (bW K 2 m c) (lI K s 0 m c))) (dR (o==3) (yW
 x sc p v (λs=>y8 v (BV (pJ v) v v.on s)) (λn=>lJ n (jI n (gL n))) (λq=>q.op=3) (λr s c=>pP (r.2 !=0) (bW K r.2 m c) (aH s) 12 (bW K 2 m c) (lI K s 0 m c))) (o==4) (yW x sc p v (λs=>y8 v (BV (pJ v) v v.on s)) (λn=>lJ n (jI n (gL n))) (λq=>q.op=4) (λr s c=>pP (r.2 !=0) (bW K r.2 m c) (aH s) 12 (bW K 2 m c) (lI K s 0 m c))) (dR (o==5) (yW x sc p v (λs=>y8 v (BV (pJ v) v v.on s)) (λn=>lJ n (jI n (gL n))) (λq=>q.op=5) (λr s c=>pP (r.2 !=0) (bW K r.2 m c) (aH s) 12 (bW K 2 m c) (lI K s 0 m c))) (o==6) (yW x sc p v (λs=>y8 v (BV (pJ v) v v.on s)) (λn=>lJ n (jI n (gL n))) (λq=>q.op=6\/q.op=7\/q.op=8) (λr s c
 =>pP (r.2 !=0) (bW K r.2 m c) (aH s) 12 (bW K 2 m c) (lI K s 0 m c))) (dR (o==7) (yW x sc p v (λs=>y8 v (BV (pJ v) v v.on s)) (λn=>lJ n (jI n (gL n))) (λq=>q.op=6\/q.op=7\/q.op=8) (λr s c=>pP (r.2 !=0) (bW K r.2 m c) (aH s) 12 (bW K 2 m c) (lI K s 0 m c))) (o==8) (yW x sc p v (λs=>y8 v (BV (pJ v) v v.on s)) (λn=>lJ n (jI n (gL n))) (λq=>q.op=6\/q.op=7\/q.op=8) (λr s c=>pP (r.2 !=0) (bW K r.2 m c) (aH s) 12 (bW K 2 m c) (lI K s 0 m c))) (dR (o==9) (yW x sc p v (λs=>y8 v (BV (pJ v) v v.on s)) (λn=>lJ n (jI n (gL n))) (λq=>q.op=9) (λr s c=>pP (r.2 !=0) (bW K r.2 m c) (aH s) 12 (bW K 2 m c) (lI K s 0 m c))) (o==10)
 (yW x sc p v (λs=>y8 v (BV (pJ v) v v.on s)) (λn=>lJ n (jI n (gL n))) (λq=>q.op=10) (λr s c=>pP (r.2 !=0) (bW K r.2 m c) (aH s) 12 (bW K 2 m c) (lI K s 0 m c))) (bW K 100 m (oU x)))))))))
theorem aiQ:bm 141 Uf:=by
 refine EN func141 ?_;rintro u m h K ⟨op,rfl,f⟩;refine⟨qV [] [] [] [] [241] [] false,rfl,aG,MY op m h (lR h K),ax,?_⟩;show MY op m h (lR h K);dsimp only[MY,push_cast];intro b L t g;refine⟨_,_,⟨g.at_⟩,az,λy j=>?_⟩;have c:Sub m y:=((Sub.refl m).upd t.m_ g.other).upd t.m_ j.other;have e:=j.at_
 have d:∀k,¬(1<=op/\op<=10)->op=k->K (.val .nilFunc) m h:=λk M _=>by
  have:(op==1)=false/\(op==2)=false/\(op==3)=false/\(op==4)=false/\(op==5)=false/\(op==6)=false/\(op==7)=false/\(op==8)=false/\(op==9)=false/\(op==10)=false:=by
   grind
  obtain⟨z,A,B,C,D,E,F,G,H,o⟩:=this;rw[z,A,B,C,D,E,F,G,H,o]at f;exact f
 refine aF (λI=>.sub c (d _ aC rfl)) (λI=>aF (λJ=>.sub c (d _ aC rfl)) (λJ=>⟨aC,aC,?_⟩));have:op=0\/op=1\/op=2\/op=3\/op=4\/op=5\/op=6\/op=7\/op=8\/op=9\/op=10:=by omega
 rcases this with rfl|rfl|rfl|rfl|rfl|rfl|rfl|rfl|rfl|rfl|rfl
 .exact⟨none,.lent _ _ _ e rfl,.sub c (d 0 aC rfl)⟩
 .exact⟨some 187,.lent _ _ _ e rfl,.sub c f⟩
 .exact⟨some 188,.lent _ _ _ e rfl,.sub c f⟩
 .exact⟨some 189,.lent _ _ _ e rfl,.sub c f⟩
 .exact⟨some 190,.lent _ _ _ e rfl,.sub c f⟩
 .exact⟨some 191,.lent _ _ _ e rfl,.sub c f⟩
 .exact⟨some 192,.lent _ _ _ e rfl,.sub c f⟩
 .exact⟨some 192,.lent _ _ _ e rfl,.sub c f⟩
 .exact⟨some 192,.lent _ _ _ e rfl,.sub c f⟩
 .exact⟨some 193,.lent _ _ _ e rfl,.sub c f⟩
 .exact⟨some 194,.lent _ _ _ e rfl,.sub c f⟩
theorem aaQ:bm 187 (B8 (· =1)):=by
 refine iQ func187 ?_;rintro d m h K ⟨n,s,ps,q,ks,rfl,e,f,c,g⟩;obtain⟨op,ta,w,co,on,gr,od,li,args⟩:=q;refine⟨dE [(236,D7),(69,u7)] [] [] [] false,rfl,(aE xZ (aE EU aG)),ID n m h K,ax,?_⟩;dsimp only[ID,push_cast];cases (show op=1 from c);exact coQ e f ⟨g⟩
theorem Z9:bm 188 (B8 (· =2)):=by
 refine iQ func188 ?_;rintro d m h K ⟨n,s,ps,q,ks,rfl,e,g,c,f⟩;obtain⟨op,ta,w,co,on,gr,od,li,args⟩:=q;refine⟨dE [(236,D7),(138,u6)] [] [] [] false,rfl,(aE xZ (aE Jx aG)),IC n m h K,ax,?_⟩;dsimp only[IC,push_cast];cases (show op=2 from c);exact cnJ e ⟨f⟩
theorem Z8:bm 189 (B8 (· =3)):=by
 refine iQ func189 ?_;rintro d m h K ⟨n,s,ps,q,ks,rfl,e,g,c,f⟩;obtain⟨op,ta,w,co,on,gr,od,li,args⟩:=q;refine⟨bDZ n m h,rfl,(aE xZ aG),IB n m h K,ax,?_⟩;dsimp only[IB,push_cast];cases (show op=3 from c);exact cnZ e ⟨f⟩
theorem Z6(c:bm 154 LR):bm 190 (B8 (· =4)):=by
 refine iQ func190 ?_;rintro e m h K ⟨n,s,ps,q,ks,rfl,f,j,d,g⟩;obtain⟨op,ta,w,co,on,gr,od,li,args⟩:=q;refine⟨dE [(237,Rz),(154,LR)] [] [] [] false,rfl,(aE Q1 (aE c aG)),IA n m h K,ax,?_⟩;dsimp only[IA,push_cast];cases (show op=4 from d);exact cnQ f ⟨g⟩
theorem Z5:bm 191 (B8 (· =5)):=by
 refine iQ func191 ?_;rintro d m h K ⟨n,s,ps,q,ks,rfl,e,g,c,f⟩;obtain⟨op,ta,w,co,on,gr,od,li,args⟩:=q;refine⟨dE [(237,Rz)] [] [] [] false,rfl,(aE Q1 aG),Iz n m h K,ax,?_⟩;dsimp only[Iz,push_cast];cases (show op=5 from c);exact cmJ e ⟨f⟩
theorem Z4:bm 192 (B8 (λop=>op=6\/op=7\/op=8)):=by
 refine iQ func192 ?_;rintro d m h K ⟨n,s,ps,q,ks,rfl,e,g,c,f⟩;obtain⟨op,ta,w,co,on,gr,od,li,args⟩:=q;refine⟨dE [(236,D7),(152,Dj)] [] [] [] false,rfl,(aE xZ (aE Gm aG)),MQ n m h K,ax,?_⟩;exact cmZ c e ⟨f⟩
theorem Z3:bm 193 (B8 (· =9)):=by
 refine iQ func193 ?_;rintro d m h K ⟨n,s,ps,q,ks,rfl,e,g,c,f⟩;obtain⟨op,ta,w,co,on,gr,od,li,args⟩:=q;refine⟨dE [(236,D7),(238,Ru),(239,Rv)] [] [] [] false,rfl,(aE xZ (aE Q0 (aE QZ aG))),Iy n m h K,ax,?_⟩;dsimp only[Iy,push_cast];cases (show op=9 from c);exact cmX e ⟨f⟩
theorem Z2:bm 194 (B8 (· =10)):=by
 refine iQ func194 ?_;rintro d m h K ⟨n,s,ps,q,ks,rfl,e,g,c,f⟩;obtain⟨op,ta,w,co,on,gr,od,li,args⟩:=q;refine⟨dE [(236,D7),(152,Dj),(238,Ru),(239,Rv)] [] [] [] false,rfl,(aE xZ (aE Gm (aE Q0 (aE QZ aG)))),Ix n m h K,ax,?_⟩;dsimp only[Ix,push_cast];cases (show op=10 from c);exact cmQ e ⟨f⟩
theorem aBJ(F:bm 154 LR):∀N,bm 75 (Gu N)
 |0=>by
  refine fK (fn:=Tryz.f75) (c:=dX Tryz.f75) func75 rfl az ?_;rintro S m h K ⟨sc,p,v,s,ps,q,rfl,_,_,_,_,hN,_⟩;omega
 |N+1=>by
  refine iQ func75 ?_;rintro S m h K ⟨sc,p,v,s,ps,q,rfl,hs,C,hp,hq,hN,B⟩;refine⟨cdX N sc p v m,rfl,(aE (aBJ F N) (aE aiQ (aE aaQ (aE Z9 (aE Z8 (aE (Z6 F) (aE Z5 (aE Z4 (aE Z3 (aE Z2 aG)))))))))),Xj N sc p v m h K,ax,?_⟩;dsimp only[Xj,push_cast];have T:=@C3 q;have U:=hq;obtain⟨op,ta,w,co,on,gr,od,li,args⟩:=q;have x:=hq.parts;have D:=x.op_;have hl:=x.args_.slen;have a':=x.args_.len;simp only[Query.args]at T;simp only[aL]at B;refine⟨λ⟨i,G,L⟩=>i<=args.length/\PH.le h L/\∃ks,Slices L G ks/\(args.take i).map (aL s ps)=ks.map (λk=>(k,0)),λ⟨i,_,_⟩=>args.length-i,⟨(0,[],h),⟨aC,.refl _,[],⟨rfl,λj s k V=>by simp at V⟩,ay⟩,MT⟩,?_⟩;rintro⟨i,G,L⟩ ⟨hi,y,ks,P,A⟩;have W:ks.length=i:=by have:=congrArg List.length A;grind
  have X:G.length=i:=by rw[P.1,W]
  dsimp only;refine aF (λH=>?_) (λa0=>?_)
  .obtain⟨Q,I⟩:=eV hl H;obtain⟨b1,o1,u,Y,r1,Z⟩:=(x.args_.mono y).at I;refine⟨b1,o1,Y,aC,H,u,.imm r1,sc,p,u,s,ps,Q,rfl,hs.mono y,C,hp.mono y,Z,?_,λg h' d E=>aD (λV=>?_) (λV=>?_)⟩
   .grind
   .have he:(aL s ps Q).2≠0:=bg
    rw[Hb he A I rfl]at B;exact B.err (y.trans d) (if_neg he)
   .have he:(aL s ps Q).2=0:=bg
    refine⟨bf,bf,(i+1,G++[g],h'),⟨aC,y.trans d,ks++[(aL s ps Q).1],(P.mono d).snoc E,?_⟩,aC,?_⟩
    .rw[jV I,A,map_append]
     grind
    .rw[map_append];exact MT
  .rw[take_of_length_le aC]at A;rw[uX A]at B;simp only[if_true]at B;have B:KR K m h (B7 s ps (.mk op ta w co on gr od li args) ks):=B
   have o:∀(g:Sl)(h':PH),PH.le L h'->dC h' g 1 (G.map eS)->B4 h' s ps (.mk op ta w co on gr od li args) ks ⟨sc,p,v,g⟩:=λg h' d f=>by
    refine⟨(hs.mono y).mono d,(hp.mono y).mono d,(U.mono y).mono d,⟨⟨G,f,P.1.symm,λj k hk=>?_⟩,aC⟩,λk hk=>?_⟩
    .have hj:j<G.length:=bg
     exact⟨G[j],getElem?_eq_getElem hj,(P.2 j _ _ (getElem?_eq_getElem hj) hk).mono d⟩
    .obtain⟨j,hj⟩:=mem_iff_getElem?.1 hk;have:=Mn A j
     grind
   have t:∀(h':PH),PH.le L h'->∀r,fin r=B7 s ps (.mk op ta w co on gr od li args) ks->∀(g:Sl)(z:PH),PH.le h' z->Ints z g r.1->
    branch (r.2 !=0) (K (.tup [.val (.slice none 0 0),.val (.int .i64 r.2)]) m z) (branch (decide ((g.len:Int)>12)) (K (.tup [.val (.slice none 0 0),.val (.int .i64 2)]) m z) (K (.tup [.val (.slice g.a g.len g.cap),.val (.int .i64 0)]) m z)):=by
    intro h' d r hr g z M E;have J:PH.le h z:=(y.trans d).trans M;rw[<-hr]at B;have X:=E.slen;refine aD (λR=>?_) (λR=>aF (λd2=>?_) (λd2=>?_))
    .have R:r.2≠0:=bg
     exact B.err J (by unfold fin;grind)
    .have R:r.2=0:=bg
     exact B.big (l:=r.1) J (by unfold fin;grind) aC
    .have R:r.2=0:=bg
     exact B.ok (l:=r.1) J (by unfold fin;grind) aC E.row
   refine⟨v.op,rfl,?_⟩;rw[D];refine aD (λc1 g h' d f=>⟨⟨sc,p,v,g⟩,s,ps,_,ks,by rw[<-D],o g h' d f,C,beq_iff_eq.1 c1,t h' d⟩) (λc1=>?_);refine aD (λc2 g h' d f=>⟨⟨sc,p,v,g⟩,s,ps,_,ks,by rw[<-D],o g h' d f,C,beq_iff_eq.1 c2,t h' d⟩) (λc2=>?_);refine aD (λc3 g h' d f=>⟨⟨sc,p,v,g⟩,s,ps,_,ks,by rw[<-D],o g h' d f,C,beq_iff_eq.1 c3,t h' d⟩) (λc3=>?_);refine aD (λc4 g h' d f=>⟨⟨sc,p,v,g⟩,s,ps,_,ks,by rw[<-D],o g h' d f,C,beq_iff_eq.1 c4,t h' d⟩) (λc4=>?_);refine aD (λc5 g h' d f=>⟨⟨sc,p,v,g⟩,s,ps,_,ks,by rw[<-D],o g h' d f,C,beq_iff_eq.1 c5,t h' d⟩) (λc5=>?_);refine aD (λc6 g h' d f=>⟨⟨sc,p,v,g⟩,s,ps,_,ks,by rw[<-D],o g h' d f,C,.inl (beq_iff_eq.1 c6),t h' d⟩) (λc6=>?_);refine aD (λc7 g h' d f=>⟨⟨sc,p,v,g⟩,s,ps,_,ks,by rw[<-D],o g h' d f,C,.inr (.inl (beq_iff_eq.1 c7)),t h' d⟩) (λc7=>?_);refine aD (λc8 g h' d f=>⟨⟨sc,p,v,g⟩,s,ps,_,ks,by rw[<-D],o g h' d f,C,.inr (.inr (beq_iff_eq.1 c8)),t h' d⟩) (λc8=>?_);refine aD (λc9 g h' d f=>⟨⟨sc,p,v,g⟩,s,ps,_,ks,by rw[<-D],o g h' d f,C,beq_iff_eq.1 c9,t h' d⟩) (λc9=>?_);refine aD (λO g h' d f=>⟨⟨sc,p,v,g⟩,s,ps,_,ks,by rw[<-D],o g h' d f,C,beq_iff_eq.1 O,t h' d⟩) (λO=>B.err y ?_);refine z7 λe=>?_;have:arity op= -1:=by simp only[arity];grind
   have:=e.1;simp only[Query.op]at this;omega
def jG:PV:=⟨0,0,fS,fS,⟨none,0,0⟩⟩
theorem UJ(l:bu):fN 2 (l.map sH):=by
 constructor
 .intro e c;obtain⟨x,_,rfl⟩:=mem_map.1 c;rfl
 .intro e c u d;obtain⟨x,_,rfl⟩:=mem_map.1 c;simp[sH]at d;rcases d with rfl|rfl<;>rfl
theorem UI(l:bz):fN 2 (l.map Dz):=by
 constructor
 .intro e c;obtain⟨x,_,rfl⟩:=mem_map.1 c;rfl
 .intro e c u d;obtain⟨x,_,rfl⟩:=mem_map.1 c;simp[Dz]at d;rcases d with rfl|rfl<;>rfl
theorem PM{n c α}{enc:α->bt}{l}(r:dC h ⟨none,n,c⟩ sz (l.map enc)):l=[]:=by
 rcases r.row with e|⟨b,o,e,_⟩
 .simpa using e
 .cases e
end Go.Ps
