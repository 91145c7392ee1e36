/- Own work. -/
import Derived.Test.YtjpjambjoceofaaGreatDoorRb
set_option linter.unusedVariables false
set_option linter.unusedSimpArgs false
namespace Go.Ps
open Go Go.Vc Go.Proofs List Tryz
variable{K:cr}{m:MH}{h:PH}{s:jB}{ps:cq}{cb:Nat}{sc:bW}{v:QV}{p:Pred}{l:cq}{i:Nat}{N:Nat}{m':MH}{h':PH}{co:cq}{gr:cq}{od:cv}{ta:Int}{li:Int}{xs:List cn}{sz:Nat}{ks:List cq}{rs:cq}{r:Sl}{a:cq}{b:Nat}
theorem SF:Tryz.prog.underlying 9=some .string:=ax
theorem BS:KeyLaw Tryz.prog 9 (λv=>∃s,v= .string s):=by
 refine⟨⟨_,SF⟩,?_,?_,?_⟩
 .rintro _ w b ⟨s,rfl⟩
  have e:∀n:Nat,(Instr.checkKey b (n+1) 9 (.string s)).run Tryz.prog w= .ok () w:=λn=>by
   unfold Instr.checkKey;simp only[Sem.run_bind,run_underlying SF,Result.andThen];simp
  exact e 9999
 .rintro _ _ w ⟨s,rfl⟩ ⟨t,rfl⟩;refine⟨_,run_equalIn_string w 9999 9 s t SF,?_⟩;rw[beq_iff_eq];exact⟨λe=>by rw[zF e],λe=>bg⟩
 .rintro d _ _ r c ⟨s,rfl⟩ ⟨t,rfl⟩ h;rw[SF]at c;cases c;simp only[Instr.sameNow,bx]at h;subst h;rw[beq_toListBytes,beq_iff_eq];exact⟨λe=>by rw[zF e],λe=>bg⟩
def fJ{α:Type}(T:List α->α->Prop)(l:List α)(i:Nat):Prop:=∀j x,j<i->l[j]? =some x->T (l.take j) x
def Good{α:Type}(T:List α->α->Prop)(l:List α):Prop:=∀(j:Nat) x,l[j]? =some x->T (l.take j) x
theorem fJ.zero{α:Type}{T:List α->α->Prop}{l:List α}:fJ T l 0:=λ_ _ h=>by omega
theorem fJ.succ{α:Type}{T:List α->α->Prop}{l:List α}{x:α}(h:fJ T l i)(d:l[i]? =some x)(t:T (l.take i) x):fJ T l (i+1):=by
 intro j y f c;by_cases e:j=i
 .grind
 .exact h j y aD c
theorem fJ.all{α:Type}{T:List α->α->Prop}{l:List α}(h:fJ T l i)(d:l.length<=i):Good T l:=λj x c=>h j x bg c
theorem Good.not{α:Type}{T:List α->α->Prop}{l:List α}{x:α}(c:l[i]? =some x)(t:¬T (l.take i) x):¬Good T l:=λh=>t (h i x c)
def Wq(d:List qJ)(c:qJ):Prop:=oT c.name=true/\eT c.kind=true/\c.name∉d.map qJ.name
def DH(c:List C1)(t:C1):Prop:=oT t.name=true/\1<=t.key/\t.key<=t.columns.length/\t.name∉c.map C1.name/\Good Wq t.columns
def jL(s:jB)(t:Int):cq:=if t<0 then[]else match s.tables[t.toNat]? with|none=>[]|some t=>t.columns.map qJ.kind
def Ch(s:jB)(t:Int):Bool:=decide (0<=t)&&decide (t<s.tables.length)
def aS(v:bW):CV:=.val (.agg ⟨v.enc⟩)
def mC(s:jB):Prop:=∀t∈s.tables,t.columns.length<=8
def b7Z:Vc.Spec:=λc m h K=>∃v s t,c=[aS v,cI t]/\iA h s v/\K (cB (Ch s t)) m h
def yJ:Vc.Spec:=λc m h K=>∃v s t,c=[aS v,cI t]/\iA h s v/\mC s/\∀d h',PH.le h h'->Ints h' d (jL s t)->K (cS d) m h'
noncomputable def Tq(m:MH)(h:PH):Ctx:=
 dD [] [(5,{A:=Nat×Sl×cq,st:=λx=>bQ 35 37 [(5,.at (.lst 32)),(22,sv x.2.1),(23,iv x.2.1.len),(24,iv x.1)] [(32,.lst 3 1 (x.2.2.map eI))] m h})] [] [] false
noncomputable def a7Z(m:MH)(h:PH):Ctx:=
 dD [(175,b7Z)] [(5,{A:=Nat×Sl×cq,st:=λx=>bQ 38 40 [(5,.at (.lst 19)),(25,sv x.2.1),(26,iv x.2.1.len),(27,iv x.1)] [(19,.lst 3 1 (x.2.2.map eI))] m h})] [] [] false
noncomputable abbrev lW(a:bW):Int:=aH a.tables
attribute [push_cast] lW
def Rp(v:bW)(t:Int)(m:MH)(h:PH)(K:cr):Prop:=
  gA t 0 (K (AQ (decide (t<lW v))) m h) (K aZ m h)
abbrev eA(a:Option Addr)(b:Int)(c:Sl)(d:Nat->Nat->Sl->Prop):Prop:=bI (λx e=>aA (bK a x e) (0<=b) (b<aH c/\∃(f:Sl),d x e f))
noncomputable abbrev xJ(a:bW):Option Addr:=a.tables.a
noncomputable abbrev aY(a:Sl):cn:=lD (hJ a)
abbrev Nb(a:bW)(b:Int)(c:MH)(d:PH)(e g:Nat->Nat)(i:Nat)(j:Sl->Sl)(k:Sl->(Nat×Sl×cq->Prop)->(Nat×Sl×cq)->Prop)(l:(Nat×Sl×cq->Prop)->(Nat×Sl×cq->Nat)->(Nat×Sl×cq)->Prop):Prop:=eA (xJ a) b a.tables (λx t n=>aU c d (e x) (fT (g t) b 5+i) (aY (j n))/\∃(o:Nat×Sl×cq->Prop)(u:Nat×Sl×cq->Nat),(∃(f:Nat×Sl×cq),k n o f)/\∀(f:Nat×Sl×cq),l o u f)
abbrev bS(a b:Sl):Prop:=sQs a=sQs b
noncomputable abbrev nR(a:Nat×Sl×cq):Sl:=a.2.1
abbrev cK(a b:Sl):Prop:=bD (Hs a.len) b.len
abbrev qG(a b:Nat)(c:List cn):Prop:=Option.some (Own.lst a b [])=Option.some (Own.lst a b c)
abbrev sL(a:List cn):Prop:=qG 3 1 a
noncomputable abbrev jK(a:cq):List cn:=List.map eI a
noncomputable abbrev xA(a:Nat×Sl×cq):List cn:=jK a.2.2
abbrev iM(a:Nat):Prop:=a<=140737488355328
noncomputable abbrev qR(a:List cn)(b:Nat):Nat:=a.length+b
abbrev A0(a:List cn):Prop:=a.length<140737488355328
abbrev oZ(a:Prop)(b:List cn)(c:Nat)(d:Prop):Prop:=aA a (iM (qR b 1*c)) (A0 b/\d)
abbrev Na(a:Prop)(b:Nat×Sl×cq)(c:Int)(d:Nat->Nat->qJ->Prop)(e:Nat)(g:qJ->(Nat×Sl×cq)->Prop)(i:Prop):Prop:=a->aX (↑b.1:Int) (aH (nR b)) (bI (λx f=>aA (bK (nR b).a x f) (c<=(↑b.1:Int)) ((↑b.1:Int)<aH (nR b)/\∃(j:qJ),oZ (d x f j) (xA b) e (∃(n:Nat×Sl×cq),g j n)))) i
noncomputable abbrev qD(a:ByteArray)(b:Int):cn:=rL (Value.string a) (eN b)
noncomputable abbrev kJ(a:cn):List cn:=[a]
noncomputable abbrev fK(a:List cn)(b:cn):List cn:=a++kJ b
abbrev sM(a:List cn)(b:Int)(c:List cn):Prop:=Option.some (Own.lst 3 1 (fK a (bG b)))=Option.some (Own.lst 3 1 c)
abbrev jJ(a:Sl->PH->Prop):Prop:=∀(x:Sl)(c:PH),a x c
abbrev cZ(a b:PH)(c d:Prop):Prop:=PH.le a b->c->d
abbrev bU(a:PH)(b:Nat)(c:List cn)(d:Sl->PH->Prop):Prop:=jJ (λx e=>cZ a e (cC e x b c) (d x e))
abbrev vP(a:Nat->Nat->Option Value)(b:List cn)(c:cr)(d:Nat->Option Obj):Prop:=bU a 1 b (λx e=>c (Dj x) d e)
attribute [push_cast] eA xJ aY Nb bS nR cK qG sL jK xA iM qR A0 oZ Na qD kJ fK sM jJ cZ bU vP
def Vi(v:bW)(t:Int)(m:MH)(h:PH)(K:cr):Prop:=
  aX t 0 (K jQ m h) (gA t (lW v) (K jQ m h) (Nb v t m h (λb=>b) (λo=>o) 1 (λy=>y) (λy I x=>aA (I x) (eL 32) (aA (bS y (nR x)) (cK y (nR x)) (aA (bB x.1) (sL (xA x)) (aA (m=m) (h=h) True)))) (λI d x=>Na (I x) x 0 (λb o y=>aU m h b (bN o x.1 2) (qD y.name y.kind)) 8 (λy c=>aA (I c) (d c<d x) (aA (eL 32) (bS (nR x) (nR c)) (aA (cK (nR x) (nR c)) (bD (gG (bF x.1 1)) c.1) (aA (sM (xA x) y.kind (xA c)) (m=m) (bL h h))))) (vP h (xA x) K m))))
abbrev xK(a:bW->jB->Prop):Prop:=∃(x:bW)(c:jB),a x c
noncomputable abbrev yR(a:bW):Value:=eN a.version
noncomputable abbrev yP(a:bW):Value:=hJ a.tables
noncomputable abbrev cD(a:bW):cn:=rL (yR a) (yP a)
abbrev vB(a:Int):Prop:=a<=281474976710656
abbrev uI(a:Sl)(b:Int):Prop:=vB (aH a*b)
attribute [push_cast] xK yR yP cD vB uI
def RR(v:bW)(t:Int)(m:MH)(h:PH)(K:cr):Prop:=
  xK (λg s=>∃(j:Int),aA (bC (fM (cD v)) t=bC (fM (cD g)) j) (iA h s g) (tD (Ch s j) (K jQ m h) (eA (xJ v) t v.tables (λb o y=>aA (aU m h b (fT o t 5+1) (aY y)) (bV 0) (aA (bV (aH y)) (uI y 8) (vB (aH y)/\Nb v t m h (λe=>e) (λf=>f) 1 (λc=>c) (λc I x=>aA (I x) (eL 19) (aA (bS c (nR x)) (cK c (nR x)) (aA (bB x.1) (sL (xA x)) (aA (m=m) (h=h) True)))) (λI n x=>Na (I x) x 0 (λe f c=>aU m h e (bN f x.1 2) (qD c.name c.kind)) 8 (λc d=>aA (I d) (n d<n x) (aA (eL 19) (bS (nR x) (nR d)) (aA (cK (nR x) (nR d)) (bD (gG (bF x.1 1)) d.1) (aA (sM (xA x) c.kind (xA d)) (m=m) (bL h h))))) (vP h (xA x) K m))))))))
theorem bM.part{o:Nat}{l:cn}(r:bM h b o l)(k n:Nat):bM h b (o+k) ((l.drop k).take n):=
 ⟨λi v e=>by
  have:l[k+i]? =some v:=by
   grind
  have:=r.rd (k+i) v this
  grind⟩
theorem Fp.at{s:Sl}{l:List qJ}(r:Fp h s l){x:qJ}(c:l[i]? =some x):∃b o,s.a=some ⟨b,o,none⟩/\bM h b (o+i*2) (qJ.enc x):=by
 obtain⟨b,o,v,e,k,rfl⟩:=bZ.at r c
 grind
theorem FR{t:Int}(h:¬(0<=t/\t<s.tables.length)):jL s t=[]:=by
 unfold jL
 grind
theorem Mp{t:Int}{x:C1}(h:0<=t)(c:s.tables[t.toNat]? =some x):jL s t=x.columns.map qJ.kind:=by
 unfold jL
 grind
theorem iA.table{v:bW}(c:iA h s v){t:Int}(f:0<=t)(g:t<(v.tables.len:Int)):∃x b o w,s.tables[t.toNat]? =some x/\v.tables.a=some ⟨b,o,none⟩/\bM h b (o+t.toNat*5) (cL.enc w)/\Pt h x w:=by
 have j:=c.tables.slen;have d:s.tables[t.toNat]? =some (s.tables[t.toNat]'(by omega)):=bo _;obtain⟨b,o,w,e,r,k⟩:=c.tables.at d
 grind
theorem iO{α β:Type}{f:α->β}{l:List α}{x:α}(c:l[i]? =some x):(l.take (i+1)).map f=(l.take i).map f++[f x]:=by
 rw[cd,c];simp
theorem O2:cm 175 b7Z:=by
 refine iH func175 ?_;rintro e m h K ⟨v,s,t,rfl,f,d⟩;refine⟨dD [] [] [] [] false,rfl,aG,Rp v t m h K,ax,?_⟩;dsimp only[Rp,push_cast];have g:=f.tables.slen;refine aF (λc=>jD d ?_) (λc=>jD d ?_)
 .have c:0<=t:=c;simp only[Ch,g,decide_eq_true c,Bool.true_and]
 .have c:¬0<=t:=by omega
  simp only[Ch,decide_eq_false c,Bool.false_and]
theorem Lb:cm 46 yJ:=by
 refine iH func46 ?_;rintro D m h K ⟨v,s,t,rfl,A,E,n⟩;refine⟨Tq m h,rfl,aG,Vi v t m h K,ax,?_⟩;dsimp only[Vi,push_cast];have M:=A.tables.slen;have d:jL s t=[]->K (.val (.slice none 0 0)) m h:=λe=>n ⟨none,0,0⟩ h (.refl _) (by rw[e];exact⟨.nil _ _,ay⟩);refine aF (λF=>d (FR aD)) (λF=>aF (λG=>d (FR aD)) (λG=>?_));obtain⟨x,b,o,w,B,H,I,f⟩:=A.table (t:=t) aD aD;have J:=E x (br B);have u:=bZ.slen f.columns;rw[Mp aD B]at n;refine⟨b,o,H,aD,aD,w.columns,.imm (bM.part I 1 1),λ⟨i,y,l⟩=>y=w.columns/\i<=x.columns.length/\l=(x.columns.take i).map qJ.kind,λ⟨i,_,_⟩=>x.columns.length-i,⟨(0,w.columns,[]),⟨rfl,ay,ay⟩,MT⟩,?_⟩;rintro⟨i,_,_⟩ ⟨rfl,O,rfl⟩;dsimp only;refine aF (λj=>?_) (λL y h' z g=>?_)
 .obtain⟨c,C⟩:=eU u j;obtain⟨b,o,e,r⟩:=Fp.at f.columns C;refine⟨b,o,e,aD,j,c,.imm r,?_,?_,(i+1,w.columns,(x.columns.take (i+1)).map qJ.kind),⟨rfl,aD,rfl⟩,aD,?_⟩
  .simp;omega
  .simp;omega
  .rw[iO C,bw];exact MT
 .rw[bu aD]at g;exact n y h' z ⟨g,bf⟩
theorem EZ:cm 139 yJ:=by
 refine iH func139 ?_;rintro G m h K ⟨v,s,t,rfl,n,H,u⟩;refine⟨a7Z m h,rfl,aE O2 aG,RR v t m h K,ax,?_⟩;dsimp only[RR,push_cast];have L:=n.tables.slen;have g:jL s t=[]->K (.val (.slice none 0 0)) m h:=λe=>u ⟨none,0,0⟩ h (.refl _) (by rw[e];exact⟨.nil _ _,ay⟩);refine⟨v,s,t,rfl,n,aC (λy=>g (FR ?_)) (λy=>?_)⟩
 .simp only[Ch,Bool.not_eq_true',Bool.and_eq_false_iff,decide_eq_false_iff_not]at y;omega
 simp only[Ch,Bool.not_eq_false',bz,ce]at y;obtain⟨x,b,o,w,C,D,E,d⟩:=n.table (t:=t) aD aD;have I:=H x (br C);have z:=bZ.slen d.columns;rw[Mp aD C]at u;refine⟨b,o,D,aD,aD,w.columns,.imm (bM.part E 1 1),aD,aD,aD,aD,b,o,D,aD,aD,w.columns,.imm (bM.part E 1 1),λ⟨i,A,l⟩=>A=w.columns/\i<=x.columns.length/\l=(x.columns.take i).map qJ.kind,λ⟨i,_,_⟩=>x.columns.length-i,⟨(0,w.columns,[]),⟨rfl,ay,ay⟩,MT⟩,?_⟩;rintro⟨i,_,_⟩ ⟨rfl,M,rfl⟩;dsimp only;refine aF (λj=>?_) (λJ A h' B f=>?_)
 .obtain⟨c,F⟩:=eU z j;obtain⟨b,o,e,r⟩:=Fp.at d.columns F;refine⟨b,o,e,aD,j,c,.imm r,?_,?_,(i+1,w.columns,(x.columns.take (i+1)).map qJ.kind),⟨rfl,aD,rfl⟩,aD,?_⟩
  .simp;omega
  .simp;omega
  .rw[iO F,bw];exact MT
 .rw[bu aD]at f;exact u A h' B ⟨f,bf⟩
def Sub(m m':MH):Prop:=∀b o,m b=some o->m' b=some o
theorem Sub.refl(m:MH):Sub m m:=λ_ _ e=>e
theorem Sub.free(h:Sub m m')(c:m' b=none):m b=none:=by
 cases e:m b with
 |none=>rfl
 |some o=>rw[h b o e]at c;cases c
theorem Sub.upd{f:MH}(h:Sub m f)(j:m b=none)(g:∀c,c≠b->m' c=f c):Sub m m':=λc o e=>by
 have d:c≠b:=λn=>bg
 rw[g c d,h c o e]
def LS(m:MH)(b:Nat)(c:du):Prop:=wS m b (c.map λn=>(.string n,.bool true))
theorem LS.other{d:Nat}{e:du}(h:LS m b e)(f:b≠d)(o:∀c,c≠d->m' c=m c):LS m' b e:=by
 obtain⟨g,j,t,n⟩:=h.ex;exact⟨g,j,bg,n⟩
def bjJ:Vc.Spec:=λc m h K=>∃v s,c=[aS v]/\iA h s v/\∀r:Bool,(r=true↔Good DH s.tables)->K (cB r) m h
def bfX:Vc.Spec:=λc m h K=>∃v s t,∃i:Nat,c=[aS v,cI i]/\iA h s v/\s.tables[i]? =some t/\∀r:Bool,(r=true↔DH (s.tables.take i) t)->K (cB r) m h
noncomputable def a4Z(v:bW)(h:PH):Ctx:=
 dD [(217,adZ)] [(3,{A:=Nat×Nat×MH,st:=λ⟨i,c,d⟩=>bQ 79 80 [(3,vv (.map (some c))),(11,sv v.tables),(12,iv v.tables.len),(13,iv i)] [] d h}),
  (10,{A:=Nat×Nat×Nat×Nat×Sl×MH,st:=λ⟨i,k,c,f,e,d⟩=>bQ 79 80 [(3,vv (.map (some c))),(6,vv (.map (some f))),(11,sv v.tables),(12,iv v.tables.len),(13,iv i),(45,sv e),(46,iv e.len),(47,iv k)] [] d h})] [] [] false
noncomputable def a5Z(v:bW)(i:Nat)(m:MH)(h:PH):Ctx:=
 dD [(216,adZ),(151,bkZ)] [(5,{A:=Nat×cL,st:=λ⟨k,w⟩=>bQ 94 96 [(1,iv i),(2,.at (.ptr 2 0)),(5,.at (.ptr 5 0)),(6,iv k)] [(2,.cells 43 (v.enc.map .val)),(5,.cells 87 (w.enc.map .val))] m h}),
  (10,{A:=Nat×cL,st:=λ⟨k,w⟩=>bQ 94 96 [(5,.at (.ptr 5 0)),(53,iv w.columns.len),(54,iv k)] [(5,.cells 87 (w.enc.map .val))] m h}),
  (15,{A:=Nat×Nat×cL,st:=λ⟨k,j,w⟩=>bQ 94 96 [(5,.at (.ptr 5 0)),(7,iv k),(8,iv j),(53,iv w.columns.len),(54,iv k)] [(5,.cells 87 (w.enc.map .val))] m h})] [] [] false
abbrev Ct(a:MH)(b:PH)(c:Nat->MH->Prop):Prop:=mH a b (λx d=>iP a d x (Obj.map (Array.mk []) 0)) (λx d=>c x d)
abbrev jW(a b:Nat):Prop:=SV.at (At.val (Value.map (Option.some a)))=SV.at (At.val (Value.map (Option.some b)))
abbrev sH(a:bW):Prop:=aI a.tables
abbrev kD(a:bW):Prop:=bJ a.tables
abbrev Gs(a:Prop)(b:Nat)(c:bW)(d:Nat->Nat->cL->Prop)(e:Prop):Prop:=a->aX (↑b:Int) (aH c.tables) (bI (λx f=>aA (bK (xJ c) x f) (0<=(↑b:Int)) ((↑b:Int)<aH c.tables/\∃(g:cL),d x f g))) e
noncomputable abbrev Af(a:cL):cn:=aL (Value.string a.name) (hJ a.columns) (aL (eN a.key) (hJ a.references) (aY a.checks))
noncomputable abbrev kE(a:ByteArray):CV:=CV.val (Value.string a)
abbrev oW(a:cr)(b:Nat×Nat×MH)(c:PH):Prop:=a aZ (gP b) c
abbrev EM(a:Value->Prop):Prop:=KeyLaw Proofs.Tryz.prog 9 a
abbrev Je(a:MH)(b:Nat)(c:(Value->Prop)->Prop)(d:(Value×Bool)->Prop)(e:Prop)(g:(List (Value×Bool))->Bool->Prop):Prop:=∃(x:List (Value×Bool))(j:Value->Prop),aA (wS a b (List.map (fun(f:Value×Bool)=>(f.1,Value.bool f.2)) x)) (EM j) (aA (c j) (∀(f:Value×Bool),List.Mem f x->j f.1) (((∀(f:Value×Bool),List.Mem f x->d f->False)->e)/\∀(f:Bool),g x f))
noncomputable abbrev Am(a:cL):Value:=Value.string a.name
noncomputable abbrev Aq(a:cL):Int:=aH a.columns
abbrev WZ(a:db->(Value->Prop)->Prop):Prop:=∃(x:db)(c:Value->Prop),a x c
abbrev JH(a:Nat->Option Obj)(b:Nat)(c:(Value->Prop)->Prop)(d:db->db)(e:(Value×Value)->Value×Value)(g:Value)(i:db->Prop):Prop:=WZ (λx j=>aA (wS a b x) (EM j) (aA (c j) (∀(f:Value×Value),List.Mem f x->j f.1) ((∀(f:Value×Value),List.Mem f (d x)->(e f).1=g->False)/\i x)))
noncomputable abbrev Db(a b:Value):db:=[(a,b)]
noncomputable abbrev AX:Value:=Value.bool true
noncomputable abbrev De(a:Nat×Nat×Nat×Nat×Sl×MH):Nat:=a.2.2.2.1
abbrev cO(a b:Nat):Prop:=bD (Hs a) b
noncomputable abbrev wF(a:Nat×Nat×Nat×Nat×Sl×MH):Sl:=a.2.2.2.2.1
noncomputable abbrev u9(a:Nat×Nat×Nat×Nat×Sl×MH):Nat->Option Obj:=a.2.2.2.2.2
noncomputable abbrev C7(a:qJ):Value:=Value.string a.name
abbrev IW(a:Nat×Nat×Nat×Nat×Sl×MH)(b:qJ)(c:MH->Prop):Prop:=JH (u9 a) (De a) (λx=>x (C7 b)) (λx=>x) (λx=>x) (C7 b) (λx=>∀(d:MH),qV (u9 a) d (De a)->wS d (De a) (x++Db (C7 b) AX)->c d)
abbrev uD(a:qJ)(b:Int)(c:Prop)(d:Nat×Nat×Nat×Nat×Sl×MH->Prop)(e:Nat×Nat×Nat×Nat×Sl×MH->Nat)(g:Nat×Nat×Nat×Nat×Sl×MH)(i:bW)(j:(Nat×Nat×Nat×Nat×Sl×MH)->Prop):Prop:=branch (a.kind !=b) c (∃(x:Nat×Nat×Nat×Nat×Sl×MH),aA (d x) (e x<e g) (aA (jW g.2.2.1 x.2.2.1) (jW (De g) (De x)) (aA (aI i.tables) (kD i) (aA (cO g.1 x.1) (bS (wF g) (wF x)) (j x)))))
abbrev uF(a b:Nat×Nat×Nat×Nat×Sl×MH)(c:MH)(d:PH):Prop:=uZ (cK (wF a) (wF b)) (bD (gG (bF a.2.1 1)) b.2.1) (c=u9 b) d d
attribute [push_cast] Ct jW sH kD Gs Af kE oW EM Je Am Aq WZ JH Db AX De cO wF u9 C7 IW uD uF
def Lt(v:bW)(m:MH)(h:PH)(K:cr):Prop:=
  Ct m h (λb G=>∃(I:Nat×Nat×MH->Prop)(C:Nat×Nat×MH->Nat),Nq (λx=>aA (I x) (jW b (iK x)) (aA (sH v) (kD v) (bO (bB x.1) (G=gP x) (h=h)))) (λx=>Gs (I x) x.1 v (λH o y=>aU (gP x) h H (bN o x.1 5) (Af y)/\∃(s:ByteArray),fH (fP (kE y.name) (kE s)) (!(oT s)) (oW K x h) (Je (gP x) (iK x) (λO=>O (Am y)) (λe=>e.1=Am y) (aX y.key 1 (oW K x h) (eZ y.key (Aq y) (oW K x h) (JH (gP x) (iK x) (λO=>O (Am y)) (λk=>k) (λe=>e) (Am y) (λk=>∀(t:MH),qV (gP x) t (iK x)->wS t (iK x) (k++Db (Am y) AX)->Ct t h (λD E=>∃(I1:Nat×Nat×Nat×Nat×Sl×MH->Prop)(n:Nat×Nat×Nat×Nat×Sl×MH->Nat),(∃(c:Nat×Nat
 ×Nat×Nat×Sl×MH),aA (I1 c) (jW (iK x) c.2.2.1) (aA (jW D (De c)) (sH v) (aA (kD v) (cO x.1 c.1) (aA (bS y.columns (wF c)) (cK y.columns (wF c)) (bO (bB c.2.1) (E=u9 c) (h=h))))))/\∀(c:Nat×Nat×Nat×Nat×Sl×MH),I1 c->aX (↑c.2.1:Int) (aH (wF c)) (bI (λu z=>aA (bK (wF c).a u z) (0<=(↑c.2.1:Int)) ((↑c.2.1:Int)<aH (wF c)/\∃(g:qJ),aU (u9 c) h u (bN z c.2.1 2) (qD g.name g.kind)/\∃(A:ByteArray),fH (fP (kE g.name) (kE A)) (!(oT A)) (K aZ (u9 c) h) (Je (u9 c) (De c) (λO=>O (C7 g)) (λe=>e.1=C7 g) (IW c g (λf=>uD g 3 (uD g 4 (uD g 5 (K aZ f h) I1 n c v (λd=>uF c d f h)) I1 n c v (λd=>
 uF c d f h)) I1 n c v (λd=>uF c d f h))) (λB j=>gQ (List.Mem (C7 g,j) B) j (K aZ (u9 c) h) (IW c g (λf=>uD g 3 (uD g 4 (uD g 5 (K aZ f h) I1 n c v (λd=>uF c d f h)) I1 n c v (λd=>uF c d f h)) I1 n c v (λd=>uF c d f h)))))))) (∃(d:Nat×Nat×MH),aA (I d) (C d<C x) (aA (jW c.2.2.1 (iK d)) (sH v) (aA (kD v) (bD (gG (bF c.1 1)) d.1) (aA (u9 c=gP d) (h=h) True))))))))) (λk g=>gQ (List.Mem (Am y,g) k) g (oW K x h) (aX y.key 1 (oW K x h) (eZ y.key (Aq y) (oW K x h) (JH (gP x) (iK x) (λO=>O (Am y)) (λB=>B) (λe=>e) (Am y) (λB=>∀(t:MH),qV (gP x) t (iK x)->wS t (iK x) (B++Db (Am y)
 AX)->Ct t h (λD E=>∃(I1:Nat×Nat×Nat×Nat×Sl×MH->Prop)(n:Nat×Nat×Nat×Nat×Sl×MH->Nat),(∃(c:Nat×Nat×Nat×Nat×Sl×MH),aA (I1 c) (jW (iK x) c.2.2.1) (aA (jW D (De c)) (sH v) (aA (kD v) (cO x.1 c.1) (aA (bS y.columns (wF c)) (cK y.columns (wF c)) (bO (bB c.2.1) (E=u9 c) (h=h))))))/\∀(c:Nat×Nat×Nat×Nat×Sl×MH),I1 c->aX (↑c.2.1:Int) (aH (wF c)) (bI (λu z=>aA (bK (wF c).a u z) (0<=(↑c.2.1:Int)) ((↑c.2.1:Int)<aH (wF c)/\∃(j:qJ),aU (u9 c) h u (bN z c.2.1 2) (qD j.name j.kind)/\∃(A:ByteArray),fH (fP (kE j.name) (kE A)) (!(oT A)) (K aZ (u9 c) h) (Je (u9 c) (De c) (λO=>O (C7 j)) (λe=>e.1=C7 j)
 (IW c j (λf=>uD j 3 (uD j 4 (uD j 5 (K aZ f h) I1 n c v (λd=>uF c d f h)) I1 n c v (λd=>uF c d f h)) I1 n c v (λd=>uF c d f h))) (λJ F=>gQ (List.Mem (C7 j,F) J) F (K aZ (u9 c) h) (IW c j (λf=>uD j 3 (uD j 4 (uD j 5 (K aZ f h) I1 n c v (λd=>uF c d f h)) I1 n c v (λd=>uF c d f h)) I1 n c v (λd=>uF c d f h)))))))) (∃(d:Nat×Nat×MH),aA (I d) (C d<C x) (aA (jW c.2.2.1 (iK d)) (sH v) (aA (kD v) (bD (gG (bF c.1 1)) d.1) (aA (u9 c=gP d) (h=h) True)))))))))))) (gO K (gP x) h)))
abbrev M3(a:(Nat×cL->Prop)->(Nat×cL)->Prop)(b:(Nat×cL->Prop)->(Nat×cL->Nat)->(Nat×cL)->Prop):Prop:=∃(x:Nat×cL->Prop)(d:Nat×cL->Nat),(∃(c:Nat×cL),a x c)/\∀(c:Nat×cL),b x d c
noncomputable abbrev KT(a:bW):dj:=lL (fV a.version) (vD a.tables)
abbrev cM(a:bW):Prop:=eQ (oQ 43 (KT a))
noncomputable abbrev nL(a:At):dj:=[a]
noncomputable abbrev gV(a:cL):dj:=cQ (TE a.name) (vD a.columns) (cQ (fV a.key) (vD a.references) (nL (vD a.checks)))
abbrev Ee(a:cL)(b:Nat×cL):Prop:=oQ 87 (gV a)=oQ 87 (gV b.2)
abbrev Np(a:Option Addr)(b:Int)(c:Nat)(d:Sl)(e:Nat->Nat->ByteArray->Prop):Prop:=bI (λx f=>aA (bK a x f) (b<=(↑c:Int)) ((↑c:Int)<aH d/\∃(g:ByteArray),e x f g))
noncomputable abbrev sR(a:Nat×Nat×cL):Nat:=a.2.1
noncomputable abbrev lX(a:Nat×Nat×cL):cL:=a.2.2
attribute [push_cast] M3 KT cM nL gV Ee Np sR lX
def RJ(v:bW)(i:Nat)(m:MH)(h:PH)(K:cr):Prop:=
  bI (λb o=>aA (bK (xJ v) b o) (0<=(↑i:Int)) ((↑i:Int)<aH v.tables/\∃(y:cL),aU m h b (bN o i 5) (Af y)/\∃(s:ByteArray),fP (kE y.name) (kE s)/\cX (!(oT s)) (K aZ m h) (Aq y==0) (K aZ m h) (aX y.key 1 (K aZ m h) (eZ y.key (Aq y) (K aZ m h) (M3 (λI x=>aA (I x) (eQ (Hs i)) (aA eK dN (aA (bB x.1) (cM v) (aA (Ee y x) (m=m) (bL h h))))) (λI n x=>I x->aX (↑x.1:Int) (↑i:Int) (Np (xJ v) 0 x.1 v.tables (λg j f=>aU m h g (bN j x.1 5+0) (lD (Value.string f))/\branch (f.toList==x.2.name.toList) (K aZ m h) (∃(c:Nat×cL),aA (I c) (n c<n x) (aA (eQ (Hs i)) eK (aA dN (bD (gG (bF x.1 1)) c.1) (aA (cM v) (Ee x.2 c) (bP (m=m) h h))))))) (M3 (λI1 c
 =>aA (I1 c) dN (aA (cK x.2.columns c.2.columns) (bB c.1) (bO (Ee x.2 c) (m=m) (h=h)))) (λI1 t c=>I1 c->aX (↑c.1:Int) (aH c.2.columns) (bI (λg j=>aA (bK c.2.columns.a g j) (0<=(↑c.1:Int)) ((↑c.1:Int)<aH c.2.columns/\∃(f:ByteArray),aU m h g (bN j c.1 2+0) (lD (Value.string f))/\∃(u:ByteArray),fH (fP (kE f) (kE u)) (!(oT u)) (K aZ m h) (bI (λz A=>aA (bK c.2.columns.a z A) (0<=(↑c.1:Int)) ((↑c.1:Int)<aH c.2.columns/\∃(B:Int),aU m h z (bN A c.1 2+1) (bG B)/\∃(k:Int),fH (kU B k) (!(eT k)) (K aZ m h) (∃(I2:Nat×Nat×cL->Prop)(C:Nat×Nat×cL->Nat),(∃(d:Nat×Nat×cL),aA (I2 d) dN (aA (cO c.1 d.1) (bB (sR d)) (aA (cK
 c.2.columns (lX d).columns) (cO c.1 d.1) (aA (oQ 87 (gV c.2)=oQ 87 (gV (lX d))) (m=m) (bL h h)))))/\∀(d:Nat×Nat×cL),I2 d->aX (↑(sR d):Int) (↑d.1:Int) (Np (lX d).columns.a 0 (sR d) (lX d).columns (λF G D=>aU m h F (bN G (sR d) 2+0) (lD (Value.string D))/\Np (lX d).columns.a 0 d.1 (lX d).columns (λH J E=>aU m h H (bN J d.1 2+0) (lD (Value.string E))/\branch (D.toList==E.toList) (K aZ m h) (∃(e:Nat×Nat×cL),aA (I2 e) (C e<C d) (aA dN (cO d.1 e.1) (aA (bD (gG (bF (sR d) 1)) (sR e)) (cK (lX d).columns (lX e).columns) (aA (cO d.1 e.1) (oQ 87 (gV (lX d))=oQ 87 (gV (lX e))) (bP (m=m) h h)))))))) (∃(e:Nat×cL),aA (I1 e) (t e<
 t c) (aA dN (cK (lX d).columns e.2.columns) (aA (bD (gG (bF d.1 1)) e.1) (Ee (lX d) e) (aA (m=m) (h=h) True))))))))))) (gO K m h)))))))))
theorem LS.snoc{c:du}{n:ByteArray}(h:wS m b ((c.map λn=>(Value.string n,Value.bool true))++[(.string n,.bool true)])):LS m b (c++[n]):=by
 unfold LS;grind
theorem LS.look{c:du}(h:LS m b c):wS m b (List.map (λp:Value×Bool=>(p.fst,Value.bool p.snd)) (c.map λn=>(Value.string n,true))):=by
 rw[map_map];exact h
theorem IS{β:Type}{c:du}{x:β}:∀e:Value×β,e∈(c.map λn=>(Value.string n,x))->∃s,e.fst= .string s:=λe d=>by
 grind
theorem UF{β:Type}{c:du}{x:β}{n:ByteArray}(h:n∉c):∀e:Value×β,e∈(c.map λn=>(Value.string n,x))->e.fst= .string n->False:=λe d h'=>by
 grind
theorem Gr{β:Type}{c:du}{x:β}{n:ByteArray}(h:∀e:Value×β,e∈(c.map λn=>(Value.string n,x))->e.fst= .string n->False):n∉c:=λd=>h (.string n,x) (mem_map.2 ⟨n,d,rfl⟩) rfl
theorem UG{β:Type}{c:du}{x y:β}{n:ByteArray}(h:(Value.string n,y)∈(c.map λn=>(Value.string n,x))):n∈c/\y=x:=by
 grind
theorem Yn:cm 154 bjJ:=by
 refine Fm func154 ?_;rintro a9 m h K ⟨v,s,rfl,hs,hK⟩;refine⟨a4Z v h,rfl,aE XO aG,Lt v m h (kX h K),ax,?_⟩;show Lt v m h (kX h K);dsimp only[Lt,push_cast];have hl:=hs.tables.slen;have a7:=hs.tables.len;have hf:¬Good DH s.tables->K (cB false) m h:=λh=>hK false ⟨λe=>(by cases e),λe=>(h e).elim⟩;intro b m1 hb R;refine⟨λ⟨i,B,mx⟩=>i<=s.tables.length/\Sub m mx/\m B=none/\LS mx B ((s.tables.take i).map C1.name)/\fJ DH s.tables i,λ⟨i,_,_⟩=>s.tables.length-i,⟨(0,b,m1),⟨aD,(Sub.refl m).upd hb.m_ R.other,hb.m_,⟨_,_,R.at_,rfl⟩,.zero⟩,MT⟩,?_⟩;rintro⟨i,B,mx⟩ ⟨hi,n,S,D,u⟩;dsimp only;refine aF (λT=>?_) (λb'=>.sub n (hK true ⟨λ_=>u.all aD,λ_=>rfl⟩));obtain⟨t,U⟩:=eU hl T;obtain⟨bb,o,w,ea,hr,f⟩:=hs.tables.at U;have a2:=bZ.slen f.columns;have b0:=bZ.len f.columns;have V:=f.name;have b3:=f.key;have bad:¬DH (s.tables.take i) t->kX h K (.val (.bool false)) mx h:=λhn=>.sub n (hf (Good.not U hn));have W:t.name∉(s.tables.take i).map C1.name->oT w.name=true->1<=w.key->w.key<=w.columns.len->Good Wq t.columns->DH (s.tables.take i) t:=λh1 h2 h3 h4 h5=>⟨bg,aD,aD,h1,h5⟩
 refine⟨bb,o,ea,aD,T,w,.imm hr,w.name,rfl,aC (λh1=>bad λg=>?_) (λh1=>⟨_,_,D.look,BS,⟨_,rfl⟩,IS,λX=>aF (λh2=>bad λg=>?_) (λh2=>aF (λh3=>bad λg=>?_) (λh3=>⟨_,_,D,BS,⟨_,rfl⟩,IS,UF (Gr X),λm2 a3 x Q m3 I J=>?_⟩)),λy hy=>?_⟩)⟩
 .have:=g.1;grind
 .have:=g.2.1;omega
 .have:=g.2.2.1;omega
 .have x:=LS.snoc x;have j:Sub m m2:=n.upd S a3.other;have L:Sub m m3:=j.upd (j.free I.m_) J.other
  have Y:B≠Q:=λe=>by
   obtain⟨es,cl,e1,_⟩:=x.ex;rw[e,I.m_]at e1;cases e1
  have Z:t.name∉(s.tables.take i).map C1.name:=by rw[<-V];exact Gr X
  rw[V, <-iO U]at x
  refine⟨λ⟨i',k,a4,a5,sl,M⟩=>i'=i/\a4=B/\a5=Q/\sl=w.columns/\k<=t.columns.length/\Sub m M/\LS M B ((s.tables.take (i+1)).map C1.name)/\LS M Q ((t.columns.take k).map qJ.name)/\fJ Wq t.columns k,λ⟨_,k,_,_,_,_⟩=>t.columns.length-k,
   ⟨(i,0,B,Q,w.columns,m3),⟨rfl,rfl,rfl,rfl,aD,L,x.other Y J.other,⟨_,_,J.at_,rfl⟩,.zero⟩,MT⟩,?_⟩
  rintro⟨i,k,B,Q,_,M⟩ ⟨rfl,rfl,rfl,rfl,hk,d,E,F,a'⟩;dsimp only;refine aF (λG=>?_) (λa8=>?_)
  .obtain⟨c,hc⟩:=eU a2 G;obtain⟨bc,oc,ec,rc⟩:=Fp.at f.columns hc;have z:∀mz,Sub m mz->¬Wq (t.columns.take k) c->kX h K (.val (.bool false)) mz h:=λmz hz hn=>.sub hz (hf (Good.not U (λg=>Good.not hc hn g.2.2.2.2)));refine⟨bc,oc,ec,aD,G,c,.imm rc,c.name,rfl,aC (λh4=>z M d λg=>?_) (λh4=>⟨_,_,F.look,BS,⟨_,rfl⟩,IS,λH=>⟨_,_,F,BS,⟨_,rfl⟩,IS,UF (Gr H),λm4 a0 C=>?_⟩,λy hy=>?_⟩)⟩
   .rw[g.1]at h4;cases h4
   .have C:=LS.snoc C;rw[<-iO hc]at C;have A:Sub m m4:=d.upd (j.free I.m_) a0.other;have O:eT c.kind=true->Wq (t.columns.take k) c:=λe=>⟨bg,e,Gr H⟩
    have P:eT c.kind=false->¬Wq (t.columns.take k) c:=λe g=>by rw[g.2.1]at e;cases e
    have a6:=E.other Y a0.other
    repeat' (first|(refine aC (λ_=>?_) (λ_=>?_))|(refine z m4 A (P ?_);simp_all [eT];done)|exact⟨(i,k+1,B,Q,w.columns,m4),⟨rfl,rfl,rfl,rfl,bj,A,a6,C,a'.succ hc (O (by simp_all [eT]))⟩,bi,MT⟩)
   .obtain⟨a1,rfl⟩:=UG hy;exact aC (λ_=>z M d λg=>g.2.2 a1) (λe=>by cases e)
  .refine⟨(i+1,B,M),⟨aD,d,S,E,u.succ U (W Z bg aD aD (a'.all aD))⟩,?_,MT⟩;omega
 .obtain⟨a1,rfl⟩:=UG hy;exact aC (λ_=>bad λg=>g.2.2.2.1 bg) (λe=>by cases e)
theorem N2{α:Type}{f:α->ByteArray}{l:List α}{x:α}{n:ByteArray}(c:l[i]? =some x)(h:n∉(l.take i).map f)(d:f x≠n):n∉(l.take (i+1)).map f:=by
 rw[iO c,mem_append]
 grind
theorem bOZ{α:Type}{f:α->ByteArray}{l:List α}{k:Nat}{x:α}{n:ByteArray}(d:l[i]? =some x)(e:i<k)(c:f x=n):n∈(l.take k).map f:=
 mem_map.2 ⟨x,mem_of_getElem? (i:=i) bg,c⟩
theorem Yp:cm 149 bfX:=by
 refine iH func149 ?_;rintro a2 m h K ⟨v,s,t,i,rfl,F,U,V⟩;refine⟨a5Z v i m h,rfl,aE XP (aE O4 aG),RJ v i m h K,ax,?_⟩;dsimp only[RJ,push_cast];have hl:=F.tables.slen;have W:=F.tables.len;have a3:i<s.tables.length:=(bm U);have bad:¬DH (s.tables.take i) t->K (.val (.bool false)) m h:=λh=>V false ⟨λe=>(by cases e),λe=>(h e).elim⟩;obtain⟨bb,o,w,ea,hr,d⟩:=F.tables.at U;have G:=bZ.slen d.columns;have a4:=bZ.len d.columns;have D:=d.name;have a5:=d.key;refine⟨bb,o,ea,aD,aD,w,.imm hr,w.name,rfl,aC (λh1=>bad λf=>?_) (λh1=>aC (λh2=>bad λf=>?_) (λh2=>aF (λh3=>bad λf=>?_) (λh3=>aF (λh4=>bad λf=>?_) (λh4=>?_))))⟩
 .have:=f.1;grind
 .have:=f.2.1;have:=f.2.2.1;grind
 .have:=f.2.1;omega
 .have:=f.2.2.1;omega
 refine⟨λ⟨k,A⟩=>A=w/\k<=i/\t.name∉(s.tables.take k).map C1.name,λ⟨k,_⟩=>i-k,⟨(0,w),⟨rfl,aD,ay⟩,MT⟩,?_⟩;rintro⟨k,w⟩ ⟨rfl,hk,E⟩;dsimp only;refine aF (λg=>?_) (λa6=>?_)
 .obtain⟨X,B⟩:∃X,s.tables[k]? =some X:=⟨s.tables[k]'(by omega),bo _⟩
  obtain⟨b',o',A,H,I,n⟩:=F.tables.at B;refine⟨b',o',H,aD,aD,A.name,.imm (bM.part I 0 1),aC (λe=>bad λf=>?_) (λe=>?_)⟩
  .refine f.2.2.2.1 (bOZ B aD ?_);rw[<-n.name, <-D];exact zF (bk e)
  .refine⟨(k+1,w),⟨rfl,aD,N2 B E λY=>?_⟩,aD,MT⟩;rw[<-n.name, <-D]at Y
   grind
 .have J:k=i:=by omega
  subst J;refine⟨λ⟨k,A⟩=>A=w/\k<=t.columns.length/\fJ Wq t.columns k,λ⟨k,_⟩=>t.columns.length-k,⟨(0,w),⟨rfl,aD,.zero⟩,MT⟩,?_⟩;rintro⟨c,w⟩ ⟨rfl,hc,Z⟩;dsimp only;refine aF (λg=>?_) (λa'=>V true ⟨λ_=>⟨bg,aD,aD,E,Z.all aD⟩,λ_=>rfl⟩);obtain⟨x,C⟩:=eU G g;obtain⟨L,M,O,P⟩:=Fp.at d.columns C;have u:¬Wq (t.columns.take c) x->K (.val (.bool false)) m h:=λhn=>bad λf=>Good.not C hn f.2.2.2.2;refine⟨L,M,O,aD,g,x.name,.imm (bM.part P 0 1),x.name,rfl,aC (λQ=>u λf=>?_) (λQ=>⟨L,M,O,aD,g,x.kind,.imm (bM.part P 1 1),x.kind,rfl,aC (λR=>u λf=>?_) (λR=>?_)⟩)⟩
  .rw[f.1]at Q;cases Q
  .rw[f.2.1]at R;cases R
  refine⟨λ⟨c',j,A⟩=>A=w/\c'=c/\j<=c/\x.name∉(t.columns.take j).map qJ.name,λ⟨_,j,_⟩=>c-j,⟨(c,0,w),⟨rfl,rfl,aD,ay⟩,MT⟩,?_⟩;rintro⟨c,j,w⟩ ⟨rfl,rfl,hj,z⟩;dsimp only;refine aF (λa0=>?_) (λa1=>?_)
  .obtain⟨y,S⟩:∃y,t.columns[j]? =some y:=⟨t.columns[j]'(by omega),bo _⟩
   obtain⟨T,oy,ey,ry⟩:=Fp.at d.columns S;refine⟨T,oy,ey,aD,aD,y.name,.imm (bM.part ry 0 1),L,M,O,aD,g,x.name,.imm (bM.part P 0 1),aC (λe=>u λf=>?_) (λe=>?_)⟩
   .exact f.2.2 (bOZ S aD (zF (bk e)))
   .refine⟨(c,j+1,w),⟨rfl,rfl,bg,N2 S z λY=>?_⟩,bg,MT⟩
    grind
  .have:j=c:=by omega
   subst this;exact⟨(j+1,w),⟨rfl,aD,Z.succ C ⟨bg,bg,z⟩⟩,aD,MT⟩
def Io(t g:C1)(k:Nat)(c:Int):Prop:=0<=c/\c<t.columns.length/\∃x y,t.columns[c.toNat]? =some x/\g.columns[k]? =some y/\x.kind=y.kind
def bhJ(tabs:List C1)(t:C1)(_:List Ref)(r:Ref):Prop:=0<=r.table/\r.table<tabs.length/\∃g,tabs[r.table.toNat]? =some g/\(r.columns.length:Int)=g.key/\Good (λd c=>Io t g d.length c) r.columns
def Fj(tabs:List C1)(_:List C1)(t:C1):Prop:=Good (bhJ tabs t) t.refs
def bhZ:Vc.Spec:=λc m h K=>∃v s,c=[aS v]/\iA h s v/\Good DH s.tables/\∀r:Bool,(r=true↔Good (Fj s.tables) s.tables)->K (cB r) m h
def abX:Vc.Spec:=λc m h K=>∃v s t,∃i:Nat,c=[aS v,cI i]/\iA h s v/\Good DH s.tables/\s.tables[i]? =some t/\∀r:Bool,(r=true↔Fj s.tables [] t)->K (cB r) m h
noncomputable def a4X(v:bW)(m:MH)(h:PH):Ctx:=
 dD [] [(2,{A:=Nat,st:=λi=>bQ 82 83 [(1,.at (.ptr 1 0)),(11,sv v.tables),(12,iv v.tables.len),(13,iv i)] [(1,.cells 43 (v.enc.map .val))] m h}),
  (5,{A:=Nat×Nat×cL,st:=λ⟨i,k,w⟩=>bQ 82 83 [(1,.at (.ptr 1 0)),(4,.at (.ptr 4 0)),(11,sv v.tables),(12,iv v.tables.len),(13,iv i),(18,sv w.references),(19,iv w.references.len),(20,iv k)] [(1,.cells 43 (v.enc.map .val)),(4,.cells 87 (w.enc.map .val))] m h}),
  (13,{A:=Nat×Nat×Nat×cL×cL×Sl,st:=λ⟨i,k,j,w,g,c⟩=>bQ 82 83 [(1,.at (.ptr 1 0)),(4,.at (.ptr 4 0)),(7,.at (.ptr 7 0)),(11,sv v.tables),(12,iv v.tables.len),(13,iv i),(18,sv w.references),(19,iv w.references.len),(20,iv k),(48,sv c),(49,iv c.len),(50,iv j)] [(1,.cells 43 (v.enc.map .val)),(4,.cells 87 (w.enc.map .val)),(7,.cells 87 (g.enc.map .val))] m h})] [] [] false
noncomputable def a5X(v:bW)(m:MH)(h:PH):Ctx:=
 dD [] [(3,{A:=Nat×cL,st:=λ⟨k,w⟩=>bQ 85 87 [(2,.at (.ptr 2 0)),(5,.at (.ptr 5 0)),(16,sv w.references),(17,iv w.references.len),(18,iv k)] [(2,.cells 43 (v.enc.map .val)),(5,.cells 87 (w.enc.map .val))] m h}),
  (8,{A:=Nat×Nat×cL×Fo,st:=λ⟨k,j,w,r⟩=>bQ 85 87 [(2,.at (.ptr 2 0)),(5,.at (.ptr 5 0)),(7,.at (.ptr 7 0)),(16,sv w.references),(17,iv w.references.len),(18,iv k),(47,sv r.columns),(48,iv r.columns.len),(49,iv j)] [(2,.cells 43 (v.enc.map .val)),(5,.cells 87 (w.enc.map .val)),(7,.cells 146 (r.enc.map .val))] m h})] [] [] false
abbrev nO(a:(Nat->Prop)->Nat->Prop)(b:(Nat->Prop)->(Nat->Nat)->Nat->Prop):Prop:=∃(x:Nat->Prop)(d:Nat->Nat),kA (∃(c:Nat),a x c) (λc=>b x d c)
abbrev eG:Prop:=eP 1
abbrev iS:Prop:=eP 4
abbrev DY(a b:cL):Prop:=bS a.references b.references
abbrev DZ(a b:cL):Prop:=cK a.references b.references
abbrev Gt(a:bW)(b:Int)(c:Nat->Nat->Prop):Prop:=bI (λx d=>aA (bK (xJ a) x d) (0<=b) (b<aH a.tables/\c x d))
noncomputable abbrev u6(a:Nat×Nat×Nat×cL×cL×Sl):cL:=a.2.2.2.1
noncomputable abbrev zU(a:Nat×Nat×Nat×cL×cL×Sl):Sl:=a.2.2.2.2.2
noncomputable abbrev xP(a:Nat×Nat×Nat×cL×cL×Sl):Nat:=a.2.2.1
noncomputable abbrev G1(a:Nat×Nat×Nat×cL×cL×Sl):cL:=a.2.2.2.2.1
attribute [push_cast] nO eG iS DY DZ Gt u6 zU xP G1
def Ls(v:bW)(m:MH)(h:PH)(K:cr):Prop:=
  nO (λI x=>aA (I x) eG (aA (sH v) (kD v) (aA (bB x) (cM v) (aA (m=m) (h=h) True)))) (λI n x=>Gs (I x) x v (λb o y=>aU m h b (bN o x 5) (Af y)/\∃(I1:Nat×Nat×cL->Prop)(t:Nat×Nat×cL->Nat),(∃(d:Nat×Nat×cL),aA (I1 d) eG (aA iS (sH v) (aA (kD v) (cO x d.1) (aA (DY y (lX d)) (DZ y (lX d)) (aA (bB (sR d)) (cM v) (aA (oQ 87 (gV y)=oQ 87 (gV (lX d))) (m=m) (bL h h)))))))/\∀(d:Nat×Nat×cL),I1 d->aX (↑(sR d):Int) (aH (lX d).references) (bI (λu z=>aA (bK (lX d).references.a u z) (0<=(↑(sR d):Int)) ((↑(sR d):Int)<aH (lX d).references/\∃(f:Fo),aU m h u (bN z (sR d) 2) (rL (hJ f.columns) (eN f.table))/\
 aX f.table 0 (K aZ m h) (gA f.table (lW v) (K aZ m h) (Gt v f.table (λL M=>∃(j:cL),aU m h L (fT M f.table 5) (Af j)/\dC (aH f.columns) j.key (K aZ m h) (∃(I2:Nat×Nat×Nat×cL×cL×Sl->Prop)(A:Nat×Nat×Nat×cL×cL×Sl->Nat),(∃(c:Nat×Nat×Nat×cL×cL×Sl),aA (I2 c) eG (aA iS (eP 7) (aA (sH v) (kD v) (aA (cO d.1 c.1) (DY (lX d) (u6 c)) (aA (DZ (lX d) (u6 c)) (cO (sR d) c.2.1) (aA (bS f.columns (zU c)) (cK f.columns (zU c)) (aA (bB (xP c)) (cM v) (aA (oQ 87 (gV (lX d))=oQ 87 (gV (u6 c))) (oQ 87 (gV j)=oQ 87 (gV (G1 c))) (bP (m=m) h h)))))))))/\∀(c:Nat×Nat×Nat×cL×cL×Sl),I2 c->aX (↑(xP c):Int)
 (aH (zU c)) (bI (λB C=>aA (bK (zU c).a B C) (0<=(↑(xP c):Int)) ((↑(xP c):Int)<aH (zU c)/\∃(g:Int),aU m h B (bN C (xP c) 1) (bG g)/\aX g 0 (K aZ m h) (gA g (Aq (u6 c)) (K aZ m h) (bI (λD E=>aA (bK (u6 c).columns.a D E) (0<=g) (g<aH (u6 c).columns/\∃(F:Int),aU m h D (fT E g 2+1) (bG F)/\bI (λG H=>aA (bK (G1 c).columns.a G H) (0<=(↑(xP c):Int)) ((↑(xP c):Int)<aH (G1 c).columns/\∃(J:Int),aU m h G (bN H (xP c) 2+1) (bG J)/\dC F J (K aZ m h) (∃(e:Nat×Nat×Nat×cL×cL×Sl),aA (I2 e) (A e<A c) (aA eG iS (aA (eP 7) (sH v) (aA (kD v) (cO c.1 e.1) (aA (DY (u6 c) (u6 e))
 (DZ (u6 c) (u6 e)) (aA (cO c.2.1 e.2.1) (bS (zU c) (zU e)) (aA (cK (zU c) (zU e)) (bD (gG (bF (xP c) 1)) (xP e)) (aA (cM v) (oQ 87 (gV (u6 c))=oQ 87 (gV (u6 e))) (bO (oQ 87 (gV (G1 c))=oQ 87 (gV (G1 e))) (m=m) (h=h))))))))))))))))))) (∃(e:Nat×Nat×cL),aA (I1 e) (t e<t d) (aA eG iS (aA (aI v.tables) (kD v) (aA (cO c.1 e.1) (DY (u6 c) (lX e)) (aA (DZ (u6 c) (lX e)) (bD (gG (bF c.2.1 1)) (sR e)) (aA (cM v) (oQ 87 (gV (u6 c))=oQ 87 (gV (lX e))) (bP (m=m) h h)))))))))))))) (∃(c:Nat),aA (I c) (n c<n x) (aA eG (sH v) (aA (kD v) (bD (gG (bF d.1 1)) c) (aA (cM v) (m=m) (bL h h)))))) (gO K m h))
noncomputable abbrev u7(a:Nat×Nat×cL×Fo):cL:=a.2.2.1
noncomputable abbrev uG(a:Nat×Nat×cL×Fo):Sl:=a.2.2.2.columns
noncomputable abbrev GV(a:Nat×Nat×cL×Fo):Int:=a.2.2.2.table
attribute [push_cast] u7 uG GV
def Lu(v:bW)(i:Nat)(m:MH)(h:PH)(K:cr):Prop:=
  bI (λb o=>aA (bK (xJ v) b o) (0<=(↑i:Int)) ((↑i:Int)<aH v.tables/\∃(y:cL),aU m h b (bN o i 5) (Af y)/\M3 (λI x=>aA (I x) eK (aA dN (DY y x.2) (aA (DZ y x.2) (bB x.1) (aA (cM v) (Ee y x) (bP (m=m) h h))))) (λI j x=>I x->aX (↑x.1:Int) (aH x.2.references) (bI (λn t=>aA (bK x.2.references.a n t) (0<=(↑x.1:Int)) ((↑x.1:Int)<aH x.2.references/\∃(e:Fo),aU m h n (bN t x.1 2) (rL (hJ e.columns) (eN e.table))/\aX e.table 0 (K aZ m h) (gA e.table (lW v) (K aZ m h) (bI (λu z=>aA (bK (xJ v) u z) (0<=e.table) (e.table<aH v.tables/\∃(A:Int),aU m h u (fT z e.table 5+2) (bG A)/\dC (aH e.columns) A (K aZ m h) (∃(I1:Nat×Nat×cL×Fo->Prop)(B
 :Nat×Nat×cL×Fo->Nat),(∃(c:Nat×Nat×cL×Fo),aA (I1 c) eK (aA dN (eP 7) (aA (DY x.2 (u7 c)) (DZ x.2 (u7 c)) (aA (cO x.1 c.1) (bS e.columns (uG c)) (aA (cK e.columns (uG c)) (bB c.2.1) (aA (cM v) (oQ 87 (gV x.2)=oQ 87 (gV (u7 c))) (bO (oQ 146 (lL (vD e.columns) (fV e.table))=oQ 146 (lL (vD (uG c)) (fV (GV c)))) (m=m) (h=h))))))))/\∀(c:Nat×Nat×cL×Fo),I1 c->aX (↑c.2.1:Int) (aH (uG c)) (bI (λC D=>aA (bK (uG c).a C D) (0<=(↑c.2.1:Int)) ((↑c.2.1:Int)<aH (uG c)/\∃(f:Int),aU m h C (bN D c.2.1 1) (bG f)/\aX f 0 (K aZ m h) (gA f (Aq (u7 c)) (K aZ m h) (bI (λE F=>aA (bK (u7 c).columns.a E F) (0<=f) (f<
 aH (u7 c).columns/\∃(G:Int),aU m h E (fT F f 2+1) (bG G)/\eA (xJ v) (GV c) v.tables (λM O g=>aU m h M (fT O (GV c) 5+1) (aY g)/\bI (λH J=>aA (bK g.a H J) (0<=(↑c.2.1:Int)) ((↑c.2.1:Int)<aH g/\∃(L:Int),aU m h H (bN J c.2.1 2+1) (bG L)/\dC G L (K aZ m h) (∃(d:Nat×Nat×cL×Fo),aA (I1 d) (B d<B c) (aA eK dN (aA (eP 7) (DY (u7 c) (u7 d)) (aA (DZ (u7 c) (u7 d)) (cO c.1 d.1) (aA (bS (uG c) (uG d)) (cK (uG c) (uG d)) (aA (bD (gG (bF c.2.1 1)) d.2.1) (cM v) (aA (oQ 87 (gV (u7 c))=oQ 87 (gV (u7 d))) (oQ 146 (lL (vD (uG c)) (fV (GV c)))=oQ 146 (lL (vD (uG d)) (fV (GV d)))) (aA (m=m)
 (h=h) True)))))))))))))))))) (∃(d:Nat×cL),aA (I d) (j d<j x) (aA eK dN (aA (DY (u7 c) d.2) (DZ (u7 c) d.2) (aA (bD (gG (bF c.1 1)) d.1) (cM v) (bO (Ee (u7 c) d) (m=m) (h=h)))))))))))))) (gO K m h))))
theorem Ints.at'{s:Sl}(r:Ints h s l){x:Int}(c:l[i]? =some x):∃b o,s.a=some ⟨b,o,none⟩/\bM h b (o+i*1) [.int .i64 x]:=by
 obtain⟨b,o,e,k⟩:=r.at c
 grind
theorem T4{α:Type}{l:List α}{x:α}(h:l[i]? =some x):(l.take i).length=i:=by
 grind
theorem Good.key_le{tabs:List C1}(h:Good DH tabs){g:C1}(c:tabs[i]? =some g):g.key<=g.columns.length:=(h i g c).2.2.1
theorem bHJ{v:bW}(P:iA h s v)(C:Good DH s.tables)(hK:∀r:Bool,(r=true↔Good (Fj s.tables) s.tables)->K (cB r) m h):Ls v m h K:=by
 dsimp only[Ls,push_cast];have hl:=P.tables.slen;have a8:=P.tables.len;have hf:¬Good (Fj s.tables) s.tables->K (.val (.bool false)) m h:=λh=>hK false ⟨λe=>(by cases e),λe=>(h e).elim⟩;refine⟨λi=>i<=s.tables.length/\fJ (Fj s.tables) s.tables i,λi=>s.tables.length-i,⟨0,⟨aD,.zero⟩,MT⟩,λi⟨hi,hg⟩=>aF (λH=>?_) (λb1=>hK true ⟨λ_=>hg.all aD,λ_=>rfl⟩)⟩;obtain⟨t,R⟩:=eU hl H;obtain⟨b,o,w,ea,hr,f⟩:=P.tables.at R;have b7:=bZ.slen f.columns;have S:=bZ.slen f.refs;have b8:=bZ.len f.refs;refine⟨b,o,ea,aD,H,w,.imm hr,λ⟨T,k,U⟩=>T=i/\U=w/\k<=t.refs.length/\fJ (bhJ s.tables t) t.refs k,λ⟨_,k,_⟩=>t.refs.length-k,⟨(i,0,w),⟨rfl,rfl,aD,.zero⟩,MT⟩,?_⟩;rintro⟨i,k,w⟩ ⟨rfl,rfl,hk,I⟩;dsimp only;refine aF (λA=>?_) (λa9=>⟨i+1,⟨aD,hg.succ R (I.all aD)⟩,aD,MT⟩);obtain⟨r,D⟩:=eU S A;obtain⟨b2,o2,F,V,W,d⟩:=f.refs.at D;have X:=d.columns.slen;have b9:=d.columns.len;have rt:=d.table;have bad:¬bhJ s.tables t (t.refs.take k) r->K (.val (.bool false)) m h:=λhn=>hf (Good.not R (Good.not D hn));refine⟨b2,o2,V,aD,A,F,.imm W,aF (λh1=>bad λu=>?_) (λh1=>aF (λh2=>bad λu=>?_) (λh2=>?_))⟩
 .have:=u.1;omega
 .have:=u.2.1;omega
 obtain⟨g,b3,o3,G,J,Y,Z,n⟩:=P.table (t:=F.table) aD aD;have c':=bZ.slen n.columns;have b':=C.key_le J;have gk:=n.key;refine⟨b3,o3,Y,aD,aD,G,.imm Z,aC (λh3=>bad λu=>?_) (λh3=>?_)⟩
 .obtain⟨_,_,g',E,c0,_⟩:=u
  grind
 have h3:(F.columns.len:Int)=G.key:=bg
 refine⟨λ⟨T,k',j,U,g',sl⟩=>T=i/\k'=k/\U=w/\g'=G/\sl=F.columns/\j<=r.columns.length/\fJ (λa' c=>Io t g a'.length c) r.columns j,λ⟨_,_,j,_,_,_⟩=>r.columns.length-j,⟨(i,k,0,w,G,F.columns),⟨rfl,rfl,rfl,rfl,rfl,aD,.zero⟩,MT⟩,?_⟩;rintro⟨i,k,j,w,G,_⟩ ⟨rfl,rfl,rfl,rfl,rfl,hj,L⟩;dsimp only;refine aF (λB=>?_) (λb0=>⟨(i,k+1,w),⟨rfl,rfl,bg,I.succ D ⟨aD,aD,g,bg,aD,L.all aD⟩⟩,bg,MT⟩);obtain⟨c,Q⟩:=eU X B;obtain⟨b4,o4,a0,a1⟩:=d.columns.at' Q;have a2:=T4 Q
 have z:¬Io t g j c->K (.val (.bool false)) m h:=λhn=>bad λu=>by
  obtain⟨_,_,g',E,_,a3⟩:=u;rw[<-rt,J]at E;cases E;have:=a3 j c Q
  grind
 refine⟨b4,o4,a0,aD,B,c,.imm a1,aF (λh5=>z λu=>?_) (λh5=>aF (λh6=>z λu=>?_) (λh6=>?_))⟩
 .have:=u.1;omega
 .have:=u.2.1;omega
 obtain⟨x,M⟩:∃x,t.columns[c.toNat]? =some x:=⟨t.columns[c.toNat]'(by omega),bo _⟩
 obtain⟨y,O⟩:∃y,g.columns[j]? =some y:=⟨g.columns[j]'(by omega),bo _⟩
 obtain⟨b5,o5,a4,a5⟩:=Fp.at f.columns M;obtain⟨b6,o6,a6,a7⟩:=Fp.at n.columns O;refine⟨b5,o5,a4,aD,aD,x.kind,.imm (bM.part a5 1 1),b6,o6,a6,aD,aD,y.kind,.imm (bM.part a7 1 1),aC (λh7=>z λu=>?_) (λh7=>?_)⟩
 .obtain⟨_,_,x',y',e1,e2,e3⟩:=u
  grind
 .exact⟨(i,k,j+1,w,G,F.columns),⟨rfl,rfl,rfl,rfl,rfl,bg,L.succ Q (by show Io t g (List.take j r.columns).length c;rw[a2];exact⟨aD,aD,x,y,M,O,bg⟩)⟩,bg,MT⟩
theorem Ym:cm 155 bhZ:=by
 refine iH func155 ?_;rintro c m h K ⟨v,s,rfl,d,e,f⟩;refine⟨a4X v m h,rfl,aG,Ls v m h K,ax,?_⟩;exact bHJ d e f
theorem bIQ{v:bW}{t:C1}(P:iA h s v)(C:Good DH s.tables)(hx:s.tables[i]? =some t)(hK:∀r:Bool,(r=true↔Fj s.tables [] t)->K (cB r) m h):Lu v i m h K:=by
 dsimp only[Lu,push_cast];have hl:=P.tables.slen;have a5:=P.tables.len;have a9:i<s.tables.length:=(bm hx);have hf:¬Fj s.tables [] t->K (.val (.bool false)) m h:=λh=>hK false ⟨λe=>(by cases e),λe=>(h e).elim⟩;obtain⟨b,o,w,ea,hr,f⟩:=P.tables.at hx;have b':=bZ.slen f.columns;have R:=bZ.slen f.refs;have b0:=bZ.len f.refs;refine⟨b,o,ea,aD,aD,w,.imm hr,λ⟨k,S⟩=>S=w/\k<=t.refs.length/\fJ (bhJ s.tables t) t.refs k,λ⟨k,_⟩=>t.refs.length-k,⟨(0,w),⟨rfl,aD,.zero⟩,MT⟩,?_⟩;rintro⟨k,w⟩ ⟨rfl,hk,G⟩;dsimp only;refine aF (λA=>?_) (λa6=>hK true ⟨λ_=>G.all aD,λ_=>rfl⟩);obtain⟨r,D⟩:=eU R A;obtain⟨b2,o2,E,T,U,d⟩:=f.refs.at D;have V:=d.columns.slen;have b1:=d.columns.len;have rt:=d.table;have bad:¬bhJ s.tables t (t.refs.take k) r->K (.val (.bool false)) m h:=λhn=>hf (Good.not D hn);refine⟨b2,o2,T,aD,A,E,.imm U,aF (λh1=>bad λu=>?_) (λh1=>aF (λh2=>bad λu=>?_) (λh2=>?_))⟩
 .have:=u.1;omega
 .have:=u.2.1;omega
 obtain⟨g,b3,o3,W,H,I,J,n⟩:=P.table (t:=E.table) aD aD;have b7:=bZ.slen n.columns;have a7:=C.key_le H;have gk:=n.key;refine⟨b3,o3,I,aD,aD,W.key,.imm (bM.part J 2 1),aC (λh3=>bad λu=>?_) (λh3=>?_)⟩
 .obtain⟨_,_,g',F,b8,_⟩:=u
  grind
 have h3:(E.columns.len:Int)=W.key:=bg
 refine⟨λ⟨k',j,S,r'⟩=>k'=k/\S=w/\r'=E/\j<=r.columns.length/\fJ (λX c=>Io t g X.length c) r.columns j,λ⟨_,j,_,_⟩=>r.columns.length-j,⟨(k,0,w,E),⟨rfl,rfl,rfl,aD,.zero⟩,MT⟩,?_⟩;rintro⟨k,j,w,E⟩ ⟨rfl,rfl,rfl,hj,L⟩;dsimp only;refine aF (λB=>?_) (λa8=>⟨(k+1,w),⟨rfl,aD,G.succ D ⟨aD,aD,g,bg,aD,L.all aD⟩⟩,aD,MT⟩);obtain⟨c,Q⟩:=eU V B;obtain⟨b4,o4,Y,Z⟩:=d.columns.at' Q;have a':=T4 Q
 have z:¬Io t g j c->K (.val (.bool false)) m h:=λhn=>bad λu=>by
  obtain⟨_,_,g',F,_,a0⟩:=u;rw[<-rt,H]at F;cases F;have:=a0 j c Q
  grind
 refine⟨b4,o4,Y,aD,B,c,.imm Z,aF (λh5=>z λu=>?_) (λh5=>aF (λh6=>z λu=>?_) (λh6=>?_))⟩
 .have:=u.1;omega
 .have:=u.2.1;omega
 obtain⟨x,M⟩:∃x,t.columns[c.toNat]? =some x:=⟨t.columns[c.toNat]'(by omega),bo _⟩
 obtain⟨y,O⟩:∃y,g.columns[j]? =some y:=⟨g.columns[j]'(by omega),bo _⟩
 obtain⟨b5,o5,a1,a2⟩:=Fp.at f.columns M;obtain⟨b6,o6,a3,a4⟩:=Fp.at n.columns O;refine⟨b5,o5,a1,aD,aD,x.kind,.imm (bM.part a2 1 1),b3,o3,I,aD,aD,W.columns,.imm (bM.part J 1 1),b6,o6,a3,aD,aD,y.kind,.imm (bM.part a4 1 1),aC (λh7=>z λu=>?_) (λh7=>?_)⟩
 .obtain⟨_,_,x',y',e1,e2,e3⟩:=u
  grind
 .exact⟨(k,j+1,w,E),⟨rfl,rfl,rfl,bg,L.succ Q (by show Io t g (List.take j r.columns).length c;rw[a'];exact⟨aD,aD,x,y,M,O,bg⟩)⟩,bg,MT⟩
theorem Yo:cm 150 abX:=by
 refine iH func150 ?_;rintro c m h K ⟨v,s,t,i,rfl,d,e,f,g⟩;refine⟨a5X v m h,rfl,aG,Lu v i m h K,ax,?_⟩;exact bIQ d e f g
def Pp(t:C1):Prop:=t.columns.length<=8/\t.refs.length<=4/\t.checks.length<=4
def Dl(s:jB):Prop:=s.tables.length<=8/\Good (λ_ t=>Pp t) s.tables
def Kq(s:jB):Prop:=0<=s.version/\s.version<=1000/\Good DH s.tables/\Good (Fj s.tables) s.tables
def vJ:cq->Int
 |[]=>0
 |e::r=>if e=0 then vJ r else e
def wZ(s:jB)(i:Nat):cq:=match s.tables[i]? with|some t=>t.checks.map (fX (jL s i) [])|none=>[]
theorem A3(a b:cq)(h:∀e∈a,e=0):vJ (a++b)=vJ b:=by
 induction a with
 |nil=>rfl
 |cons x a c=>
  simp only[cons_append,vJ];rw[if_pos (h x ay),c λe d=>h e (by simp[d])]
theorem Di(a:cq)(h:∀e∈a,e=0):vJ a=0:=by
 have:=A3 a [] h;simpa[vJ]using this
theorem Mx{n k:Nat}{f:Nat->cq}{e:Int}(o:i<n)(t:∀j<i,∀x∈f j,x=0)(c:∀x∈(f i).take k,x=0)(d:(f i)[k]? =some e)(g:e≠0):vJ ((List.range n).flatMap f)=e:=by
 obtain⟨r,rfl⟩:∃r,n=i+(1+r):=⟨n-i-1,aD⟩
 rw[range_add,flatMap_append,A3]
 .rw[show(List.range (1+r)).map (i+ ·)=i::(range' (i+1) r)from ?_,flatMap_cons, <-take_append_drop k (f i),append_assoc,A3 _ _ c,drop_cons d]
  .simp[vJ,g]
  .rw[Nat.add_comm 1 r,range_succ_eq_map];simp[range'_eq_map_range,Nat.add_assoc,Nat.add_comm 1]
 grind
open Classical in
noncomputable def dH(s:jB):Int:=if Dl s then(if Kq s then vJ ((List.range s.tables.length).flatMap (wZ s))else 70)else 2
def BQ:Vc.Spec:=λc m h K=>∃v s,c=[aS v]/\iA h s v/\K (cI (dH s)) m h
noncomputable def bwJ(v:bW)(m:MH)(h:PH):Ctx:=
 dD [(154,bjJ),(155,bhZ),(139,yJ),(156,tV)] [(4,{A:=Nat,st:=λi=>bQ 83 84 [(1,.at (.ptr 1 0)),(16,sv v.tables),(17,iv v.tables.len),(18,iv i)] [(1,.cells 43 (v.enc.map .val))] m h}),
  (12,{A:=Nat×PH,st:=λ⟨i,c⟩=>bQ 83 84 [(1,.at (.ptr 1 0)),(58,sv v.tables),(59,iv v.tables.len),(60,iv i)] [(1,.cells 43 (v.enc.map .val))] m c}),
  (16,{A:=Nat×Nat×Sl×Sl×PH,st:=λ⟨i,k,ks,d,c⟩=>bQ 83 84 [(1,.at (.ptr 1 0)),(7,sv ks),(58,sv v.tables),(59,iv v.tables.len),(60,iv i),(69,sv d),(70,iv d.len),(71,iv k)] [(1,.cells 43 (v.enc.map .val))] m c})] [] [] false
noncomputable def bxZ(v:bW)(m:MH)(h:PH):Ctx:=
 dD [(149,bfX),(150,abX),(46,yJ),(94,tV)] [(4,{A:=Nat,st:=λi=>bQ 96 97 [(1,.at (.ptr 1 0)),(16,sv v.tables),(17,iv v.tables.len),(18,iv i)] [(1,.cells 43 (v.enc.map .val))] m h}),
  (12,{A:=Nat,st:=λi=>bQ 96 97 [(1,.at (.ptr 1 0)),(49,iv v.tables.len),(50,iv i)] [(1,.cells 43 (v.enc.map .val))] m h}),
  (18,{A:=Nat,st:=λi=>bQ 96 97 [(1,.at (.ptr 1 0)),(60,iv v.tables.len),(61,iv i)] [(1,.cells 43 (v.enc.map .val))] m h}),
  (24,{A:=Nat×PH,st:=λ⟨i,c⟩=>bQ 96 97 [(1,.at (.ptr 1 0)),(71,iv v.tables.len),(72,iv i)] [(1,.cells 43 (v.enc.map .val))] m c}),
  (27,{A:=Nat×Nat×Sl×PH,st:=λ⟨i,k,d,c⟩=>bQ 96 97 [(1,.at (.ptr 1 0)),(7,iv i),(71,iv v.tables.len),(72,iv i),(80,sv d),(81,iv d.len),(82,iv k)] [(1,.cells 43 (v.enc.map .val))] m c})] [] [] false
abbrev Cw(a:dk)(b:PH)(c:Sl->PH->Prop):Prop:=xK (λx d=>∃(f:Int),aA (a=bC (fM (cD x)) f) (iA b d x) (mC d/\jJ (λg e=>cZ b e (Ints e g (jL d f)) (c g e))))
noncomputable abbrev zW(a:Nat×Nat×Sl×Sl×PH):Sl:=a.2.2.2.1
noncomputable abbrev CO(a:Nat×Nat×Sl×Sl×PH):Nat->Nat->Option Value:=a.2.2.2.2
abbrev HZ(a:cq->cq->Prop):Prop:=∃(x c:cq),a x c
abbrev D9(a:dk)(b:PH)(c:cq->cq->Pred->Prop):Prop:=nA (λx d=>∃(e:PV),HZ (λf g=>∃(j:Pred),aA (a=dJ x (jA d (jU e))) (Ints b x f) (aA (Ints b d g) (dO b j e) (c f g j))))
attribute [push_cast] Cw zW CO HZ D9
def OI(v:bW)(m:MH)(h:PH)(K:cr):Prop:=
  eZ (lW v) 8 (K (eV 2) m h) (nO (λI x=>aA (I x) eG (aA (sH v) (kD v) (aA (bB x) (cM v) (aA (m=m) (h=h) True)))) (λI j x=>Gs (I x) x v (λb o y=>aU m h b (bN o x 5) (Af y)/\nX (decide (Aq y>8)) (K (eV 2) m h) (aH y.references) 4 (K (eV 2) m h) (eZ (aH y.checks) 4 (K (eV 2) m h) (∃(e:Nat),aA (I e) (j e<j x) (aA eG (sH v) (aA (kD v) (bD (gG (bF x 1)) e) (aA (cM v) (m=m) (bL h h))))))) (aX v.version 0 (K (eV 70) m h) (eZ v.version 1000 (K (eV 70) m h) (xK (λn s=>aA (fP (fM (cD v)) (fM (cD n))) (iA h s n) (∀(r:Bool),gQ (gI r↔Good DH s.tables) (!r) (K (eV 70) m h) (xK (λt g=>aA (fP (fM (cD v)) (fM (cD t))) (iA h g t) (Good DH g.tables/\∀(u:Bool),gQ
 (gI u↔Good (Fj g.tables) g.tables) (!u) (K (eV 70) m h) (∃(I1:Nat×PH->Prop)(z:Nat×PH->Nat),(∃(e:Nat×PH),aA (I1 e) eG (aA (sH v) (kD v) (aA (bB e.1) (cM v) (aA (m=m) (h=e.2) True))))/\∀(e:Nat×PH),Gs (I1 e) e.1 v (λb o y=>aU m e.2 b (bN o e.1 5) (Af y)/\Cw (bC (fM (cD v)) (↑e.1:Int)) e.2 (λF G=>∃(I2:Nat×Nat×Sl×Sl×PH->Prop)(A:Nat×Nat×Sl×Sl×PH->Nat),(∃(d:Nat×Nat×Sl×Sl×PH),aA (I2 d) eG (aA (bS F d.2.2.1) (sH v) (aA (kD v) (cO e.1 d.1) (aA (bS y.checks (zW d)) (cK y.checks (zW d)) (uZ (bB d.2.1) (cM v) (m=m) G (CO d))))))/\∀(d:Nat×Nat×Sl×Sl×PH),I2 d->aX (↑d.2.1:Int) (aH (zW d)) (bI (λB C=>aA (bK (zW d).a
 B C) (0<=(↑d.2.1:Int)) ((↑d.2.1:Int)<aH (zW d)/\∃(D:PV),aU m (CO d) B (bN C d.2.1 13) D.enc/\D9 (dJ d.2.2.1 (gZ jQ (fM D.enc))) (CO d) (λc p E=>dC (fX c p E) 0 (K (eV (fX c p E)) m (CO d)) (∃(f:Nat×Nat×Sl×Sl×PH),aA (I2 f) (A f<A d) (aA eG (bS d.2.2.1 f.2.2.1) (aA (aI v.tables) (kD v) (aA (cO d.1 f.1) (bS (zW d) (zW f)) (aA (cK (zW d) (zW f)) (bD (gG (bF d.2.1 1)) f.2.1) (aA (cM v) (m=m) (bL (CO d) (CO f)))))))))))) (∃(f:Nat×PH),aA (I1 f) (z f<z e) (aA eG (sH v) (aA (kD v) (bD (gG (bF d.1 1)) f.1) (aA (cM v) (m=m) (bL (CO d) f.2))))))) (K (eV 0) m e.2))))))))))))
noncomputable abbrev zX(a:Nat×Nat×Sl×PH):Sl:=a.2.2.1
attribute [push_cast] zX
def OJ(v:bW)(m:MH)(h:PH)(K:cr):Prop:=
  eZ (lW v) 8 (K (eV 2) m h) (nO (λI x=>aA (I x) eG (aA (sH v) (kD v) (aA (bB x) (cM v) (aA (m=m) (h=h) True)))) (λI z x=>Gs (I x) x v (λb o y=>aU m h b (bN o x 5) (Af y)/\nX (decide (Aq y>8)) (K (eV 2) m h) (aH y.references) 4 (K (eV 2) m h) (eZ (aH y.checks) 4 (K (eV 2) m h) (∃(g:Nat),aA (I g) (z g<z x) (aA eG (sH v) (aA (kD v) (bD (gG (bF x 1)) g) (aA (cM v) (m=m) (bL h h))))))) (aX v.version 0 (K (eV 70) m h) (eZ v.version 1000 (K (eV 70) m h) (nO (λI1 g=>aA (I1 g) eG (aA (kD v) (bB g) (bO (cM v) (m=m) (h=h)))) (λI1 A g=>I1 g->aX (↑g:Int) (aH v.tables) (xK (λn s=>∃(t:C1)(i:Nat),aA (bC (fM (cD v)) (↑g:Int)=bC (fM (cD n)) (↑i:
 Int)) (iA h s n) (s.tables[i]? =Option.some t/\∀(r:Bool),gQ (gI r↔DH (List.take i s.tables) t) (!r) (K (eV 70) m h) (∃(j:Nat),aA (I1 j) (A j<A g) (aA eG (kD v) (aA (bD (gG (bF g 1)) j) (cM v) (aA (m=m) (h=h) True))))))) (nO (λI2 j=>aA (I2 j) eG (aA (kD v) (bB j) (bO (cM v) (m=m) (h=h)))) (λI2 B j=>I2 j->aX (↑j:Int) (aH v.tables) (xK (λn s=>∃(t:C1)(i:Nat),aA (bC (fM (cD v)) (↑j:Int)=bC (fM (cD n)) (↑i:Int)) (iA h s n) (aA (Good DH s.tables) (s.tables[i]? =Option.some t) (∀(r:Bool),gQ (gI r↔Fj s.tables [] t) (!r) (K (eV 70) m h) (∃(e:Nat),aA (I2 e) (B e<B j) (aA eG (kD v) (aA (bD (gG (bF j 1)) e) (cM v) (aA (m=m) (h=h) True)))))))) (∃(I3:Nat×PH->
 Prop)(C:Nat×PH->Nat),(∃(e:Nat×PH),aA (I3 e) eG (aA (kD v) (bB e.1) (bO (cM v) (m=m) (h=e.2))))/\∀(e:Nat×PH),I3 e->aX (↑e.1:Int) (aH v.tables) (eA (xJ v) (↑e.1:Int) v.tables (λb o y=>aU m e.2 b (bN o e.1 5+4) (aY y)/\∃(I4:Nat×Nat×Sl×PH->Prop)(D:Nat×Nat×Sl×PH->Nat),(∃(d:Nat×Nat×Sl×PH),aA (I4 d) eG (aA (cO e.1 d.1) (kD v) (aA (cO e.1 d.1) (bS y (zX d)) (aA (cK y (zX d)) (bB d.2.1) (bO (cM v) (m=m) (e.2=d.2.2.2))))))/\∀(d:Nat×Nat×Sl×PH),I4 d->aX (↑d.2.1:Int) (aH (zX d)) (bI (λE F=>aA (bK (zX d).a E F) (0<=(↑d.2.1:Int)) ((↑d.2.1:Int)<aH (zX d)/\∃(G:PV),aU m d.2.2.2 E (bN F d.2.1 13) G.enc/\Cw (bC (fM
 (cD v)) (↑d.1:Int)) d.2.2.2 (λs u=>D9 (dJ s (gZ jQ (fM G.enc))) u (λc p H=>dC (fX c p H) 0 (K (eV (fX c p H)) m u) (∃(f:Nat×Nat×Sl×PH),aA (I4 f) (D f<D d) (aA eG (cO d.1 f.1) (aA (kD v) (cO d.1 f.1) (aA (bS (zX d) (zX f)) (cK (zX d) (zX f)) (uZ (bD (gG (bF d.2.1 1)) f.2.1) (cM v) (m=m) u f.2.2.2)))))))))) (∃(f:Nat×PH),aA (I3 f) (C f<C e) (aA eG (kD v) (aA (bD (gG (bF d.1 1)) f.1) (cM v) (aA (m=m) (d.2.2.2=f.2) True)))))) (K (eV 0) m e.2))))))))))
theorem kX.out{d:PH}{r:CV}(e:Sub m m')(c:PH.le h d)(f:K r m h):kX h K r m' d:=⟨m,h,e,.refl _,c,f⟩
theorem v8(h:¬Dl s):dH s=2:=by unfold dH;rw[if_neg h]
theorem NP(h:Dl s)(h':¬Kq s):dH s=70:=by unfold dH;grind
theorem KC(h:Dl s)(h':Kq s):dH s=vJ ((List.range s.tables.length).flatMap (wZ s)):=by unfold dH;grind
theorem DM{k:Nat}{t:C1}(c:s.tables[i]? =some t)(d:t.checks[k]? =some p):(wZ s i)[k]? =some (fX (jL s i) [] p):=by
 unfold wZ;grind
theorem L3{t:C1}(c:s.tables[i]? =some t):(wZ s i).length=t.checks.length:=by
 unfold wZ;rw[c];simp
theorem P5{k:Nat}{e:Int}(c:l[k]? =some e)(h:∀x∈l.take k,x=0)(f:e=0):∀x∈l.take (k+1),x=0:=by
 intro x d;rw[cd,c,mem_append]at d
 grind
theorem TT{f:Nat->cq}{k:Nat}(h:∀j<i,∀x∈f j,x=0)(d:(f i).length<=k)(c:∀x∈(f i).take k,x=0):∀j<i+1,∀x∈f j,x=0:=by
 intro j n x g;by_cases e:j=i
 .subst e;rw[bu d]at c;exact c x g
 grind
theorem K8:cm 90 BQ:=by
 refine Fm func90 ?_;rintro a0 m h K ⟨v,s,rfl,y,hK⟩;refine⟨bwJ v m h,rfl,aE Yn (aE Ym (aE EZ (aE H8 aG))),OI v m h (kX h K),ax,?_⟩;show OI v m h (kX h K);dsimp only[OI,push_cast];have W:=y.tables.slen;have X:=y.tables.len;have Y:=y.version;have out:∀(f:PH)(x:Int),PH.le h f->dH s=x->kX h K (.val (.int .i64 x)) m f:=λf x g e=>.out (Sub.refl m) g (by rw[<-e];exact hK);refine aF (λh1=>out h _ (.refl _) (v8 λe=>by have:=e.1;omega)) (λh1=>?_);refine⟨λi=>i<=s.tables.length/\fJ (λ_ t=>Pp t) s.tables i,λi=>s.tables.length-i,⟨0,⟨aD,.zero⟩,MT⟩,λi⟨hi,Z⟩=>aF (λn=>?_) (λO=>?_)⟩
 .obtain⟨t,f⟩:=eU W n;obtain⟨b,o,w,P,B,c⟩:=y.tables.at f;have e1:=bZ.slen c.columns;have e2:=bZ.slen c.refs;have e3:=bZ.slen c.checks;have bad:¬Pp t->kX h K (.val (.int .i64 2)) m h:=λQ=>out h _ (.refl _) (v8 λe=>Good.not f Q e.2);refine⟨b,o,P,aD,n,w,.imm B,aF (λR=>bad λe=>?_) (λR=>aF (λS=>bad λe=>?_) (λS=>aF (λI=>bad λe=>?_) (λI=>⟨i+1,⟨aD,Z.succ f ⟨aD,aD,aD⟩⟩,bg,MT⟩)))⟩
  .have:=e.1;omega
  .have:=e.2.1;omega
  .have:=e.2.2;omega
 have C:Dl s:=⟨aD,Z.all aD⟩
 have h8:mC s:=λt H=>by
  obtain⟨j,hj⟩:=mem_iff_getElem?.1 H;exact(C.2 j t hj).1
 have bad:¬Kq s->kX h K (.val (.int .i64 70)) m h:=λQ=>out h _ (.refl _) (NP C Q);refine aF (λR=>bad λe=>?_) (λR=>aF (λS=>bad λe=>?_) (λS=>⟨v,s,rfl,y,λr B=>aC (λI=>bad λe=>?_) (λI=>⟨v,s,rfl,y,B.1 bg,λr2 J=>aC (λT=>bad λe=>?_) (λT=>?_)⟩)⟩))
 .have:=e.1;omega
 .have:=e.2.1;omega
 .rw[B.2 e.2.2.1]at I;cases I
 .rw[J.2 e.2.2.2]at T;cases T
 have ok:Kq s:=⟨aD,aD,B.1 bg,J.1 bg⟩
 rw[KC C ok]at out;refine⟨λ⟨i,f⟩=>i<=s.tables.length/\PH.le h f/\∀j<i,∀x∈wZ s j,x=0,λ⟨i,_⟩=>s.tables.length-i,⟨(0,h),⟨aD,.refl _,λj hj=>by omega⟩,MT⟩,?_⟩;rintro⟨i,f⟩ ⟨hi,g,hz⟩;dsimp only;refine aF (λn=>?_) (λO=>out f _ g (Di _ λe he=>?_))
 .obtain⟨t,H⟩:=eU W n;obtain⟨b,o,w,P,B,c⟩:=(y.mono g).tables.at H;have cl:=bZ.slen c.checks;have cb:=bZ.len c.checks;refine⟨b,o,P,aD,n,w,.imm B,v,s,i,rfl,y.mono g,h8,λsl h' z D=>?_⟩;refine⟨λ⟨i',k,ks,cs,E⟩=>i'=i/\cs=w.checks/\k<=t.checks.length/\PH.le h' E/\Ints E ks (jL s i)/\∀x∈(wZ s i).take k,x=0,λ⟨_,k,_,_,_⟩=>t.checks.length-k,⟨(i,0,sl,w.checks,h'),⟨rfl,rfl,aD,.refl _,D,λx f=>by simp at f⟩,MT⟩,?_⟩;rintro⟨i,k,ks,_,E⟩ ⟨rfl,rfl,hk,u,d,F⟩;dsimp only;have L:PH.le h E:=(g.trans z).trans u;refine aF (λA=>?_) (λa'=>⟨(i+1,E),⟨aD,L,TT hz (k:=k) (by rw[L3 H];omega) F⟩,aD,MT⟩);obtain⟨p,U⟩:=eU cl A;obtain⟨b2,o2,pv,V,M,G⟩:=((c.checks.mono z).mono u).at U;refine⟨b2,o2,V,aD,A,pv,.imm M,ks,⟨none,0,0⟩,pv,jL s i,[],p,rfl,d,⟨.nil _ _,ay⟩,G,aC (λh6=>?_) (λh6=>?_)⟩
  .exact out E _ L (Mx aD hz F (DM H U) bg)
  .exact⟨(i,k+1,ks,w.checks,E),⟨rfl,rfl,bg,u,d,P5 (DM H U) F bg⟩,bg,MT⟩
 .grind
theorem aqZ:cm 86 BQ:=by
 refine Fm func86 ?_;rintro a0 m h K ⟨v,s,rfl,C,hK⟩;refine⟨bxZ v m h,rfl,aE Yp (aE Yo (aE Lb (aE K7 aG))),OJ v m h (kX h K),ax,?_⟩;show OJ v m h (kX h K);dsimp only[OJ,push_cast];have Q:=C.tables.slen;have Y:=C.tables.len;have Z:=C.version;have out:∀(c:PH)(x:Int),PH.le h c->dH s=x->kX h K (.val (.int .i64 x)) m c:=λc x n e=>.out (Sub.refl m) n (by rw[<-e];exact hK);refine aF (λh1=>out h _ (.refl _) (v8 λe=>by have:=e.1;omega)) (λh1=>?_);refine⟨λi=>i<=s.tables.length/\fJ (λ_ t=>Pp t) s.tables i,λi=>s.tables.length-i,⟨0,⟨aD,.zero⟩,MT⟩,λi⟨M,u⟩=>aF (λf=>?_) (λg=>?_)⟩
 .obtain⟨t,c⟩:=eU Q f;obtain⟨b,o,w,S,A,d⟩:=C.tables.at c;have e1:=bZ.slen d.columns;have e2:=bZ.slen d.refs;have e3:=bZ.slen d.checks;have bad:¬Pp t->kX h K (.val (.int .i64 2)) m h:=λT=>out h _ (.refl _) (v8 λe=>Good.not c T e.2);refine⟨b,o,S,aD,f,w,.imm A,aF (λU=>bad λe=>?_) (λU=>aF (λV=>bad λe=>?_) (λV=>aF (λB=>bad λe=>?_) (λB=>⟨i+1,⟨aD,u.succ c ⟨aD,aD,aD⟩⟩,bg,MT⟩)))⟩
  .have:=e.1;omega
  .have:=e.2.1;omega
  .have:=e.2.2;omega
 have F:Dl s:=⟨aD,u.all aD⟩
 have h8:mC s:=λt O=>by
  obtain⟨j,hj⟩:=mem_iff_getElem?.1 O;exact(F.2 j t hj).1
 have bad:¬Kq s->kX h K (.val (.int .i64 70)) m h:=λT=>out h _ (.refl _) (NP F T);refine aF (λU=>bad λe=>?_) (λU=>aF (λV=>bad λe=>?_) (λV=>?_))
 .have:=e.1;omega
 .have:=e.2.1;omega
 clear M u g;refine⟨λi=>i<=s.tables.length/\fJ DH s.tables i,λi=>s.tables.length-i,⟨0,⟨aD,.zero⟩,MT⟩,λi⟨M,u⟩=>aF (λf=>?_) (λg=>?_)⟩
 .obtain⟨t,c⟩:=eU Q f;refine⟨v,s,t,i,rfl,C,c,λr A=>aC (λB=>bad λe=>?_) (λB=>⟨i+1,⟨aD,u.succ c (A.1 bg)⟩,bg,MT⟩)⟩;rw[A.2 (e.2.2.1 i t c)]at B;cases B
 have D:=u.all aD;clear M u g;refine⟨λi=>i<=s.tables.length/\fJ (Fj s.tables) s.tables i,λi=>s.tables.length-i,⟨0,⟨aD,.zero⟩,MT⟩,λi⟨M,u⟩=>aF (λf=>?_) (λg=>?_)⟩
 .obtain⟨t,c⟩:=eU Q f;refine⟨v,s,t,i,rfl,C,D,c,λr A=>aC (λB=>bad λe=>?_) (λB=>⟨i+1,⟨aD,u.succ c (A.1 bg)⟩,bg,MT⟩)⟩;rw[A.2 (e.2.2.2 i t c)]at B;cases B
 have G:=u.all aD;clear M u g;have ok:Kq s:=⟨aD,aD,D,G⟩
 rw[KC F ok]at out;refine⟨λ⟨i,c⟩=>i<=s.tables.length/\PH.le h c/\∀j<i,∀x∈wZ s j,x=0,λ⟨i,_⟩=>s.tables.length-i,⟨(0,h),⟨aD,.refl _,λj hj=>by omega⟩,MT⟩,?_⟩;rintro⟨i,c⟩ ⟨M,n,hz⟩;dsimp only;refine aF (λf=>?_) (λg=>out c _ n (Di _ λe he=>?_))
 .obtain⟨t,O⟩:=eU Q f;obtain⟨b,o,w,S,A,d⟩:=(C.mono n).tables.at O;have cl:=bZ.slen d.checks;have cb:=bZ.len d.checks;refine⟨b,o,S,aD,f,w.checks,.imm (bM.part A 4 1),?_⟩;refine⟨λ⟨i',k,cs,R⟩=>i'=i/\cs=w.checks/\k<=t.checks.length/\PH.le c R/\∀x∈(wZ s i).take k,x=0,λ⟨_,k,_,_⟩=>t.checks.length-k,⟨(i,0,w.checks,c),⟨rfl,rfl,aD,.refl _,λx c=>by simp at c⟩,MT⟩,?_⟩;rintro⟨i,k,_,R⟩ ⟨rfl,rfl,hk,y,H⟩;dsimp only;have I:PH.le h R:=n.trans y;refine aF (λE=>?_) (λa'=>⟨(i+1,R),⟨aD,I,TT hz (k:=k) (by rw[L3 O];omega) H⟩,aD,MT⟩);obtain⟨p,W⟩:=eU cl E;obtain⟨b2,o2,pv,X,P,J⟩:=(d.checks.mono y).at W;refine⟨b2,o2,X,aD,E,pv,.imm P,v,s,i,rfl,C.mono I,h8,λsl h' z L=>⟨sl,⟨none,0,0⟩,pv,jL s i,[],p,rfl,L,⟨.nil _ _,ay⟩,J.mono z,aC (λh6=>?_) (λh6=>?_)⟩⟩
  .exact out h' _ (I.trans z) (Mx aD hz H (DM O W) bg)
  .exact⟨(i,k+1,w.checks,h'),⟨rfl,rfl,bg,y.trans z,P5 (DM O W) H bg⟩,bg,MT⟩
 .grind
mutual
def pZ:Query->Int->Int
 |.mk _ _ _ _ _ _ _ _ args,n=>kZ args (n+1)
def kZ:cz->Int->Int
 |[],n=>n
 |p::ps,n=>if n<=24 then kZ ps (pZ p n)else n
end
mutual
def sX:Query->Nat->Bool
 |.mk _ _ _ _ _ _ _ _ _,0=>true
 |.mk _ _ _ _ _ _ _ _ args,n+1=>AI args n
def AI:cz->Nat->Bool
 |[],_=>false
 |p::ps,n=>sX p n||AI ps n
end
mutual
theorem DV:∀(p:Query)(n:Int),n<=24->n<pZ p n/\pZ p n<=25
 |.mk _ _ _ _ _ _ _ _ args,n,h=>by
  have:=Hz args (n+1) aD;simp only[pZ];omega
theorem Hz:∀(ps:cz)(n:Int),n<=25->n<=kZ ps n/\kZ ps n<=25
 |[],n,h=>by simp only[kZ];omega
 |p::ps,n,h=>by
  simp only[kZ];split
  .rename_i c;have d:=DV p n c;have e:=Hz ps (pZ p n) d.2;omega
  .omega
end
theorem SX(ps:cz){n:Int}(h:¬n<=24):kZ ps n=n:=by
 cases ps
 .simp[kZ]
 .simp only[kZ,if_neg h]
theorem Kc(n:Nat):∀ps:cz,AI ps n=ps.any (sX · n)
 |[]=>by simp[AI]
 |p::ps=>by simp[AI,Kc n ps]
theorem cJ.args{p:Query}(r:cJ h p v):Fi h v.args p.args:=by
 cases p;exact r.parts.args_
def yU(q:Query):Bool:=decide (pZ q 0<=24)&& !sX q 8
def arity(op:Int):Int:=
 if op==1 then 0 else if op==2||op==3||op==9 then 1 else if op==4||op==5||op==6||op==7||op==8||op==10 then 2 else-1
def TM(N:Nat):Vc.Spec:=λc m h K=>∃v p k,c=[aQ v,cI k,cI 24]/\cJ h p v/\SizeOf.sizeOf p<N/\0<=k/\k<=24/\K (cI (pZ p k)) m h
def PF(N:Nat):Vc.Spec:=λc m h K=>∃v p,∃k:Nat,c=[aQ v,cI k]/\cJ h p v/\SizeOf.sizeOf p<N/\k<=100/\K (cB (sX p k)) m h
def aaZ:Vc.Spec:=λc m h K=>∃v p,c=[aQ v]/\cJ h p v/\K (cB (yU p)) m h
def PK:Vc.Spec:=λc m h K=>∃op,c=[cI op]/\K (cI (arity op)) m h
def Cg(l:cq)(n:Int):Bool:=decide (0<=n)&&decide (n<l.length)
def InS:Vc.Spec:=λc m h K=>∃s l n,c=[cS s,cI n]/\Ints h s l/\K (cB (Cg l n)) m h
noncomputable def a5Q(N:Nat)(v:QV)(m:MH)(h:PH):Ctx:=
 dD [(152,TM N)] [(3,{A:=Nat×Int,st:=λx=>bQ 31 34 [(1,iv x.2),(2,iv 24),(3,.at (.ptr 3 0)),(7,iv x.1)] [(3,.cells 38 (v.enc.map .val))] m h})] [] [] false
noncomputable def a4J(N:Nat)(v:QV)(k:Nat)(m:MH)(h:PH):Ctx:=
 dD [(153,PF N)] [(4,{A:=Nat,st:=λi=>bQ 23 25 [(1,iv k),(2,.at (.ptr 2 0)),(10,iv v.args.len),(11,iv i)] [(2,.cells 38 (v.enc.map .val))] m h})] [] [] false
abbrev eY(a:QV):Prop:=eQ (mZ 38 a.enc)
attribute [push_cast] eY
def RH(N:Nat)(v:QV)(k:Int)(m:MH)(h:PH)(K:cr):Prop:=
  ∃(I:Nat×Int->Prop)(e:Nat×Int->Nat),(∃(x:Nat×Int),aA (I x) (dR (fI (k+1)) x.2) (aA (gW 24) cG (aA (bB x.1) (eY v) (aA (m=m) (h=h) True))))/\∀(x:Nat×Int),I x->aX (↑x.1:Int) (aH v.args) (branch (decide (x.2<=24)) (bI (λb o=>aA (bK v.args.a b o) (0<=(↑x.1:Int)) ((↑x.1:Int)<aH v.args/\∃(y:QV),aU m h b (bN o x.1 21) y.enc/\qF (λf p=>∃(c:Int),aA (cE y.enc (bC (eV x.2) 24)=cE f.enc (bC (eV c) 24)) (cJ h p f) (aA (xE p N) (bV c) (c<=24/\∃(d:Nat×Int),aA (I d) (e d<e x) (aA (dR (pZ p c) d.2) (gW 24) (aA cG (bD (gG (bF x.1 1)) d.1) (aA (eY v) (m=m) (bL h h)))))))))) (K (eV x.2) m h)) (K (eV x.2) m h)
abbrev wA(a:QV):Prop:=bJ a.args
attribute [push_cast] wA
def RG(N:Nat)(v:QV)(k:Nat)(m:MH)(h:PH)(K:cr):Prop:=
  dW (↑k:Int) 0 (gO K m h) (nO (λI x=>aA (I x) (eQ (Hs k)) (aA eK (wA v) (aA (bB x) (eY v) (aA (m=m) (h=h) True)))) (λI e x=>I x->aX (↑x:Int) (aH v.args) (bI (λb o=>aA (bK v.args.a b o) (0<=(↑x:Int)) ((↑x:Int)<aH v.args/\∃(y:QV),aU m h b (bN o x 21) y.enc/\qF (λf p=>∃(c:Nat),aA (bC (eC y) (fI ((↑k:Int)-1))=bC (eC f) (↑c:Int)) (cJ h p f) (aA (xE p N) (c<=100) (branch (sX p c) (gO K m h) (∃(d:Nat),aA (I d) (e d<e x) (aA (eQ (Hs k)) eK (aA (wA v) (bD (gG (bF x 1)) d) (aA (eY v) (m=m) (bL h h))))))))))) (K aZ m h)))
def U6(N:Nat)(v:QV)(m:MH)(h:PH)(K:cr):Prop:=
  qF (λe p=>∃(k:Int),aA (cE v.enc (bC (eV 0) 24)=cE e.enc (bC (eV k) 24)) (cJ h p e) (aA (xE p N) (bV k) (fH (k<=24) (decide (pZ p k<=24)) (qF (λf c=>∃(d:Nat),aA (bC (eC v) 8=bC (eC f) (↑d:Int)) (cJ h c f) (aA (xE c N) (d<=100) (K (CV.val (Value.bool (!(sX c d)))) m h)))) (K aZ m h))))
def RT(op:Int)(m:MH)(h:PH)(K:cr):Prop:=
  cX (op==1) (K (eV 0) m h) (op==2) (K (eV 1) m h) (cX (op==3) (K (eV 1) m h) (op==9) (K (eV 1) m h) (cX (op==4) (K (eV 2) m h) (op==5) (K (eV 2) m h) (cX (op==6) (K (eV 2) m h) (op==7) (K (eV 2) m h) (cX (op==8) (K (eV 2) m h) (op==10) (K (eV 2) m h) (K (eV (Int.negSucc 0)) m h)))))
def Rh(s:Sl)(n:Int)(m:MH)(h:PH)(K:cr):Prop:=
  gA n 0 (K (AQ (decide (n<aH s))) m h) (K aZ m h)
theorem VG:∀N,cm 152 (TM N)
 |0=>by
  refine eD (fn:=Tryz.f152) (c:=cA Tryz.f152) func152 rfl az ?_;rintro y m h K ⟨v,p,k,rfl,D,F,_⟩;omega
 |N+1=>by
  refine iH func152 ?_;rintro y m h K ⟨v,p,k,rfl,D,F,J,L,E⟩;refine⟨a5Q N v m h,rfl,aE (VG N) aG,RH N v k m h K,ax,?_⟩;dsimp only[RH,push_cast];have d:=D.args;have e:=d.slen;have M:=d.len;refine⟨λx=>x.1<=p.args.length/\0<=x.2/\x.2<=25/\kZ (p.args.drop x.1) x.2=pZ p k,λx=>p.args.length-x.1,⟨(0,k+1),⟨ay,bf,bf,?_⟩,?_⟩,?_⟩
  .cases p;simp[pZ,Query.args]
  .rw[dY aD aD];exact MT
  rintro⟨i,n⟩ ⟨G,f,z,g⟩;dsimp only at G f z g⊢
  refine aF (λj=>aF (λt=>?_) (λt=>Az E ?_)) (λH=>Az E ?_)
  .obtain⟨q,A⟩:=eU e j;obtain⟨b,o,u,I,B,C⟩:=d.at A;have O:=DV q n t;rw[drop_cons A,kZ,if_pos t]at g;refine⟨b,o,I,aD,j,u,.imm B,u,q,n,rfl,C,?_,f,t,(i+1,pZ q n),⟨aD,aD,aD,g⟩,aD,MT⟩;have:=vF (br A);omega
  .rw[<-g,SX _ t]
  .rw[<-g,drop_of_length_le aD];simp[kZ]
theorem VF:∀N,cm 153 (PF N)
 |0=>by
  refine eD (fn:=Tryz.f153) (c:=cA Tryz.f153) func153 rfl az ?_;rintro j m h K ⟨v,p,k,rfl,z,C,_⟩;omega
 |N+1=>by
  refine iH func153 ?_;rintro j m h K ⟨v,p,k,rfl,z,C,H,g⟩;refine⟨a4J N v k m h,rfl,aE (VF N) aG,RG N v k m h K,ax,?_⟩;dsimp only[RG,push_cast];have d:=z.args;have e:=d.slen;have I:=d.len;refine aC (λA=>jD g ?_) (λA=>?_)
  .have:k=0:=bg
   subst this;cases p;simp[sX]
  .have A:k≠0:=bg
   have n:sX p k=p.args.any (sX · (k-1)):=by
    obtain⟨B,rfl⟩:∃B,k=B+1:=⟨k-1,aD⟩
    cases p;simp[sX,Kc,Query.args]
   rw[n]at g;refine⟨λi=>i<=p.args.length/\(p.args.take i).any (sX · (k-1))=false,λi=>p.args.length-i,⟨0,⟨aD,ay⟩,MT⟩,λi D=>aF (λf=>?_) (λE=>jD g ?_)⟩
   .obtain⟨q,t⟩:=eU e f;obtain⟨b,o,u,F,x,y⟩:=d.at t;refine⟨b,o,F,aD,f,u,.imm x,u,q,k-1,?_,y,?_,aD,aC (λG=>jD g ?_) (λG=>?_)⟩
    .rw[dY aD aD,show((k-1:Nat):Int)=(k:Int)-1 by omega]
    .have:=vF (br t);omega
    .grind
    .refine⟨i+1,⟨aD,?_⟩,bg,MT⟩;rw[cd,any_append,D.2,t];grind
   grind
theorem aqX:cm 88 aaZ:=by
 refine iH func88 ?_;rintro f m h K ⟨v,p,rfl,d,e⟩;refine⟨dD [(152,TM (SizeOf.sizeOf p+1)),(153,PF (SizeOf.sizeOf p+1))] [] [] [] false,rfl,aE (VG _) (aE (VF _) aG),U6 (SizeOf.sizeOf p+1) v m h K,ax,?_⟩;dsimp only[U6,push_cast];refine⟨v,p,0,rfl,d,aD,aD,aD,aC (λc=>⟨v,p,8,rfl,d,aD,aD,jD e ?_⟩) (λc=>jD e ?_)⟩
 .simp only[yU,c,Bool.true_and]
 .simp only[yU,c,Bool.false_and]
theorem O8:cm 128 PK:=by
 refine iH func128 ?_;rintro d m h K ⟨op,rfl,c⟩;refine⟨dD [] [] [] [] false,rfl,aG,RT op m h K,ax,?_⟩;dsimp only[RT,push_cast]
 repeat' (first|(refine aC (λ_=>?_) (λ_=>?_))|(refine Az c ?_;simp only[arity];simp only[*,Bool.or_false,Bool.false_or,Bool.or_true,Bool.true_or,Bool.and_true,Bool.true_and,Bool.and_false,Bool.false_and,Bool.not_true,Bool.not_false,Bool.false_eq_true,if_true,if_false, ↓reduceIte];done)|(refine Az c ?_;simp only[arity];grind))
theorem H6:cm 197 InS:=by
 refine iH func197 ?_;rintro e m h K ⟨s,l,n,rfl,f,d⟩;refine⟨dD [] [] [] [] false,rfl,aG,Rh s n m h K,ax,?_⟩;dsimp only[Rh,push_cast];have g:=f.slen;refine aF (λc=>jD d ?_) (λc=>jD d ?_)
 .have c:0<=n:=c;simp only[Cg,g,decide_eq_true c,Bool.true_and]
 .have c:¬0<=n:=by omega
  simp only[Cg,decide_eq_false c,Bool.false_and]
def lS(a b:cq)(c:cu)(p:Int×Int):Prop:=Cg a p.1=true/\Cg b p.2=true/\a.getD p.1.toNat 0=b.getD p.2.toNat 0/\∀q∈c,q.1≠p.1/\q.2≠p.2
def E9(a:cq)(d:cq)(c:Int):Prop:=Cg a c=true/\c∉d
def Il(a:cq)(_:cv)(o:Int×Bool):Prop:=Cg a o.1=true
structure lH(a:cq)(group:cq)(order:cv)(limit:Int):Prop where
 group_:Good (E9 a) group
 order_:Good (Il a) order
 len_:order.length<=12
 low:0<=limit
 high:limit<=100
def acX:Vc.Spec:=λc m h K=>∃s t u on a b,c=[cS s,cS t,cS u]/\iD h s on/\Ints h t a/\Ints h u b/\∀r:Bool,(r=true↔Good (lS a b) on)->K (cB r) m h
def abZ:Vc.Spec:=λc m h K=>∃v t g o a,c=[aQ v,cS t]/\Ints h v.group g/\jO h v.order o/\Ints h t a/\∀r:Bool,(r=true↔lH a g o v.limit)->K (cB r) m h
noncomputable def aZZ(s t u:Sl)(m:MH)(h:PH):Ctx:=
 dD [(197,InS)] [(2,{A:=Nat,st:=λi=>bQ 66 69 [(0,sv s),(1,sv t),(2,sv u),(10,sv s),(11,iv s.len),(12,iv i)] [] m h}),
  (7,{A:=Nat×Nat×(Int×Int),st:=λ⟨i,k,p⟩=>bQ 66 69 [(0,sv s),(1,sv t),(2,sv u),(7,iv i),(8,.at (.ptr 8 0)),(9,iv k),(10,sv s),(11,iv s.len),(12,iv i)] [(8,.cells 101 [.val (.int .i64 p.1),.val (.int .i64 p.2)])] m h})] [] [] false
noncomputable def aZX(v:QV)(t:Sl)(m:MH)(h:PH):Ctx:=
 dD [(197,InS)] [(2,{A:=Nat,st:=λi=>bQ 62 64 [(1,sv t),(2,.at (.ptr 2 0)),(11,sv v.group),(12,iv v.group.len),(13,iv i)] [(2,.cells 38 (v.enc.map .val))] m h}),
  (7,{A:=Nat×Nat×Int,st:=λ⟨i,k,c⟩=>bQ 62 64 [(1,sv t),(2,.at (.ptr 2 0)),(5,iv i),(6,iv c),(7,iv k),(11,sv v.group),(12,iv v.group.len),(13,iv i)] [(2,.cells 38 (v.enc.map .val))] m h}),
  (13,{A:=Nat,st:=λi=>bQ 62 64 [(1,sv t),(2,.at (.ptr 2 0)),(36,sv v.order),(37,iv v.order.len),(38,iv i)] [(2,.cells 38 (v.enc.map .val))] m h})] [] [] false
noncomputable abbrev hX(a:Sl)(b:Int):dk:=bC (Dj a) b
abbrev IX(a:Sl)(b:Int)(c:PH)(d:cr)(e:MH)(g:Prop):Prop:=B0 (λx f=>∃(j:Int),aA (hX a b=hX x j) (Ints c x f) (tD (Cg f j) (d aZ e c) g))
abbrev eX:Prop:=eP 8
abbrev Eh(a b:dj):Prop:=oQ 101 a=oQ 101 b
noncomputable abbrev vT(a:Int×Int):dj:=lL (fV a.1) (fV a.2)
abbrev Bf:Prop:=(0:Int)<2
abbrev Bg:Prop:=(1:Int)<2
attribute [push_cast] hX IX eX Eh vT Bf Bg
def Rg(s t u:Sl)(m:MH)(h:PH)(K:cr):Prop:=
  nO (λI x=>aA (I x) (aI s) (aA (aI t) (aI u) (aA (aI s) (bJ s) (aA (bB x) (m=m) (bL h h))))) (λI e x=>I x->aX (↑x:Int) (aH s) (bI (λb o=>aA (bK s.a b o) (0<=(↑x:Int)) ((↑x:Int)<aH s/\∃(y:Int×Int),aA (aU m h b (bN o x 2) (uH y)) ((0:Int)<=0) ((0:Int)<2/\IX t y.1 h K m (aA (bV 1) ((1:Int)<2) (IX u y.2 h K m (aA (bV 0) ((0:Int)<2) (bI (λf g=>aA (bK t.a f g) (0<=y.1) (y.1<aH t/\∃(j:Int),aA (aU m h f (fT g y.1 1) (bG j)) ((0:Int)<=1) ((1:Int)<2/\bI (λn z=>aA (bK u.a n z) (0<=y.2) (y.2<aH u/\∃(A:Int),aU m h n (fT z y.2 1) (bG A)/\dC j A (K aZ m h) (∃(I1:Nat×Nat×Int×Int->Prop)(B:Nat×Nat×Int×Int->Nat),(∃(c:Nat×Nat×Int×
 Int),aA (I1 c) (aI s) (aA (aI t) (aI u) (aA (cO x c.1) eX (aA (bB c.2.1) (aI s) (aA (bJ s) (cO x c.1) (aA (Eh (vT y) (vT c.2.2)) (m=m) (bL h h)))))))/\∀(c:Nat×Nat×Int×Int),I1 c->aX (↑c.2.1:Int) (↑c.1:Int) (bI (λC D=>aA (bK s.a C D) (bV (↑c.2.1:Int)) (aA ((↑c.2.1:Int)<aH s) (bV 0) (Bf/\∃(E:Int),aA (aU m h C (bN D c.2.1 2+0) (bG E)) ((0:Int)<=0) ((0:Int)<2/\dW E c.2.2.1 (K aZ m h) (bI (λF G=>aA (bK s.a F G) (bV (↑c.2.1:Int)) (aA ((↑c.2.1:Int)<aH s) (bV 1) (Bg/\∃(H:Int),aA (aU m h F (bN G c.2.1 2+1) (bG H)) ((0:Int)<=1) ((1:Int)<2/\dW H c.2.2.2 (K aZ m h) (∃(d:Nat×Nat×Int×Int),aA (I1 d) (B d<B c) (aA (aI
 s) (aI t) (aA (aI u) (cO c.1 d.1) (aA eX (bD (gG (bF c.2.1 1)) d.2.1) (aA (aI s) (bJ s) (aA (cO c.1 d.1) (Eh (vT c.2.2) (vT d.2.2)) (bP (m=m) h h))))))))))))))))) (∃(d:Nat),aA (I d) (e d<e x) (aA (aI s) (aI t) (aA (aI u) (aI s) (aA (bJ s) (bD (gG (bF c.1 1)) d) (bP (m=m) h h))))))))))))))))))) (gO K m h))
def Rf(v:QV)(t:Sl)(m:MH)(h:PH)(K:cr):Prop:=
  nO (λI x=>aA (I x) (aI t) (aA eK (aI v.group) (aA (bJ v.group) (bB x) (aA (eY v) (m=m) (bL h h))))) (λI f x=>I x->aX (↑x:Int) (aH v.group) (bI (λb o=>aA (bK v.group.a b o) (0<=(↑x:Int)) ((↑x:Int)<aH v.group/\∃(y:Int),aU m h b (bN o x 1) (bG y)/\IX t y h K m (∃(I1:Nat×Nat×Int->Prop)(e:Nat×Nat×Int->Nat),(∃(c:Nat×Nat×Int),aA (I1 c) (aI t) (aA eK (cO x c.1) (aA (dR y c.2.2) (bB c.2.1) (aA (aI v.group) (bJ v.group) (uZ (cO x c.1) (eY v) (m=m) h h)))))/\∀(c:Nat×Nat×Int),I1 c->aX (↑c.2.1:Int) (↑c.1:Int) (bI (λg j=>aA (bK v.group.a g j) (0<=(↑c.2.1:Int)) ((↑c.2.1:Int)<aH v.group/\∃(n:Int),aU m h g (bN j c.2.1 1) (bG n)/\dW n c.2.2 (K
 aZ m h) (∃(d:Nat×Nat×Int),aA (I1 d) (e d<e c) (aA (aI t) eK (aA (cO c.1 d.1) (dR c.2.2 d.2.2) (aA (bD (gG (bF c.2.1 1)) d.2.1) (aI v.group) (aA (bJ v.group) (cO c.1 d.1) (aA (eY v) (m=m) (bL h h)))))))))) (∃(d:Nat),aA (I d) (f d<f x) (aA (aI t) eK (aA (aI v.group) (bJ v.group) (aA (bD (gG (bF c.1 1)) d) (eY v) (bP (m=m) h h))))))))) (nO (λI1 c=>aA (I1 c) (aI t) (aA eK (aI v.order) (aA (bJ v.order) (bB c) (aA (eY v) (m=m) (bL h h))))) (λI1 e c=>I1 c->aX (↑c:Int) (aH v.order) (bI (λb o=>aA (bK v.order.a b o) (0<=(↑c:Int)) ((↑c:Int)<aH v.order/\∃(y:Int×Bool),aU m h b (bN o c 2) (z7 y)/\IX t y.1 h K m (∃(d:Nat),aA (I1 d) (e d<e c)
 (aA (aI t) eK (aA (aI v.order) (bJ v.order) (aA (bD (gG (bF c 1)) d) (eY v) (bP (m=m) h h)))))))) (branch (decide (aH v.order<=12)) (gA v.limit 0 (K (AQ (decide (v.limit<=100))) m h) (K aZ m h)) (K aZ m h)))))
theorem Om{α:Type}{l:List α}{k:Nat}{x:α}(c:l[i]? =some x)(d:i<k):x∈l.take k:=mem_of_getElem? (i:=i) bg
theorem T3{α:Type}{l:List α}{x y:α}(c:l[i]? =some x)(d:y∈l.take (i+1)):y∈l.take i\/y=x:=by
 rw[cd,c,mem_append]at d
 grind
theorem dZ{n:Int}:Cg l n=true↔0<=n/\n<l.length:=by simp[Cg]
theorem XT:cm 198 acX:=by
 refine iH func198 ?_;rintro R m h K ⟨s,t,u,on,a,b,rfl,n,o,x,E⟩;refine⟨aZZ s t u m h,rfl,aE H6 aG,Rg s t u m h K,ax,?_⟩;dsimp only[Rg,push_cast];have S:=n.slen;have F:=n.len;have ta:=o.slen;have ub:=x.slen;refine⟨λi=>i<=on.length/\fJ (lS a b) on i,λi=>on.length-i,⟨0,⟨aD,.zero⟩,MT⟩,λi⟨hi,G⟩=>aF (λf=>?_) (λT=>E true ⟨λ_=>G.all aD,λ_=>rfl⟩)⟩;obtain⟨p,y⟩:=eU S f;obtain⟨U,V,W,X⟩:=n.at y;have bad:¬lS a b (on.take i) p->K (.val (.bool false)) m h:=λY=>E false ⟨λe=>(by cases e),λe=>(Good.not y Y e).elim⟩;refine⟨U,V,W,aD,f,p,.imm X,aD,aD,t,a,p.1,rfl,o,aC (λz=>bad λc=>?_) (λz=>⟨aD,aD,u,b,p.2,rfl,x,aC (λA=>bad λc=>?_) (λA=>?_)⟩)⟩
 .rw[c.1]at z;cases z
 .rw[c.2.1]at A;cases A
 have H:Cg a p.1=true:=bg
 have I:Cg b p.2=true:=bg
 have g:=dZ.1 H;have j:=dZ.1 I;obtain⟨Z,o2,e2,r2⟩:=o.inb g.1 g.2;obtain⟨b3,o3,e3,r3⟩:=x.inb j.1 j.2;refine⟨aD,aD,Z,o2,e2,aD,aD,_,.imm r2,aD,aD,b3,o3,e3,aD,aD,_,.imm r3,aC (λB=>bad λc=>?_) (λB=>?_)⟩
 .rw[c.2.2.1]at B;simp at B
 refine⟨λ⟨i',k,p'⟩=>i'=i/\p'=p/\k<=i/\∀q∈on.take k,q.1≠p.1/\q.2≠p.2,λ⟨_,k,_⟩=>i-k,⟨(i,0,p),⟨rfl,rfl,aD,λq d=>by simp at d⟩,MT⟩,?_⟩;rintro⟨i,k,p⟩ ⟨rfl,rfl,hk,C⟩;dsimp only;refine aF (λJ=>?_) (λL=>?_)
 .obtain⟨q,d⟩:∃q,on[k]? =some q:=⟨on[k]'(by omega),bo _⟩
  obtain⟨M,O,P,Q⟩:=n.at d;refine⟨M,O,P,aD,aD,aD,aD,q.1,.imm (bM.part Q 0 1),aD,aD,aC (λh4=>bad λc=>?_) (λh4=>⟨M,O,P,aD,aD,aD,aD,q.2,.imm (bM.part Q 1 1),aD,aD,aC (λh5=>bad λc=>?_) (λh5=>?_)⟩)⟩
  .exact(c.2.2.2 q (Om d aD)).1 bg
  .exact(c.2.2.2 q (Om d aD)).2 bg
  .refine⟨(i,k+1,p),⟨rfl,rfl,bg,λq' D=>?_⟩,bg,MT⟩;rcases T3 d D with e|rfl
   .grind
   grind
 .have:k=i:=by omega
  subst this;exact⟨k+1,⟨aD,G.succ y ⟨H,I,bg,C⟩⟩,aD,MT⟩
theorem XS:cm 199 abZ:=by
 refine iH func199 ?_;rintro U m h K ⟨v,t,g,o,a,rfl,B,C,J,L⟩;refine⟨aZX v t m h,rfl,aE H6 aG,Rf v t m h K,ax,?_⟩;dsimp only[Rf,push_cast];have V:=B.slen;have M:=B.len;have W:=C.slen;have O:=C.len;have bad:¬lH a g o v.limit->K (.val (.bool false)) m h:=λX=>L false ⟨λe=>(by cases e),λe=>(X e).elim⟩;refine⟨λi=>i<=g.length/\fJ (E9 a) g i,λi=>g.length-i,⟨0,⟨aD,.zero⟩,MT⟩,λi⟨P,u⟩=>aF (λd=>?_) (λx=>?_)⟩
 .obtain⟨c,n⟩:=eU V d;obtain⟨D,E,F,G⟩:=B.at' n;refine⟨D,E,F,aD,d,c,.imm G,t,a,c,rfl,J,aC (λf=>bad λj=>Good.not n (λy=>?_) j.group_) (λf=>?_)⟩
  .rw[y.1]at f;cases f
  refine⟨λ⟨Y,k,Z⟩=>Y=i/\Z=c/\k<=i/\c∉g.take k,λ⟨_,k,_⟩=>i-k,⟨(i,0,c),⟨rfl,rfl,aD,ay⟩,MT⟩,?_⟩;rintro⟨i,k,c⟩ ⟨rfl,rfl,hk,z⟩;dsimp only;refine aF (λQ=>?_) (λR=>?_)
  .obtain⟨q,H⟩:∃q,g[k]? =some q:=⟨g[k]'(by omega),bo _⟩
   obtain⟨b4,o4,e4,r4⟩:=B.at' H;refine⟨b4,o4,e4,aD,aD,q,.imm r4,aC (λS=>bad λj=>Good.not n (λy=>?_) j.group_) (λS=>?_)⟩
   .refine y.2 ?_;have:q=c:=bg
    rw[<-this];exact Om H aD
   .refine⟨(i,k+1,c),⟨rfl,rfl,bg,λI=>?_⟩,bg,MT⟩;rcases T3 H I with e|rfl
    .exact z e
    .simp at S
  .have:k=i:=by omega
   subst this;exact⟨k+1,⟨aD,u.succ n ⟨bg,z⟩⟩,aD,MT⟩
 have gg:=u.all aD;clear P u x;refine⟨λi=>i<=o.length/\fJ (Il a) o i,λi=>o.length-i,⟨0,⟨aD,.zero⟩,MT⟩,λi⟨P,A⟩=>aF (λd=>?_) (λx=>?_)⟩
 .obtain⟨c,n⟩:=eU W d;obtain⟨D,E,F,G⟩:=C.at n;refine⟨D,E,F,aD,d,c,.imm G,t,a,c.1,rfl,J,aC (λf=>bad λj=>Good.not n (λy=>?_) j.order_) (λf=>⟨i+1,⟨aD,A.succ n (by simpa[Il]using f)⟩,bg,MT⟩)⟩;rw[show Cg a c.1=true from y]at f;cases f
 have oo:=A.all aD;refine aF (λf=>aF (λT=>?_) (λT=>bad λj=>?_)) (λf=>bad λj=>?_)
 .refine L (decide (v.limit<=100)) ⟨λe=>⟨gg,oo,aD,T,bk e⟩,λe=>decide_eq_true e.high⟩
 .have:=j.low;omega
 .have:=j.len_;omega
def eJ:Pred:=.mk 0 0 dG dG []
def cH:Query->Prop
 |.mk op ta w co on gr od li _=>(op=1\/ta=0)/\(op=2\/w=eJ)/\(op=3\/co=[])/\(op=4\/op=5\/on=[])/\(op=9\/op=10\/(gr=[]/\od=[]/\li=0))
def lF(l:cq):cq×Int:=if l.length<=12 then(l,0)else([],2)
def dP(e:Int):cq×Int:=([],e)
open Classical in
noncomputable def dV(s:jB)(ps:cq)(q:Query)(a b:cq):cq×Int:=
 if arity (match q with|.mk op .. =>op)<0\/¬cH q then dP 100 else
 match q with
 |.mk op ta w co on gr od li _=>
  if op=1 then(if 0<=ta/\ta<s.tables.length then lF (jL s ta)else dP 100)
  else if op=2 then(if fX a ps w=0 then lF a else dP (fX a ps w))
  else if op=3 then(if co≠[]/\Good (λ_ c=>Cg a c=true) co then lF (co.map λc=>a.getD c.toNat 0)else dP 100)
  else if op=4 then(if Good (lS a b) on then lF (a++b)else dP 100)
  else if op=5 then(if Good (lS a b) on then lF a else dP 100)
  else if op=9 then(if lH a gr od li then lF a else dP 100)
  else if op=10 then(if a=b/\lH a gr od li then lF a else dP 100)
  else(if a=b then lF a else dP 100)
def aaQ:Vc.Spec:=λc m h K=>∃v q,c=[aQ v]/\cJ h q v/\∀r:Bool,(r=true↔cH q)->K (cB r) m h
def KR(K:cr)(m:MH)(h:PH)(r:cq×Int):Prop:=∀c h',PH.le h h'->Ints h' c r.1->K (.tup [cS c,cI r.2]) m h'
def bRQ:Vc.Spec:=λc m h K=>∃sc p v a b s ps q d e,c=[aS sc,cS p,aQ v,cS a,cS b]/\iA h s sc/\mC s/\Ints h p ps/\cJ h q v/\Ints h a d/\Ints h b e/\d.length<=12/\e.length<=12/\KR K m h (dV s ps q d e)
noncomputable def a9Q(m:MH):Ctx:=
 dD [(128,PK),(196,aaQ),(46,yJ),(94,tV),(197,InS),(198,acX),(199,abZ),(75,Cd)] [(20,{A:=Nat×Sl×Sl×cq×PH,st:=λ⟨i,a,co,l,h⟩=>bQ 121 126 [(3,sv a),(12,.at (.lst 94)),(78,sv co),(79,iv co.len),(80,iv i)] [(94,.lst 3 1 (l.map eI))] m h})] [] [] false
noncomputable def aZJ(v:QV)(m:MH)(h:PH):Ctx:=
 cjZ [(76,bMZ)] [] [(2,{A:=Bool,st:=λr=>bQ 78 79 [(1,.at (.ptr 1 0)),(3,bv r)] [(1,.cells 38 (v.enc.map .val))] m h})] [(2,[(9,{A:=Bool×Bool,st:=λx=>bQ 78 79 [(1,.at (.ptr 1 0)),(3,bv x.1),(20,bv x.2)] [(1,.cells 38 (v.enc.map .val))] m h}),
  (11,{A:=Bool×Bool,st:=λx=>bQ 78 79 [(1,.at (.ptr 1 0)),(3,bv x.1),(31,bv x.2)] [(1,.cells 38 (v.enc.map .val))] m h}),
  (11,{A:=Bool×Bool,st:=λx=>bQ 78 79 [(1,.at (.ptr 1 0)),(3,bv x.1),(42,bv x.2)] [(1,.cells 38 (v.enc.map .val))] m h}),
  (16,{A:=Bool×Bool,st:=λx=>bQ 78 79 [(1,.at (.ptr 1 0)),(3,bv x.1),(58,bv x.2)] [(1,.cells 38 (v.enc.map .val))] m h})])] [] false
abbrev kV(a b:Bool):Prop:=sQb a=sQb b
abbrev yY(a:Bool):Prop:=kV true a
abbrev Jr(a:Prop)(b:(Bool×Bool->Prop)->Prop)(c:(Bool×Bool->Prop)->(Bool×Bool)->Prop):Prop:=a->∃(x:Bool×Bool->Prop),b x/\∀(d:Bool×Bool),c x d
noncomputable abbrev ED(a:Value)(b:cn):cn:=aL a cW (aL cW cW (aL cW cW (aL Wy cW (aL cW cW (aL cW Wy b)))))
noncomputable abbrev iV:cn:=lD lI
abbrev Gv(a:Bool×Bool->Prop)(b:Bool×Bool)(c:(Bool×Bool)->Prop)(d:QV)(e:MH)(g:PH):Prop:=∃(x:Bool×Bool),aA (a x) eG (aA (kV b.1 x.1) (c x) (bO (eY d) (e=e) (g=g)))
abbrev Da(a:Bool):Prop:=kV false a
noncomputable abbrev CP(a:QV):Int:=aH a.columns
attribute [push_cast] kV yY Jr ED iV Gv Da CP
def Ri(v:QV)(m:MH)(h:PH)(K:cr):Prop:=
  ∃(I:Bool->Prop),dW v.op 9 (∃(x:Bool),aA (I x) eG (aA (yY x) (eY v) (bP (m=m) h h))) (∃(x:Bool),aA (I x) eG (aA (kV (v.op==10) x) (eY v) (bP (m=m) h h)))/\∀(x:Bool),Jr (I x) (λI1=>dW v.op 1 (∃(e:Bool×Bool),aA (I1 e) eG (aA (kV x e.1) (yY e.2) (bO (eY v) (m=m) (h=h)))) (∃(e:Bool×Bool),aA (I1 e) eG (aA (kV x e.1) (kV (v.table==0) e.2) (bO (eY v) (m=m) (h=h))))) (λI1 e=>Jr (I1 e) (λI2=>branch e.2 (dW v.op 2 (∃(d:Bool×Bool),aA (I2 d) eG (aA (kV e.1 d.1) (yY d.2) (bO (eY v) (m=m) (h=h)))) (Jq (λg w p q=>aA (fW v.where_.enc (ED cW iV)=fW g.enc w.enc) (dO h p g) (dO h q w/\∀(r:Bool),(gI r↔p=q)->Gv I2 e (λd=>
 kV r d.2) v m h)))) (∃(d:Bool×Bool),aA (I2 d) eG (aA (kV e.1 d.1) (Da d.2) (bO (eY v) (m=m) (h=h))))) (λI2 d=>Jr (I2 d) (λI3=>branch d.2 (dW v.op 3 (∃(c:Bool×Bool),aA (I3 c) eG (aA (kV d.1 c.1) (yY c.2) (bO (eY v) (m=m) (h=h)))) (Gv I3 d (λc=>kV (CP v==0) c.2) v m h)) (∃(c:Bool×Bool),aA (I3 c) eG (aA (kV d.1 c.1) (Da c.2) (bO (eY v) (m=m) (h=h))))) (λI3 c=>Jr (I3 c) (λI4=>branch c.2 (cX (v.op==4) (Gv I4 c (λf=>yY f.2) v m h) (v.op==5) (Gv I4 c (λf=>yY f.2) v m h) (Gv I4 c (λf=>kV (aH v.on==0) f.2) v m h)) (∃(f:Bool×Bool),aA (I4 f) eG (aA (kV c.1 f.1) (Da f.2) (bO (eY v) (m=m) (h=h))))) (λI4 f=>
 gQ (I4 f) f.2 (cX f.1 (gO K m h) (aH v.group==0) (dW (aH v.order) 0 (K (AQ (v.limit==0)) m h) (K aZ m h)) (K aZ m h)) (K aZ m h)))))
abbrev jI(a:Nat)(b:List cn)(c d e g:Prop):Prop:=aA (i6 a b) c (aA d e g)
noncomputable abbrev gJ(a:Sl):Sl:=Sl.mk a.a a.len a.cap
abbrev mD(a:cr)(b:Sl)(c:Nat->Option Obj)(d:PH):Prop:=a (CV.tup (bC (Dj b) 0)) c d
noncomputable abbrev iZ(a:List cn):Int:=(↑a.length:Int)
abbrev sN(a:Nat->Nat->Option Value)(b:List cn)(c:cr)(d:Nat->Option Obj):Prop:=bU a 1 b (λx e=>mD c x d e)
noncomputable abbrev zY(a:Nat×Sl×Sl×cq×PH):Sl:=a.2.2.1
noncomputable abbrev EE(a:Nat×Sl×Sl×cq×PH):List cn:=jK a.2.2.2.1
noncomputable abbrev zZ(a:Nat×Sl×Sl×cq×PH):Nat->Nat->Option Value:=a.2.2.2.2
abbrev KS(a:Sl->cu->Prop):Prop:=∃(x:Sl)(c:cu),a x c
abbrev nU(a b:List cn)(c:Nat):Prop:=iM (qR a b.length*c)
abbrev nP(a b:List cn):Prop:=iM (qR a b.length)
abbrev Oe(a:Sl->cq->cv->Prop):Prop:=B0 (λx c=>∃(d:cv),a x c d)
noncomputable abbrev fZ(a:CV)(b:Sl):dk:=gZ a (Dj b)
attribute [push_cast] jI gJ mD iZ sN zY EE zZ KS nU nP Oe fZ
def Lx(sc:bW)(p:Sl)(v:QV)(a b:Sl)(m:MH)(h:PH)(K:cr):Prop:=
  ∃(o:Int),kU v.op o/\aX (arity o) 0 (K (CV.tup (bC jQ 100)) m h) (qF (λC q=>aA (fP (eC v) (eC C)) (cJ h q C) (∀(r:Bool),gQ (gI r↔cH q) (!r) (K (CV.tup (bC jQ 100)) m h) (∃(y:List cn),jI 1 y (cC h (gJ a) 1 y) (iM (y.length*8)) (iM y.length) (cX (v.op==1) (aX v.table 0 (K (CV.tup (bC jQ 100)) m h) (gA v.table (lW sc) (K (CV.tup (bC jQ 100)) m h) (Cw (bC (fM (cD sc)) v.table) h (λs D=>eZ (aH s) 12 (K (CV.tup (bC jQ 2)) m D) (mD K s m D))))) (v.op==2) (D9 (dJ a (jA p (jU v.where_))) h (λc E F=>nX (fX c E F !=0) (K (CV.tup (bC jQ (fX c E F))) m h) (iZ y) 12 (K (CV.tup (bC jQ 2)) m h) (sN h y K m))) (cX (v.op==3) (dW (CP v) 0 (K (CV.tup (bC jQ 100)) m h) (∃
 (I:Nat×Sl×Sl×cq×PH->Prop)(G:Nat×Sl×Sl×cq×PH->Nat),(∃(x:Nat×Sl×Sl×cq×PH),aA (I x) (bS a x.2.1) (aA (eL 94) (bS v.columns (zY x)) (aA (cK v.columns (zY x)) (bB x.1) (aA (sL (EE x)) (m=m) (bL h (zZ x))))))/\∀(x:Nat×Sl×Sl×cq×PH),I x->aX (↑x.1:Int) (aH (zY x)) (bI (λj e=>aA (bK (zY x).a j e) (0<=(↑x.1:Int)) ((↑x.1:Int)<aH (zY x)/\∃(d:Int),aU m (zZ x) j (bN e x.1 1) (bG d)/\B0 (λs l=>∃(n:Int),aA (hX x.2.1 d=hX s n) (Ints (zZ x) s l) (tD (Cg l n) (K (CV.tup (bC jQ 100)) m (zZ x)) (bI (λH J=>aA (bK x.2.1.a H J) (0<=d) (d<aH x.2.1/\∃(L:Int),oZ (aU m (zZ x) H (fT J d 1) (bG L)) (EE x) 8 (∃(B
 :Nat×Sl×Sl×cq×PH),aA (I B) (G B<G x) (aA (bS x.2.1 B.2.1) (eL 94) (aA (bS (zY x) (zY B)) (cK (zY x) (zY B)) (aA (bD (gG (bF x.1 1)) B.1) (sM (EE x) L (EE B)) (bP (m=m) (zZ x) (zZ B)))))))))))))) (eZ (iZ (EE x)) 12 (K (CV.tup (bC jQ 2)) m (zZ x)) (sN (zZ x) (EE x) K m)))) (v.op==4) (nA (λs t=>KS (λu e=>HZ (λz j=>aA (dJ v.on (cV a b)=dJ s (cV t u)) (iD h s e) (aA (Ints h t z) (Ints h u j) (∀(f:Bool),(gI f↔Good (lS z j) e)->cX (!f) (K (CV.tup (bC jQ 100)) m h) (v.op==4) (∃(d:List cn),jI 1 d (cC h (gJ b) 1 d) (nU y d 8) (nP y d) (eZ (iZ (y++d)) 12 (K (CV.tup (bC jQ 2)) m h) (sN h (y++d) K m))) (eZ
 (iZ y) 12 (K (CV.tup (bC jQ 2)) m h) (sN h y K m)))))))) (cX (v.op==5) (nA (λs t=>KS (λu e=>HZ (λz j=>aA (dJ v.on (cV a b)=dJ s (cV t u)) (iD h s e) (aA (Ints h t z) (Ints h u j) (∀(f:Bool),(gI f↔Good (lS z j) e)->cX (!f) (K (CV.tup (bC jQ 100)) m h) (v.op==4) (∃(d:List cn),jI 1 d (cC h (gJ b) 1 d) (nU y d 8) (nP y d) (eZ (iZ (y++d)) 12 (K (CV.tup (bC jQ 2)) m h) (sN h (y++d) K m))) (eZ (iZ y) 12 (K (CV.tup (bC jQ 2)) m h) (sN h y K m)))))))) (v.op==9) (∃(A:QV),Oe (λt g e=>∃(z:cq),aA (fZ (eC v) a=fZ (eC A) t) (Ints h A.group g) (aA (jO h A.order e) (Ints h t z) (∀(f:Bool),(gI f↔lH z g e A.limit)->nX (!f) (K (CV.tup (bC jQ
 100)) m h) (iZ y) 12 (K (CV.tup (bC jQ 2)) m h) (sN h y K m))))) (zS a b h (λz j f=>(gI f↔z=j)->cX (!f) (K (CV.tup (bC jQ 100)) m h) (v.op==10) (∃(A:QV),Oe (λt g e=>∃(M:cq),aA (fZ (eC v) a=fZ (eC A) t) (Ints h A.group g) (aA (jO h A.order e) (Ints h t M) (∀(O:Bool),(gI O↔lH M g e A.limit)->nX (!O) (K (CV.tup (bC jQ 100)) m h) (iZ y) 12 (K (CV.tup (bC jQ 2)) m h) (sN h y K m))))) (eZ (iZ y) 12 (K (CV.tup (bC jQ 2)) m h) (sN h y K m)))))))))))
theorem JV{α:Type}{n:Nat}{l:List α}(h:n=l.length):((n:Int)==0)=true↔l=[]:=by
 rw[beq_iff_eq,h, <-length_eq_zero_iff];omega
theorem DR(h:PH):dO h eJ ⟨0,0,dG,dG,⟨none,0,0⟩⟩:=dO.mk (v:=⟨0,0,dG,dG,⟨none,0,0⟩⟩) (.nil _ _ _ _)
theorem XU:cm 196 aaQ:=by
 refine iH func196 ?_;rintro o m h K ⟨v,q,rfl,t,g⟩;refine⟨aZJ v m h,rfl,aE arJ aG,Ri v m h K,ax,?_⟩;dsimp only[Ri,push_cast];obtain⟨op,ta,w,co,on,gr,od,li,args⟩:=q;have a:=t.parts;have u:=a.op_;have y:=a.table_;have z:=a.limit_;have D:=JV a.columns_.slen;have E:=JV a.on_.slen;have F:=JV a.group_.slen;have G:=JV a.order_.slen;simp only[cH]at g;subst u y z;refine⟨λr=>(r=true↔v.op=9\/v.op=10),aC (λd=>⟨true,bg,MT⟩) (λd=>⟨_,?_,MT⟩),λr j=>?_⟩
 .grind
 refine⟨λx=>x.1=r/\(x.2=true↔(v.op=1\/v.table=0)),aC (λd=>⟨(r,true),⟨rfl,bg⟩,MT⟩) (λd=>⟨(r,_),⟨rfl,?_⟩,MT⟩),?_⟩
 .grind
 rintro⟨r,c⟩ ⟨rfl,e⟩;dsimp only at e j⊢
 refine⟨λx=>x.1=r/\(x.2=true↔(v.op=1\/v.table=0)/\(v.op=2\/w=eJ)),aC (λd=>aC (λf=>⟨(r,true),⟨rfl,⟨λ_=>⟨e.1 d,.inl bg⟩,λ_=>rfl⟩⟩,MT⟩) (λf=>⟨v.where_,⟨0,0,dG,dG,⟨none,0,0⟩⟩,w,eJ,rfl,a.where_,DR h,λA B=>⟨(r,A),⟨rfl,?_⟩,MT⟩⟩)) (λd=>⟨(r,false),⟨rfl,?_⟩,MT⟩),?_⟩
 .grind
 .grind
 clear e c;rintro⟨r,c⟩ ⟨rfl,e⟩;dsimp only at e j⊢
 refine⟨λx=>x.1=r/\(x.2=true↔(v.op=1\/v.table=0)/\(v.op=2\/w=eJ)/\(v.op=3\/co=[])),aC (λd=>aC (λf=>⟨(r,true),⟨rfl,⟨λ_=>⟨(e.1 d).1,(e.1 d).2,.inl bg⟩,λ_=>rfl⟩⟩,MT⟩) (λf=>⟨(r,_),⟨rfl,?_⟩,MT⟩)) (λd=>⟨(r,false),⟨rfl,?_⟩,MT⟩),?_⟩
 .grind
 .grind
 clear e c;rintro⟨r,c⟩ ⟨rfl,e⟩;dsimp only at e j⊢
 refine⟨λx=>x.1=r/\(x.2=true↔(v.op=1\/v.table=0)/\(v.op=2\/w=eJ)/\(v.op=3\/co=[])/\(v.op=4\/v.op=5\/on=[])),aC (λd=>aC (λf=>⟨(r,true),⟨rfl,⟨λ_=>⟨(e.1 d).1,(e.1 d).2.1,(e.1 d).2.2,.inl bg⟩,λ_=>rfl⟩⟩,MT⟩) (λf=>aC (λn=>⟨(r,true),⟨rfl,⟨λ_=>⟨(e.1 d).1,(e.1 d).2.1,(e.1 d).2.2,.inr (.inl bg)⟩,λ_=>rfl⟩⟩,MT⟩) (λn=>⟨(r,_),⟨rfl,?_⟩,MT⟩))) (λd=>⟨(r,false),⟨rfl,?_⟩,MT⟩),?_⟩
 .grind
 .grind
 clear e c;rintro⟨r,c⟩ ⟨rfl,e⟩;dsimp only at e j⊢
 refine aC (λd=>aC (λf=>g true ⟨λ_=>?_,λ_=>rfl⟩) (λf=>aC (λn=>aC (λC=>g _ ?_) (λC=>g false ?_)) (λn=>g false ?_))) (λd=>g false ?_)
 .grind
 .grind
 .grind
 .grind
 .grind
theorem qL(l:cq):i6 1 (l.map eI):=by
 constructor
 .intro e c;obtain⟨x,_,rfl⟩:=mem_map.1 c;rfl
 .intro e c u d;obtain⟨x,_,rfl⟩:=mem_map.1 c;simp[eI]at d;subst d;rfl
theorem KR.err{r:cq×Int}{e:Int}(d:KR K m h r)(c:PH.le h h')(f:r=dP e):K (.tup [.val (.slice none 0 0),.val (.int .i64 e)]) m h':=by
 subst f;exact d ⟨none,0,0⟩ h' c ⟨.nil _ _,by simp[dP]⟩
theorem KR.big{r:cq×Int}(d:KR K m h r)(c:PH.le h h')(e:r=lF l)(f:12<l.length):K (.tup [.val (.slice none 0 0),.val (.int .i64 2)]) m h':=
 d.err c (by rw[e,lF,if_neg aD];rfl)
theorem KR.ok{r:cq×Int}{sl:Sl}(d:KR K m h r)(c:PH.le h h')(e:r=lF l)(f:l.length<=12)(g:cC h' sl 1 (l.map eI)):K (.tup [.val (.slice sl.a sl.len sl.cap),.val (.int .i64 0)]) m h':=by
 rw[e,lF,if_pos f]at d;exact d sl h' c ⟨g,bg⟩
theorem bJZ{p:Sl}{a b:Sl}{q:Query}{n C:cq}(W:iA h s sc)(h8:mC s)(hp:Ints h p ps)(X:cJ h q v)(B:Ints h a n)(L:Ints h b C)(Y:n.length<=12)(Z:C.length<=12)(d:KR K m h (dV s ps q n C)):Lx sc p v a b m h K:=by
 dsimp only[Lx,push_cast];have O:=X;obtain⟨op,ta,w,co,on,gr,od,li,args⟩:=q;have x:=X.parts;have e0:=x.op_;have e1:=x.table_;have e2:=x.limit_;have a0:=W.tables.slen;have a1:=B.slen;have H:=x.columns_.slen;have P:=x.columns_.len;subst e0 e1 e2;refine⟨v.op,rfl,aF (λQ=>d.err (.refl _) ?_) (λQ=>⟨v,_,rfl,O,λr z=>aC (λh2=>d.err (.refl _) ?_) (λh2=>?_)⟩)⟩
 .unfold dV;rw[if_pos (.inl Q)]
 .unfold dV;rw[if_pos (.inr λe=>bg)]
 have hu:cH (.mk v.op v.table w co on gr od v.limit args):=z.1 bg;unfold dV at d;rw[if_neg (λe=>e.elim Q (λe=>e hu))]at d;dsimp only at d;clear z h2;refine⟨n.map eI,qL _,B.row,bf,bf,aC (λo=>?_) (λo=>aC (λy=>?_) (λy=>aC (λA=>?_) (λA=>aC (λD=>?_) (λD=>aC (λE=>?_) (λE=>aC (λI=>?_) (λI=>?_))))))⟩
 .rw[beq_iff_eq]at o;rw[if_pos o]at d;refine aF (λu=>d.err (.refl _) (if_neg aD)) (λu=>aF (λt=>d.err (.refl _) (if_neg aD)) (λt=>⟨sc,s,v.table,rfl,W,h8,λF h' f j=>?_⟩));rw[if_pos aD]at d;have:=j.slen;exact aF (λg=>d.big f rfl aD) (λg=>d.ok f rfl aD j.row)
 .rw[beq_eq_false_iff_ne]at o;rw[beq_iff_eq]at y;rw[if_neg o,if_pos y]at d;refine⟨a,p,v.where_,n,ps,w,rfl,B,hp,x.where_,aC (λu=>d.err (.refl _) (if_neg bg)) (λu=>?_)⟩;rw[if_pos bg]at d;exact aF (λg=>d.big (.refl _) rfl bg) (λg F h' f j=>d.ok f rfl aD j)
 .rw[beq_eq_false_iff_ne]at o y;rw[beq_iff_eq]at A;rw[if_neg o,if_neg y,if_pos A]at d;refine aC (λu=>d.err (.refl _) (if_neg λe=>e.1 ((JV H).1 u))) (λu=>?_);have R:co≠[]:=λe=>bg
  refine⟨λ⟨i,a',S,l,hx⟩=>a'=a/\S=v.columns/\hx=h/\i<=co.length/\l=(co.take i).map (λc=>n.getD c.toNat 0)/\fJ (λ_ c=>Cg n c=true) co i,λ⟨i,_,_,_,_⟩=>co.length-i,⟨(0,a,v.columns,[],h),⟨rfl,rfl,rfl,aD,ay,.zero⟩,MT⟩,?_⟩;rintro⟨i,a,_,l,h⟩ ⟨rfl,rfl,rfl,j,rfl,hg⟩;dsimp only;refine aF (λJ=>?_) (λa2=>?_)
  .obtain⟨c,M⟩:=eU H J;obtain⟨b1,o1,T,r1⟩:=x.columns_.at' M;refine⟨b1,o1,T,aD,J,c,.imm r1,a,n,c,rfl,B,aC (λt=>d.err (.refl _) (if_neg λe=>?_)) (λt=>?_)⟩
   .have:=e.2 i c M;grind
   have t:Cg n c=true:=bg
   have g:=dZ.1 t;obtain⟨b2,o2,U,r2⟩:=B.inb g.1 g.2;refine⟨b2,o2,U,aD,aD,_,.imm r2,?_,?_,(i+1,a,v.columns,(co.take (i+1)).map (λc=>n.getD c.toNat 0),h),⟨rfl,rfl,rfl,aD,rfl,hg.succ M t⟩,aD,?_⟩
   .simp;omega
   .simp;omega
   .rw[iO M,bw];exact MT
  .rw[if_pos ⟨R,hg.all aD⟩]at d;rw[bu aD];exact aF (λg=>d.big (.refl _) rfl bg) (λg F h' f j=>d.ok f rfl bg j)
 .rw[beq_eq_false_iff_ne]at o y A;have G:=beq_iff_eq.1 D;rw[if_neg o,if_neg y,if_neg A,if_pos G]at d;refine⟨v.on,a,b,on,n,C,rfl,x.on_,B,L,λr z=>aC (λu=>d.err (.refl _) (if_neg λe=>?_)) (λu=>aC (λ_=>⟨C.map eI,qL _,L.row,bf,bf,?_⟩) (λt=>?_))⟩
  .grind
  .rw[if_pos (z.1 bg)]at d;rw[<-bw];exact aF (λg=>d.big (.refl _) rfl bg) (λg F h' f j=>d.ok f rfl bg j)
  grind
 .rw[beq_eq_false_iff_ne]at o y A;have G:=beq_eq_false_iff_ne.1 D;rw[beq_iff_eq]at E;rw[if_neg o,if_neg y,if_neg A,if_neg G,if_pos E]at d;refine⟨v.on,a,b,on,n,C,rfl,x.on_,B,L,λr z=>aC (λu=>d.err (.refl _) (if_neg λe=>?_)) (λu=>aC (λt=>?_) (λt=>?_))⟩
  .grind
  .grind
  .rw[if_pos (z.1 bg)]at d;exact aF (λg=>d.big (.refl _) rfl bg) (λg F h' f j=>d.ok f rfl aD j)
 .rw[beq_eq_false_iff_ne]at o y A D E;rw[beq_iff_eq]at I;rw[if_neg o,if_neg y,if_neg A,if_neg D,if_neg E,if_pos I]at d;refine⟨v,a,gr,od,n,rfl,x.group_,x.order_,B,λr z=>aC (λu=>d.err (.refl _) (if_neg λe=>?_)) (λu=>?_)⟩
  .grind
  rw[if_pos (z.1 bg)]at d;exact aF (λg=>d.big (.refl _) rfl bg) (λg F h' f j=>d.ok f rfl aD j)
 .rw[beq_eq_false_iff_ne]at o y A D E I;rw[if_neg o,if_neg y,if_neg A,if_neg D,if_neg E,if_neg I]at d;refine⟨a,b,n,C,rfl,B,L,λr z=>aC (λu=>d.err (.refl _) ?_) (λu=>aC (λt=>⟨v,a,gr,od,n,rfl,x.group_,x.order_,B,λr2 V=>aC (λd4=>d.err (.refl _) ?_) (λd4=>?_)⟩) (λt=>?_))⟩
  .grind
  .grind
  .rw[beq_iff_eq]at t;rw[if_pos t,if_pos ⟨z.1 bg,V.1 bg⟩]at d;exact aF (λg=>d.big (.refl _) rfl bg) (λg F h' f j=>d.ok f rfl aD j)
  .rw[beq_eq_false_iff_ne]at t;rw[if_neg t,if_pos (z.1 bg)]at d;exact aF (λg=>d.big (.refl _) rfl bg) (λg F h' f j=>d.ok f rfl aD j)
theorem YE:cm 130 bRQ:=by
 refine iH func130 ?_;rintro c m h K ⟨sc,p,v,a,b,s,ps,q,x,y,rfl,d,e,f,g,j,n,o,t,u⟩;refine⟨a9Q m,rfl,aE O8 (aE XU (aE Lb (aE K7 (aE H6 (aE XT (aE XS (aE asQ aG))))))),Lx sc p v a b m h K,ax,?_⟩;exact bJZ d e f g j n o t u
mutual
noncomputable def aJ(s:jB)(ps:cq):Query->cq×Int
 |.mk op ta w co on gr od li args=>
  match eO s ps args with
  |(ks,e)=>if e=0 then(if(ks.length:Int)=arity op then dV s ps (.mk op ta w co on gr od li args) (ks.getD 0 []) (ks.getD 1 [])else dP 100)else dP e
noncomputable def eO(s:jB)(ps:cq):cz->List cq×Int
 |[]=>([],0)
 |q::qs=>
  match aJ s ps q with
  |(k,e)=>if e=0 then(match eO s ps qs with|(ks,c)=>if c=0 then(k::ks,0)else([],c))else([],e)
end
theorem tP{s:jB}{ps:cq}:∀{c:cz}{ks:List cq},c.map (aJ s ps)=ks.map (λk=>(k,0))->eO s ps c=(ks,0)
 |[],[],_=>by simp[eO]
 |q::c,k::ks,h=>by
  simp only[map_cons,List.cons.injEq]at h;simp only[eO,h.1,tP h.2,if_true]
 |[],_::_,h=>by simp at h
 |_::_,[],h=>by simp at h
theorem FU{s:jB}{ps:cq}{e:Int}(d:e≠0):∀{c:cz}{ks:List cq}{i:Nat}{q:Query},(c.take i).map (aJ s ps)=ks.map (λk=>(k,0))->c[i]? =some q->(aJ s ps q).2=e->eO s ps c=([],e)
 |[],_,_,_,_,h,_=>by simp at h
 |q::c,_,0,g,_,h,f=>by
  simp at h;subst h;simp only[eO,f,if_neg d]
 |q::c,[],i+1,_,h,_,_=>by simp at h
 |q::c,k::ks,i+1,g,h,j,f=>by
  simp only[take_succ_cons,map_cons,List.cons.injEq]at h;have:=FU d h.2 bg f;simp only[eO,h.1,this,if_true,if_neg d]
theorem aPX(l:cq):(lF l).1.length<=12:=by unfold lF;grind
theorem alZ(s:jB)(ps:cq)(q:Query)(a b:cq):(dV s ps q a b).1.length<=12:=by
 obtain⟨op,ta,w,co,on,gr,od,li,args⟩:=q;unfold dV;dsimp only
 repeat' split
 all_goals first|exact aPX _|(simp[dP];done)
theorem kH(s:jB)(ps:cq)(q:Query):(aJ s ps q).1.length<=12:=by
 obtain⟨op,ta,w,co,on,gr,od,li,args⟩:=q;simp only[aJ]
 repeat' split
 all_goals first|exact alZ .. |simp[dP]
noncomputable def dU(s:jB)(ps:cq)(q:Query):cq×Int:=
 if dH s=0 then(if ps.all eT=true then(if yU q=true then aJ s ps q else dP 2)else dP 1)else dP (dH s)
def Slices(h:PH)(c:da)(ks:List cq):Prop:=c.length=ks.length/\∀(j:Nat) s k,c[j]? =some s->ks[j]? =some k->Ints h s k
theorem Slices.mono{c:da}(x:Slices h c ks)(le:PH.le h h'):Slices h' c ks:=⟨x.1,λj s k d e=>(x.2 j s k d e).mono le⟩
theorem Slices.snoc{c:da}{s:Sl}{k:cq}(x:Slices h c ks)(o:Ints h s k):Slices h (c++[s]) (ks++[k]):=by
 refine⟨by simp[x.1],λj g n d e=>?_⟩;by_cases f:j<c.length
 .rw[getElem?_append_left f]at d;rw[getElem?_append_left (by rw[<-x.1];exact f)]at e;exact x.2 j g n d e
 .rw[getElem?_append_right aD]at d;rw[getElem?_append_right (by have:=x.1;omega), <-x.1]at e
  grind
def BJ(N:Nat):Vc.Spec:=λc m h K=>∃sc p v s ps q,c=[aS sc,cS p,aQ v]/\iA h s sc/\mC s/\Ints h p ps/\cJ h q v/\SizeOf.sizeOf q<N/\KR K m h (aJ s ps q)
def wR:Vc.Spec:=λc m h K=>∃sc p v s ps q,c=[aS sc,cS p,aQ v]/\iA h s sc/\Ints h p ps/\cJ h q v/\KR K m h (dU s ps q)
noncomputable def bxQ(N:Nat)(sc:bW)(p:Sl)(v:QV)(m:MH):Ctx:=
 dD [(89,BJ N),(128,PK),(130,bRQ)] [(3,{A:=Nat×da×PH,st:=λ⟨i,c,h⟩=>bQ 58 61 [(1,sv p),(3,.at (.ptr 3 0)),(5,.at (.ptr 5 0)),(8,.at (.lst 35)),(14,iv v.args.len),(15,iv i)] [(3,.cells 43 (sc.enc.map .val)),(5,.cells 38 (v.enc.map .val)),(35,.lst 33 1 (c.map eS))] m h})] [] [] false
abbrev Nd(a:(Nat×da×PH->Prop)->(Nat×da×PH)->Prop)(b:(Nat×da×PH->Prop)->(Nat×da×PH->Nat)->(Nat×da×PH)->Prop):Prop:=∃(x:Nat×da×PH->Prop)(d:Nat×da×PH->Nat),(∃(c:Nat×da×PH),a x c)/\∀(c:Nat×da×PH),b x d c
noncomputable abbrev nB(a:da):List cn:=List.map eS a
noncomputable abbrev qE(a:Nat×da×PH):List cn:=nB a.2.1
noncomputable abbrev mJ(a:Nat×da×PH):Nat->Nat->Option Value:=a.2.2
abbrev D2(a:bW->Sl->Prop):Prop:=∃(x:bW)(c:Sl),a x c
abbrev HB(a:jB->cq->Prop):Prop:=∃(x:jB)(c:cq),a x c
abbrev I7(a:bW)(b:Sl)(c:QV)(d:PH)(e:Nat)(g:jB->cq->Query->Sl->PH->Prop):Prop:=D2 (λx t=>∃(u:QV),HB (λf n=>∃(j:Query),aA (cE (cD a) (jA b (eC c))=cE (cD x) (jA t (eC u))) (iA d f x) (aA (mC f) (Ints d t n) (aA (cJ d j u) (xE j e) (jJ (λy o=>cZ d o (Ints o y (aJ f n j).1) (g f n j y o)))))))
abbrev mV(a:List cn)(b:Nat)(c:Prop):Prop:=aA (iM (qR a 1*b)) (A0 a) c
noncomputable abbrev jV(a b:cn):List cn:=a::kJ b
noncomputable abbrev Js(a:Nat×da×PH):List cn:=qE a++jV iV iV
abbrev EA(a:Prop)(b c:Int)(d:List cn)(e:cn->Prop):Prop:=aA a (b<=c) (c<iZ d/\∃(x:cn),e x)
abbrev pN(a:Nat)(b c:cn):Prop:=List.take a (List.drop 0 b)=c
attribute [push_cast] Nd nB qE mJ D2 HB I7 mV jV Js EA pN
def U5(N:Nat)(sc:bW)(p:Sl)(v:QV)(m:MH)(h:PH)(K:cr):Prop:=
  Nd (λI x=>aA (I x) (aI p) (aA cG dN (aA (eL 35) (wA v) (aA (bB x.1) (cM sc) (uZ (eY v) (qG 33 1 (qE x)) (m=m) h (mJ x)))))) (λI t x=>I x->aX (↑x.1:Int) (aH v.args) (bI (λb o=>aA (bK v.args.a b o) (0<=(↑x.1:Int)) ((↑x.1:Int)<aH v.args/\∃(y:QV),aU m (mJ x) b (bN o x.1 21) y.enc/\I7 sc p y (mJ x) N (λs f q c d=>dC (aJ s f q).2 0 (K (CV.tup (gZ jQ (CV.val (eN (aJ s f q).2)))) m d) (mV (qE x) 24 (∃(g:Nat×da×PH),aA (I g) (t g<t x) (aA (aI p) cG (aA dN (eL 35) (aA (wA v) (bD (gG (bF x.1 1)) g.1) (aA (cM sc) (eY v) (aA (Option.some (Own.lst 33 1 (fK (qE x) (aY c)))=Option.some (Own.lst 33 1 (qE g))) (m=m) (bL d (mJ g))))))))))))) (∃(o:
 Int),fH (kU v.op o) (iZ (qE x) !=arity o) (K (CV.tup (bC jQ 100)) m (mJ x)) (aA (iM (qR (qE x) 2*24)) (iM (qR (qE x) 2)) (aA (bV 0) (0<iZ (Js x)) (∃(e:cn),(Js x)[0]? =Option.some e/\∃(y:Sl),EA (pN 1 e (aY y)) 0 1 (Js x) (λu=>(Js x)[1]? =Option.some u/\∃(z:Sl),pN 1 u (aY z)/\D2 (λs f=>∃(A:QV),nA (λa b=>HB (λc n=>∃(q:Query),HZ (λl j=>aA (cE (cD sc) (dJ p (cE v.enc (cV y z)))=cE (cD s) (dJ f (cE A.enc (cV a b)))) (iA (mJ x) c s) (aA (mC c) (Ints (mJ x) f n) (aA (cJ (mJ x) q A) (Ints (mJ x) a l) (aA (Ints (mJ x) b j) (l.length<=12) (j.length<=12/\jJ (λB d=>cZ (mJ x) d (Ints d B (dV c n q l
 j).1) (K (CV.tup (jA B (CV.val (eN (dV c n q l j).2)))) m d))))))))))))))))
abbrev Jg(a:bW)(b:PH)(c:jB->Prop):Prop:=xK (λx d=>aA (fP (fM (cD a)) (fM (cD x))) (iA b d x) (c d))
attribute [push_cast] Jg
def Vo(N:Nat)(sc:bW)(p:Sl)(v:QV)(m:MH)(h:PH)(K:cr):Prop:=
  Jg sc h (λs=>dC (dH s) 0 (K (CV.tup (bC jQ (dH s))) m h) (vR p h (λl=>tD (Dc l) (K (CV.tup (bC jQ 1)) m h) (qF (λc d=>aA (fP (eC v) (eC c)) (cJ h d c) (tD (yU d) (K (CV.tup (bC jQ 2)) m h) (I7 sc p v h N (λe f q g j=>K (CV.tup (jA g (CV.val (eN (aJ e f q).2)))) m j))))))))
theorem KY{c:cz}(h:c.map (aJ s ps)=ks.map (λk=>(k,0)))(j:Nat):(ks.getD j []).length<=12:=by
 rw[getD_eq_getElem?_getD];cases e:ks[j]? with
 |none=>simp
 |some k=>
  have d:(c.map (aJ s ps))[j]? =some (k,0):=bg
  rw[getElem?_map,Option.map_eq_some_iff]at d;obtain⟨q,_,f⟩:=d;have:=kH s ps q
  grind
theorem Slices.pick{c:da}(x:Slices h c ks)(j:Nat)(f:j<c.length+2):∃y:Sl,(c.map eS++[[.slice none 0 0],[.slice none 0 0]])[j]? =some [.slice y.a y.len y.cap]/\Ints h y (ks.getD j []):=by
 by_cases d:j<c.length
 .refine⟨c[j],?_,?_⟩
  .rw[getElem?_append_left bg];simp[d,eS]
  .have e:j<ks.length:=by rw[<-x.1];exact d
   rw[getD_eq_getElem?_getD,bo e];exact x.2 j _ _ (bo d) (bo e)
 .refine⟨⟨none,0,0⟩,?_,?_⟩
  .grind
  .rw[getD_eq_getElem?_getD,getElem?_eq_none (by have:=x.1;omega)];exact⟨.nil _ _,ay⟩
theorem ZS:∀N,cm 89 (BJ N)
 |0=>by
  refine eD (fn:=Tryz.f89) (c:=cA Tryz.f89) func89 rfl az ?_;rintro C m h K ⟨sc,p,v,s,ps,q,rfl,_,_,_,_,Y,_⟩;omega
 |N+1=>by
  refine iH func89 ?_;rintro C m h K ⟨sc,p,v,s,ps,q,rfl,Q,R,S,T,Y,n⟩;refine⟨bxQ N sc p v m,rfl,aE (ZS N) (aE O8 (aE YE aG)),U5 N sc p v m h K,ax,?_⟩;dsimp only[U5,push_cast];have D:=@vF q;have E:=T;obtain⟨op,ta,w,co,on,gr,od,li,args⟩:=q;have x:=T.parts;have e0:=x.op_;have Z:=x.args_.slen;have U:=x.args_.len;simp only[Query.args]at D;simp only[aJ]at n;refine⟨λ⟨i,z,F⟩=>i<=args.length/\PH.le h F/\∃ks,Slices F z ks/\(args.take i).map (aJ s ps)=ks.map (λk=>(k,0)),λ⟨i,_,_⟩=>args.length-i,⟨(0,[],h),⟨aD,.refl _,[],⟨rfl,λj s k y=>by simp at y⟩,ay⟩,MT⟩,?_⟩;rintro⟨i,z,F⟩ ⟨V,d,ks,A,g⟩;have G:ks.length=i:=by have:=congrArg List.length g;grind
  have a':z.length=i:=by rw[A.1,G]
  dsimp only;refine aF (λo=>?_) (λa0=>?_)
  .obtain⟨B,t⟩:=eU Z o;obtain⟨b1,o1,u,H,r1,I⟩:=(x.args_.mono d).at t;refine⟨b1,o1,H,aD,o,u,.imm r1,sc,p,u,s,ps,B,rfl,Q.mono d,R,S.mono d,I,?_,λJ h' f L=>aC (λy=>?_) (λy=>?_)⟩
   .grind
   .have M:(aJ s ps B).2≠0:=bg
    rw[FU M g t rfl]at n;exact n.err (d.trans f) (if_neg M)
   .have M:(aJ s ps B).2=0:=bg
    refine⟨bf,bf,(i+1,z++[J],h'),⟨aD,d.trans f,ks++[(aJ s ps B).1],(A.mono f).snoc L,?_⟩,aD,?_⟩
    .rw[iO t,g,bw]
     grind
    .rw[bw];exact MT
  .rw[bu aD]at g;rw[tP g]at n;simp only[if_true]at n;refine⟨v.op,rfl,aC (λy=>n.err d (if_neg λe=>?_)) (λy=>?_)⟩
   .grind
   have y:(z.length:Int)=arity op:=bg
   rw[if_pos aD]at n;obtain⟨W,O,i0⟩:=A.pick 0 aD;obtain⟨X,P,i1⟩:=A.pick 1 aD;exact⟨bf,bf,aD,bf,_,O,W,rfl,aD,bf,_,P,X,rfl,sc,p,v,W,X,s,ps,_,_,_,rfl,Q.mono d,R,S.mono d,E.mono d,i0,i1,KY g 0,KY g 1,λJ h' f V=>n J h' (d.trans f) V⟩
theorem Qf(h:dH s=0):mC s:=by
 have c:Dl s:=Classical.byContradiction λd=>by rw[v8 d]at h;cases h
 intro t e;obtain⟨j,f⟩:=mem_iff_getElem?.1 e;exact(c.2 j t f).1
theorem QR:cm 37 wR:=by
 refine iH func37 ?_;rintro n m h K ⟨sc,p,v,s,ps,q,rfl,f,g,j,c⟩;refine⟨dD [(86,BQ),(87,PB),(88,aaZ),(89,BJ (SizeOf.sizeOf q+1))] [] [] [] false,rfl,aE aqZ (aE QF (aE aqX (aE (ZS _) aG))),Vo (SizeOf.sizeOf q+1) sc p v m h K,ax,?_⟩;dsimp only[Vo,push_cast];unfold dU at c;refine⟨sc,s,rfl,f,aC (λd=>c.err (.refl _) (if_neg bg)) (λd=>?_)⟩;have d:dH s=0:=bg
 rw[if_pos d]at c;refine⟨p,ps,rfl,g,aC (λo=>c.err (.refl _) (if_neg λe=>bg)) (λo=>?_)⟩;rw[if_pos bg]at c;refine⟨v,q,rfl,j,aC (λt=>c.err (.refl _) (if_neg λe=>bg)) (λt=>?_)⟩;rw[if_pos bg]at c;exact⟨sc,p,v,s,ps,q,rfl,f,Qf d,g,j,aD,c⟩
def aN(n:NV):CV:=.val (.agg ⟨n.enc⟩)
structure A6(h:PH)(s:jB)(ps:cq)(q:Query)(ks:List cq)(n:NV):Prop where
 s_:iA h s n.s
 ps_:Ints h n.params ps
 q_:cJ h q n.q
 ks_:bZ h 1 eS (λk sl=>Ints h sl k) n.args ks
 len:∀k∈ks,k.length<=12
def Query.withOf(u q:Query):Query:=match u,q with|.mk _ ta w co on gr od li _,.mk op _ _ _ _ _ _ _ args=>.mk op ta w co on gr od li args
def C4:Vc.Spec:=λc m h K=>∃n k u s ps q ks d,c=[aN n,cI k,aQ u]/\A6 h s ps q ks n/\cJ h d u/\∀r:Bool,(r=true↔(ks.length:Int)=k/\q=d.withOf q)->K (cB r) m h
def Pu:Vc.Spec:=λc m h K=>∃n s ps q ks,c=[aN n]/\A6 h s ps q ks n/\K (aQ ⟨0,0,⟨0,0,dG,dG,⟨none,0,0⟩⟩,⟨none,0,0⟩,⟨none,0,0⟩,n.q.group,n.q.order,n.q.limit,⟨none,0,0⟩⟩) m h
def Pv:Vc.Spec:=λc m h K=>∃n s ps q ks a,c=[aN n]/\A6 h s ps q ks n/\ks[0]? =some a/\∀r:Bool,(r=true↔∃op ta w co on gr od li args,q= .mk op ta w co on gr od li args/\lH a gr od li)->K (cB r) m h
def MW(ks:List cq):Query->Prop
 |.mk op ta w co on gr od li _=>ks.length=2/\ta=0/\w=eJ/\co=[]/\gr=[]/\od=[]/\li=0/\Good (lS (ks.getD 0 []) (ks.getD 1 [])) on
def Pz:Vc.Spec:=λc m h K=>∃n s ps q ks,c=[aN n]/\A6 h s ps q ks n/\∀r:Bool,(r=true↔MW ks q)->K (cB r) m h
noncomputable def aWX(n:NV)(h:PH):Ctx:=
 tR [] [(4,{A:=Nat×Nat×Nat×MH,st:=λ⟨i,c,b,d⟩=>bQ 72 73 [(1,.at (.ptr 1 0)),(3,iv c),(4,vv (.pointer (some ⟨b,0,none⟩))),(16,sv n.q.group),(17,iv n.q.group.len),(18,iv i)] [(1,.cells 218 (n.enc.map .val))] d h}),
  (11,{A:=Nat×Nat×MH,st:=λ⟨i,c,d⟩=>bQ 72 73 [(1,.at (.ptr 1 0)),(3,iv c),(39,sv n.q.order),(40,iv n.q.order.len),(41,iv i)] [(1,.cells 218 (n.enc.map .val))] d h})] [] [] [302] [] false
noncomputable def aWZ(n:NV)(h:PH):Ctx:=
 tR [(265,C4)] [(6,{A:=Nat×Sl×Sl×Nat×Nat×MH,st:=λ⟨i,s,t,b,c,d⟩=>bQ 80 81 [(3,sv s),(4,sv t),(5,vv (.pointer (some ⟨b,0,none⟩))),(6,vv (.pointer (some ⟨c,0,none⟩))),(28,sv n.q.on),(29,iv n.q.on.len),(30,iv i)] [] d h})] [] [] [302] [] false
noncomputable abbrev pF(a:QV):Value:=eN a.table
noncomputable abbrev rC(a:QV):Value:=eN a.where_.op
noncomputable abbrev rD(a:QV):Int:=a.where_.cmp
noncomputable abbrev j4(a:OV):Value:=eN a.kind
noncomputable abbrev jR(a:QV):OV:=a.where_.left
noncomputable abbrev qC(a:OV):Value:=eN a.index
noncomputable abbrev wO(a:OV):Int:=a.value.int
noncomputable abbrev qP(a:OV):Value:=eN (wO a)
noncomputable abbrev vO(a b:QV)(c:cn):cn:=aL (eN a.op) (pF b) (aL (rC b) (eN (rD b)) (aL (j4 (jR b)) (qC (jR b)) (aL (eN (A8 (jR b))) (qP (jR b)) c)))
noncomputable abbrev IT(a:OV):ByteArray:=a.value.text
noncomputable abbrev mN(a:OV):Value:=Value.string (IT a)
noncomputable abbrev fC(a:QV):OV:=a.where_.right
noncomputable abbrev jY(a:OV):Value:=eN (A8 a)
noncomputable abbrev B3(a:QV):Value:=hJ a.where_.args
noncomputable abbrev B6(a:QV):Value:=hJ a.columns
noncomputable abbrev B4(a:QV):Value:=hJ a.group
noncomputable abbrev B5(a:QV):Value:=hJ a.order
noncomputable abbrev BX(a:QV):Value:=eN a.limit
attribute [push_cast] pF rC rD j4 jR qC wO qP vO IT mN fC jY B3 B6 B4 B5 BX
def Q1(n:NV)(k:Int)(u:QV)(m:MH)(h:PH)(K:cr):Prop:=
  dW (aH n.args) k (∃(v:QV),qF (λw p=>∃(q:Query),aA (gZ (eC n.q) (fM (vO n.q u (aL (mN (jR u)) (j4 (fC u)) (aL (qC (fC u)) (jY (fC u)) (aL (qP (fC u)) (mN (fC u)) (aL (B3 u) (B6 u) (aL (hJ u.on) (B4 u) (aL (B5 u) (BX u) (aY n.q.args)))))))))=gZ (eC v) (fM w.enc)) (cJ h p v) (cJ h q w/\∀(r:Bool),(gI r↔p=q)->K (AQ r) m h))) (K aZ m h)
noncomputable abbrev u0(a b c d e g i:Value)(j:cn):cn:=aL a b (aL cW cW (aL cW cW (aL cW cW (aL Wy cW (aL cW cW (aL cW Wy (aL lI c (aL d e (aL g i j)))))))))
attribute [push_cast] u0
def Q0(n:NV)(m:MH)(h:PH)(K:cr):Prop:=
  K (fM (u0 cW cW lI lI (B4 n.q) (B5 n.q) (BX n.q) iV)) m h
noncomputable abbrev tO:Value:=Value.bool false
abbrev M4(a:MH)(b:PH)(c:Nat->MH->Prop):Prop:=mH a b (λx d=>dQ a d x (aL tO tO (aL tO tO (aL tO tO (aL tO tO (aL tO tO (aL tO tO [])))))) 302) (λx d=>c x d)
noncomputable abbrev pD(a:QV):At:=fV a.table
noncomputable abbrev sG(a:QV)(b:At)(c:Sl)(d e:At)(g:dj):dj:=pQ a.where_ (cQ b (vD c) (cQ d e g))
noncomputable abbrev tM(a:QV):At:=vD a.columns
noncomputable abbrev wC(a:QV):At:=vD a.group
noncomputable abbrev wD(a:QV):At:=vD a.order
noncomputable abbrev AW(a:QV):At:=vD a.args
abbrev Nn(a:bW)(b:At)(c:QV)(d:dj):Prop:=eQ (oQ 218 (cQ (fV a.version) (vD a.tables) (cQ b (fV c.op) (pD c::sG c (tM c) c.on (wC c) (wD c) (cQ (fV c.limit) (AW c) d)))))
abbrev D3(a:NV):Prop:=Nn a.s (vD a.params) a.q (nL (vD a.args))
noncomputable abbrev uO(a:Bool):cn:=lD (Value.bool a)
noncomputable abbrev xC(a:Array Value)(b:Nat)(c:cn):cn:=splice a.toList b c
attribute [push_cast] tO M4 pD sG tM wC wD AW Nn D3 uO xC
def G4(n:NV)(m:MH)(h:PH)(K:cr):Prop:=
  eA n.args.a 0 n.args (λb o y=>aU m h b (o+0) (aY y)/\M4 m h (λA B=>∃(I:Nat×Nat×Nat×MH->Prop)(u:Nat×Nat×Nat×MH->Nat),(∃(x:Nat×Nat×Nat×MH),aA (I x) eG (aA (bD (Hs y.len) x.2.1) (fA A (iK x.2)) (aA (aI n.q.group) (bJ n.q.group) (aA (bB x.1) (D3 n) (bP (B=gP x.2) h h)))))/\∀(x:Nat×Nat×Nat×MH),I x->aX (↑x.1:Int) (aH n.q.group) (bI (λf g=>aA (bK n.q.group.a f g) (0<=(↑x.1:Int)) ((↑x.1:Int)<aH n.q.group/\∃(e:Int),aU (gP x.2) h f (bN g x.1 1) (bG e)/\aX e 0 (oW K x.2 h) (gA e (↑x.2.1:Int) (oW K x.2 h) (aA (bV e) (e<12) (∃(z:Bool),aU (gP x.2) h (iK x.2) (fT 0 e 1) (uO z)/\branch z (oW K x.2 h) (aA (bV e) (e<12) (j9 (λc E=>aA (E8
 (gP x.2) (iK x.2) (kI c E 0)) (fT 0 e 1<c.size) (∀(j:MH),dQ (gP x.2) j (iK x.2) (xC c (fT 0 e 1) (lD AX)) E->∃(d:Nat×Nat×Nat×MH),aA (I d) (u d<u x) (aA eG (cO x.2.1 d.2.1) (aA (fA (iK x.2) (iK d.2)) (aI n.q.group) (aA (bJ n.q.group) (bD (gG (bF x.1 1)) d.1) (bO (D3 n) (j=gP d.2) (h=h))))))))))))))) (∃(I1:Nat×Nat×MH->Prop)(j:Nat×Nat×MH->Nat),Nq (λd=>aA (I1 d) eG (aA (cO x.2.1 (iK d)) (aI n.q.order) (aA (bJ n.q.order) (bB d.1) (aA (D3 n) (gP x.2=gP d) (bL h h))))) (λd=>I1 d->aX (↑d.1:Int) (aH n.q.order) (bI (λf g=>aA (bK n.q.order.a f g) (0<=(↑d.1:Int)) ((↑d.1:Int)<aH n.q.order/\∃(e:Int×Bool),aU (gP d) h f (bN g
 d.1 2) (z7 e)/\aX e.1 0 (oW K d h) (gA e.1 (↑(iK d):Int) (oW K d h) (∃(t:Nat×Nat×MH),aA (I1 t) (j t<j d) (aA eG (cO (iK d) (iK t)) (aA (aI n.q.order) (bJ n.q.order) (aA (bD (gG (bF d.1 1)) t.1) (D3 n) (bP (gP d=gP t) h h))))))))) (branch (decide (aH n.q.order<=12)) (gA n.q.limit 0 (K (AQ (decide (n.q.limit<=100))) (gP d) h) (oW K d h)) (oW K d h))))))
abbrev D0(a:jB->cq->Query->(List cq)->Prop):Prop:=HB (λx c=>∃(d:Query)(e:List cq),a x c d e)
abbrev Cu(a:dk)(b:NV->Int->QV->dk)(c:PH)(d:Int->Query->(List cq)->Query->Bool->Prop):Prop:=∃(x:NV)(e:Int)(f:QV),D0 (λo t g j=>∃(n:Query),aA (a=b x e f) (A6 c o t g j x) (cJ c n f/\∀(u:Bool),d e g j n u))
noncomputable abbrev iF(a:NV)(b:cn):cn:=aL (qC (jR a.q)) (jY (jR a.q)) (aL (qP (jR a.q)) (mN (jR a.q)) (aL (j4 (fC a.q)) (qC (fC a.q)) (aL (eN (A8 (fC a.q))) (qP (fC a.q)) b)))
noncomputable abbrev AY(a:OV)(b:QV)(c d:Sl):cn:=aL (mN a) (B3 b) (aL (B6 b) (hJ c) (aL (B4 b) (B5 b) (aL (eN b.limit) (hJ b.args) (aY d))))
noncomputable abbrev iE(a:NV):cn:=AY (fC a.q) a.q a.q.on a.args
abbrev CA(a:List cq)(b:Int)(c d:Query):Prop:=(↑a.length:Int)=b/\c=Query.withOf d c
noncomputable abbrev j6(a:Nat×Sl×Sl×Nat×Nat×MH):Nat×Nat×MH:=a.2.2.2
attribute [push_cast] D0 Cu iF AY iE CA j6
def G5(n:NV)(m:MH)(h:PH)(K:cr):Prop:=
  Cu (cE (aL (yR n.s) (yP n.s) (aL (hJ n.params) (eN n.q.op) (aL (pF n.q) (rC n.q) (aL (eN (rD n.q)) (j4 (jR n.q)) (iF n (iE n)))))) (gZ (eV 2) (fM (u0 cW cW lI (hJ n.q.on) lI lI cW iV)))) (λe k u=>cE (aL (yR e.s) (yP e.s) (aL (hJ e.params) (eN e.q.op) (aL (pF e.q) (rC e.q) (aL (eN (rD e.q)) (j4 (jR e.q)) (iF e (iE e)))))) (gZ (eV k) (fM u.enc))) h (λk q P u r=>gQ (gI r↔CA P k q u) (!r) (K aZ m h) (eA n.args.a 0 n.args (λb o y=>aU m h b (o+0) (aY y)/\eA n.args.a 1 n.args (λQ R t=>aU m h Q (R+1) (aY t)/\M4 m h (λS T=>M4 T h (λU V=>∃(I:Nat×Sl×Sl×Nat×Nat×MH->Prop)(z:Nat×Sl×Sl×Nat×Nat×MH->Nat),(∃(x:Nat×Sl×Sl×Nat×Nat×
 MH),aA (I x) (bS y x.2.1) (aA (bS t x.2.2.1) (fA S (j6 x).1) (aA (fA U (iK (j6 x))) (aI n.q.on) (aA (bJ n.q.on) (bB x.1) (bP (V=gP (j6 x)) h h)))))/\∀(x:Nat×Sl×Sl×Nat×Nat×MH),I x->aX (↑x.1:Int) (aH n.q.on) (bI (λA B=>aA (bK n.q.on.a A B) (0<=(↑x.1:Int)) ((↑x.1:Int)<aH n.q.on/\∃(d:Int×Int),aA (aU (gP (j6 x)) h A (bN B x.1 2) (uH d)) (bV 0) (aA Bf (bV 1) (Bg/\aX d.1 0 (oW K (j6 x) h) (gA d.1 (aH x.2.1) (oW K (j6 x) h) (aX d.2 0 (oW K (j6 x) h) (gA d.2 (aH x.2.2.1) (oW K (j6 x) h) (bI (λC D=>aA (bK x.2.1.a C D) (0<=d.1) (d.1<aH x.2.1/\∃(F:Int),aU (gP (j6 x)) h C (fT D d.1 1) (bG F)/\bI (λG H=>aA
 (bK x.2.2.1.a G H) (0<=d.2) (d.2<aH x.2.2.1/\∃(J:Int),aU (gP (j6 x)) h G (fT H d.2 1) (bG J)/\dC F J (oW K (j6 x) h) (aA (bV d.1) (d.1<12) (∃(L:Bool),aU (gP (j6 x)) h (j6 x).1 (fT 0 d.1 1) (uO L)/\branch L (oW K (j6 x) h) (aA (bV d.2) (d.2<12) (∃(M:Bool),aU (gP (j6 x)) h (iK (j6 x)) (fT 0 d.2 1) (uO M)/\branch M (oW K (j6 x) h) (aA (bV d.1) (d.1<12) (j9 (λc E=>aA (E8 (gP (j6 x)) (j6 x).1 (kI c E 0)) (fT 0 d.1 1<c.size) (∀(g:MH),dQ (gP (j6 x)) g (j6 x).1 (xC c (fT 0 d.1 1) (lD AX)) E->aA (bV d.2) (d.2<12) (j9 (λj E1=>aA (E8 g (iK (j6 x)) (kI j E1 0)) (fT 0 d.2 1<j.size) (∀(O:MH),dQ g O (iK
 (j6 x)) (xC j (fT 0 d.2 1) (lD AX)) E1->∃(f:Nat×Sl×Sl×Nat×Nat×MH),aA (I f) (z f<z x) (aA (bS x.2.1 f.2.1) (bS x.2.2.1 f.2.2.1) (aA (fA (j6 x).1 (j6 f).1) (fA (iK (j6 x)) (iK (j6 f))) (aA (aI n.q.on) (bJ n.q.on) (bO (bD (gG (bF x.1 1)) f.1) (O=gP (j6 f)) (h=h))))))))))))))))))))))))))))) (gO K (gP (j6 x)) h)))))))
structure Arr(m:MH)(b:Nat)(seen:cq):Prop where
 ex:∃bs:dm,m b=some (.cells ⟨bs.map Value.bool⟩ 302 (0,0))/\bs.length=12/\∀k:Nat,k<12->(bs[k]? =some true↔(k:Int)∈seen)
theorem Arr.zero(h:m b=some (.cells ⟨[.bool false,.bool false,.bool false,.bool false,.bool false,.bool false,.bool false,.bool false,.bool false,.bool false,.bool false,.bool false]⟩ 302 (0,0))):Arr m b []:=
 ⟨⟨replicate 12 false,h,rfl,λk c=>bg⟩⟩
theorem Arr.look{c:cq}(x:Arr m b c){n:Int}(f:0<=n)(g:n<12):∃y:Bool,aU m h b (0+n.toNat*1) [.bool y]/\(y=true↔n∈c):=by
 obtain⟨d,e,j,o⟩:=x.ex;have t:n.toNat<d.length:=by omega
 refine⟨d[n.toNat],.lent _ _ _ e ?_,?_⟩
 .simp only[Nat.zero_add,Nat.mul_one,ci,length_nil];rw[drop_eq_getElem_cons bg];simp
 grind
theorem Arr.store{c:cq}(x:Arr m b c){n:Int}(o:0<=n)(t:n<12):∃(cs:Array Value)(E:TypeId),E8 m b (.cells cs E (0,0))/\0+n.toNat*1<cs.size/\∀m',iP m m' b (.cells ⟨splice cs.toList (0+n.toNat*1) [.bool true]⟩ E (0,0))->Arr m' b (c++[n]):=by
 obtain⟨d,e,u,y⟩:=x.ex;have f:n.toNat<d.length:=by omega
 refine⟨_,_,⟨e⟩,bg,λm' g=>⟨d.set n.toNat true,?_,bg,λk j=>?_⟩⟩
 .rw[g.at_];congr 3;simp only[splice,Nat.zero_add,Nat.mul_one,ci,length_nil];rw[set_eq_take_append_cons_drop,if_pos f];simp[map_take,map_drop]
 grind
theorem Arr.other{f:Nat}{d:cq}(x:Arr m b d)(g:b≠f)(t:∀c,c≠f->m' c=m c):Arr m' b d:=by
 obtain⟨j,e,n,o⟩:=x.ex;exact⟨j,bg,n,o⟩
theorem A6.arg{q:Query}{n:NV}(x:A6 h s ps q ks n){j:Nat}{k:cq}(c:ks[j]? =some k):∃b o sl,n.args.a=some ⟨b,o,none⟩/\bM h b (o+j*1) [.slice sl.a sl.len sl.cap]/\Ints h sl k/\k.length<=12/\j<n.args.len:=by
 obtain⟨b,o,sl,e,r,d⟩:=x.ks_.at c;have:=(bm c);exact⟨b,o,sl,e,r,d,x.len k (br c),by rw[x.ks_.slen];exact this⟩
theorem bEX{n:NV}(c:K (aQ ⟨0,0,⟨0,0,dG,dG,⟨none,0,0⟩⟩,⟨none,0,0⟩,⟨none,0,0⟩,n.q.group,n.q.order,n.q.limit,⟨none,0,0⟩⟩) m h):Q0 n m h K:=c
theorem wI:cm 265 C4:=by
 refine iH func265 ?_;rintro C m h K ⟨n,k,u,s,ps,q,ks,D,rfl,c,E,B⟩;refine⟨dD [(290,cgZ)] [] [] [] false,rfl,aE Xl aG,Q1 n k u m h K,ax,?_⟩;dsimp only[Q1,push_cast];have L:=c.ks_.slen;have F:=c.q_;have d:=c.q_;obtain⟨op,ta,w,co,on,gr,od,li,args⟩:=q;obtain⟨G,f,H,g,j,o,t,z,A⟩:=D;have x:=E.parts;have y:=F.parts;refine aC (λI=>⟨n.q,⟨n.q.op,u.table,u.where_,u.columns,u.on,u.group,u.order,u.limit,n.q.args⟩,_,.mk op f H g j o t z args,rfl,d,pJ.rep ⟨y.op_,x.table_,x.where_,x.columns_,x.on_,x.group_,x.order_,x.limit_,y.args_⟩,λr J=>B r (J.trans ⟨λe=>⟨?_,e⟩,λe=>e.2⟩)⟩) (λI=>B false ⟨λe=>(by cases e),λe=>?_⟩)
 .grind
 grind
theorem OU:cm 267 Pu:=by
 refine iH func267 ?_;rintro c m h K ⟨n,s,ps,q,ks,rfl,e,d⟩;refine⟨dD [] [] [] [] false,rfl,aG,Q0 n m h K,ax,?_⟩;exact bEX d
theorem bEQ{n:NV}{op:Int}{w:Pred}{on:cu}{args:cz}(u:A6 h s ps (.mk op ta w co on gr od li args) ks n)(ha:ks[0]? =some a)(W:∀r:Bool,(r=true↔lH a gr od li)->K (cB r) m h):G4 n m h (kX h K):=by
 dsimp only[G4,push_cast];have x:=u.q_.parts;have gl:=x.group_.slen;have X:=x.group_.len;have ol:=x.order_.slen;have Y:=x.order_.len;have el:=x.limit_;obtain⟨b0,o0,Z,e0,r0,J,a',a0⟩:=u.arg ha;have L:=J.slen;have bad:∀f,Sub m f->¬lH a gr od li->kX h K (.val (.bool false)) f h:=λf hm u=>.sub hm (W false ⟨λe=>(by cases e),λe=>(u e).elim⟩);refine⟨b0,o0,e0,aD,aD,Z,.imm aD,λb m1 hb C=>?_⟩;refine⟨λ⟨i,D,b',f⟩=>D=a.length/\b'=b/\i<=gr.length/\Sub m f/\Arr f b (gr.take i)/\fJ (E9 a) gr i,λ⟨i,_,_,_⟩=>gr.length-i,⟨(0,Z.len,b,m1),⟨L,rfl,aD,(Sub.refl m).upd hb.m_ C.other,.zero C.at_,.zero⟩,MT⟩,?_⟩;rintro⟨i,D,b,f⟩ ⟨rfl,rfl,hi,d,j,M⟩;dsimp only;refine aF (λo=>?_) (λF=>?_)
 .obtain⟨c,z⟩:=eU gl o;obtain⟨O,P,Q,R⟩:=x.group_.at' z;have t:¬E9 a (gr.take i) c->kX h K (.val (.bool false)) f h:=λu=>bad f d λg=>Good.not z u g.group_;refine⟨O,P,Q,aD,o,c,.imm R,aF (λG=>t λg=>?_) (λG=>aF (λB=>t λg=>?_) (λB=>?_))⟩
  .have:=dZ.1 g.1;omega
  .have:=dZ.1 g.1;omega
  obtain⟨y,hy,S⟩:=j.look (h:=h) (n:=c) aD aD;refine⟨aD,aD,y,hy,aC (λh3=>t λg=>g.2 (S.1 h3)) (λh3=>?_)⟩;obtain⟨cs,E,T,U,V⟩:=j.store (n:=c) aD aD;refine⟨aD,aD,cs,E,T,U,λm2 H=>⟨(i+1,a.length,b,m2),⟨rfl,rfl,aD,d.upd hb.m_ H.other,?_,M.succ z ⟨dZ.2 ⟨aD,aD⟩,λe=>?_⟩⟩,aD,MT⟩⟩
  .have:=V m2 H
   rwa [cd,z]
  grind
 have gg:=M.all aD;refine⟨λ⟨i,D,f⟩=>D=a.length/\i<=od.length/\Sub m f/\fJ (Il a) od i,λ⟨i,_,_⟩=>od.length-i,⟨(0,a.length,f),⟨rfl,aD,d,.zero⟩,MT⟩,?_⟩;clear hi M F d j f;rintro⟨i,D,f⟩ ⟨rfl,hi,d,I⟩;dsimp only;refine aF (λo=>?_) (λF=>?_)
 .obtain⟨c,z⟩:=eU ol o;obtain⟨O,P,Q,R⟩:=x.order_.at z;have A:¬Il a (od.take i) c->kX h K (.val (.bool false)) f h:=λu=>bad f d λg=>Good.not z u g.order_;refine⟨O,P,Q,aD,o,c,.imm R,aF (λG=>A λg=>?_) (λG=>aF (λB=>A λg=>?_) (λB=>⟨(i+1,a.length,f),⟨rfl,aD,d,I.succ z (dZ.2 ⟨aD,aD⟩)⟩,aD,MT⟩))⟩
  .have:=dZ.1 (show Cg a c.1=true from g);omega
  .have:=dZ.1 (show Cg a c.1=true from g);omega
 have oo:=I.all aD;rw[el];refine aF (λG=>aF (λB=>?_) (λB=>bad f d λg=>?_)) (λG=>bad f d λg=>?_)
 .exact .sub d (W (decide (li<=100)) ⟨λe=>⟨gg,oo,aD,B,bk e⟩,λe=>decide_eq_true e.high⟩)
 .have:=g.low;omega
 .have:=g.len_;omega
theorem OT:cm 268 Pv:=by
 refine Fm func268 ?_;rintro c m h K ⟨n,s,ps,q,ks,a,rfl,d,f,g⟩;refine⟨aWX n h,rfl,aG,G4 n m h (kX h K),ax,?_⟩;dsimp only[G4,push_cast];obtain⟨op,ta,w,co,on,gr,od,li,args⟩:=q;refine bEQ d f (λr j=>g r (j.trans ⟨λe=>⟨_,_,_,_,_,_,_,_,_,rfl,e⟩,?_⟩))
 grind
theorem Wt{on:cu}{sl:Sl}(c:iD h sl on):cJ h (.mk 0 0 eJ [] on [] [] 0 []) ⟨0,0,⟨0,0,dG,dG,⟨none,0,0⟩⟩,⟨none,0,0⟩,sl,⟨none,0,0⟩,⟨none,0,0⟩,0,⟨none,0,0⟩⟩:=
 pJ.rep ⟨rfl,rfl,DR h,⟨.nil _ _,ay⟩,c,⟨.nil _ _,ay⟩,⟨.nil _ _,ay⟩,rfl,.nil _ _ _ _⟩
theorem OW:cm 266 Pz:=by
 refine Fm func266 ?_;rintro a7 m h K ⟨n,s,ps,q,ks,rfl,t,hK⟩;refine⟨aWZ n h,rfl,aE wI aG,G5 n m h (kX h K),ax,?_⟩;dsimp only[G5,push_cast];obtain⟨op,ta,w,co,on,gr,od,li,args⟩:=q;show G5 n m h (kX h K);dsimp only[G5,push_cast];have x:=t.q_.parts;have ol:=x.on_.slen;have a5:=x.on_.len;have bad:∀g,Sub m g->¬MW ks (.mk op ta w co on gr od li args)->kX h K (.val (.bool false)) g h:=λg T t=>.sub T (hK false ⟨λe=>(by cases e),λe=>(t e).elim⟩);refine⟨n,2,⟨0,0,⟨0,0,dG,dG,⟨none,0,0⟩⟩,⟨none,0,0⟩,n.q.on,⟨none,0,0⟩,⟨none,0,0⟩,0,⟨none,0,0⟩⟩,s,ps,_,ks,.mk 0 0 eJ [] on [] [] 0 [],rfl,t,Wt x.on_,λr hr=>aC (λh1=>bad m (Sub.refl m) λf=>?_) (λh1=>?_)⟩
 .have:r=true:=hr.2 ⟨by have:=f.1;omega,by obtain⟨_,rfl,rfl,rfl,rfl,rfl,rfl,_⟩:=f;rfl⟩
  grind
 obtain⟨U,G⟩:=hr.1 bg;simp only[Query.withOf,Query.mk.injEq]at G;obtain⟨_,rfl,rfl,rfl,_,rfl,rfl,rfl,_⟩:=G
 obtain⟨D,F,rfl⟩:∃D F,ks=[D,F]:=by
  match ks,U with
  |[D,F],_=>grind
  |[],h=>simp at h
  |[_],h=>simp at h
  |_::_::_::_,h=>grind
 obtain⟨b0,o0,H,e0,r0,i0,l0,j0⟩:=t.arg (j:=0) rfl;obtain⟨b1,o1,I,e1,r1,i1,l1,j1⟩:=t.arg (j:=1) rfl;have a8:=i0.slen;have a9:=i1.slen;have bad:∀g,Sub m g->¬Good (lS D F) on->kX h K (.val (.bool false)) g h:=λg T t=>bad g T λf=>t f.2.2.2.2.2.2.2;refine⟨b0,o0,e0,aD,aD,H,.imm aD,b1,o1,e1,aD,aD,I,.imm aD,λb m1 hb u c m2 hc A=>?_⟩;have B:b≠c:=λe=>by have:=hc.m_;rw[<-e,u.at_]at this;cases this
 have J:Sub m m1:=(Sub.refl m).upd hb.m_ u.other;have L:m c=none:=J.free hc.m_
 refine⟨λ⟨i,s',t',b',c',g⟩=>s'=H/\t'=I/\b'=b/\c'=c/\i<=on.length/\Sub m g/\Arr g b ((on.take i).map Prod.fst)/\Arr g c ((on.take i).map Prod.snd)/\fJ (lS D F) on i,λ⟨i,_,_,_,_,_⟩=>on.length-i,
  ⟨(0,H,I,b,c,m2),⟨rfl,rfl,rfl,rfl,aD,J.upd L A.other,(Arr.zero u.at_).other B A.other,.zero A.at_,.zero⟩,MT⟩,?_⟩
 rintro⟨i,H,I,b,c,g⟩ ⟨rfl,rfl,rfl,rfl,hi,o,hA,hB,hg⟩;dsimp only;refine aF (λM=>?_) (λb4=>.sub o (hK true ⟨λ_=>⟨rfl,rfl,rfl,rfl,rfl,rfl,rfl,hg.all aD⟩,λ_=>rfl⟩));obtain⟨p,O⟩:=eU ol M;obtain⟨bp,V,ep,rp⟩:=x.on_.at O;have d:¬lS D F (on.take i) p->kX h K (.val (.bool false)) g h:=λt=>bad g o (Good.not O t);refine⟨bp,V,ep,aD,M,p,.imm rp,aD,aD,aD,aD,aF (λd1=>d λf=>?_) (λd1=>aF (λd2=>d λf=>?_) (λd2=>aF (λd3=>d λf=>?_) (λd3=>aF (λd4=>d λf=>?_) (λd4=>?_))))⟩
 .have:=dZ.1 f.1;omega
 .have:=dZ.1 f.1;omega
 .have:=dZ.1 f.2.1;omega
 .have:=dZ.1 f.2.1;omega
 obtain⟨b2,o2,e2,r2⟩:=i0.inb (n:=p.1) aD aD;obtain⟨b3,o3,e3,r3⟩:=i1.inb (n:=p.2) aD aD;obtain⟨y,hy,W⟩:=hA.look (h:=h) (n:=p.1) aD aD;obtain⟨z,hz,X⟩:=hB.look (h:=h) (n:=p.2) aD aD;obtain⟨cs,E,Y,Z,a'⟩:=hA.store (n:=p.1) aD aD;refine⟨b2,o2,e2,aD,aD,_,.imm r2,b3,o3,e3,aD,aD,_,.imm r3,aC (λd5=>d λf=>?_) (λd5=>⟨aD,aD,y,hy,aC (λd6=>d λf=>?_) (λd6=>⟨aD,aD,z,hz,aC (λd7=>d λf=>?_) (λd7=>⟨aD,aD,cs,E,Y,Z,λm3 C=>?_⟩)⟩)⟩)⟩
 .rw[f.2.2.1]at d5;simp at d5
 .obtain⟨q,S,e⟩:=mem_map.1 (W.1 d6);exact(f.2.2.2 q S).1 e
 .obtain⟨q,S,e⟩:=mem_map.1 (X.1 d7);exact(f.2.2.2 q S).2 e
 have a2:=a' m3 C;have a3:=hB.other B.symm C.other;obtain⟨a4,E2,P,Q,a6⟩:=a3.store (n:=p.2) aD aD;refine⟨aD,aD,a4,E2,P,Q,λm4 R=>⟨(i+1,H,I,b,c,m4),⟨rfl,rfl,rfl,rfl,aD,(o.upd hb.m_ C.other).upd L R.other,?_,?_,hg.succ O ⟨dZ.2 ⟨aD,aD⟩,dZ.2 ⟨aD,aD⟩,bg,λq S=>⟨λe=>?_,λe=>?_⟩⟩⟩,aD,MT⟩⟩
 .rw[iO O];exact a2.other B R.other
 .rw[iO O];grind
 .grind
 .grind
def fin(r:cq×Int):cq×Int:=if r.2=0 then lF r.1 else dP r.2
def Query.op:Query->Int
 |.mk op .. =>op
noncomputable def Ba(s:jB)(ps:cq)(q:Query)(ks:List cq):cq×Int:=if(ks.length:Int)=arity q.op then dV s ps q (ks.getD 0 []) (ks.getD 1 [])else dP 100
def Bc(P:Int->Prop):Vc.Spec:=λc m h K=>∃n s ps q ks,c=[aN n]/\A6 h s ps q ks n/\mC s/\P q.op/\∀r,fin r=Ba s ps q ks->KR K m h r
def b7X(h:PH)(c:Sl)(ks:List cq):Prop:=bZ h 1 eS (λk d=>Ints h d k) c ks
def Kt:Vc.Spec:=λc m h K=>∃d ks,c=[cS d]/\b7X h d ks/\ks.length<=10/\(∀k∈ks,k.length<=12)/\∀e h',PH.le h h'->Ints h' e ks.flatten->K (cS e) m h'
noncomputable def aXQ(n:NV)(m:MH)(h:PH):Ctx:=
 dD [(265,C4)] [(5,{A:=Nat×cq,st:=λ⟨i,l⟩=>bQ 57 58 [(1,.at (.ptr 1 0)),(4,.at (.lst 25)),(28,sv n.q.columns),(29,iv n.q.columns.len),(30,iv i)] [(1,.cells 218 (n.enc.map .val)),(25,.lst 3 1 (l.map eI))] m h})] [] [] false
def Hc(n:NV)(m:MH)(h:PH)(K:cr):Prop:=
  Cu (cE (aL (yR n.s) (yP n.s) (aL (hJ n.params) (eN n.q.op) (aL (pF n.q) (rC n.q) (aL (eN (rD n.q)) (j4 (jR n.q)) (iF n (iE n)))))) (gZ (eV 0) (fM (u0 cW (pF n.q) lI lI lI lI cW iV)))) (λc k u=>cE (aL (yR c.s) (yP c.s) (aL (hJ c.params) (eN c.q.op) (aL (pF c.q) (rC c.q) (aL (eN (rD c.q)) (j4 (jR c.q)) (iF c (iE c)))))) (gZ (eV k) (fM u.enc))) h (λk q d u r=>gQ (gI r↔CA d k q u) (!r) (K (CV.tup (bC jQ 100)) m h) (aX n.q.table 0 (K (CV.tup (bC jQ 100)) m h) (gA n.q.table (lW n.s) (K (CV.tup (bC jQ 100)) m h) (Cw (bC (fM (cD n.s)) n.q.table) h (λs e=>mD K s m e)))))
def Hb(n:NV)(m:MH)(h:PH)(K:cr):Prop:=
  Cu (cE (aL (yR n.s) (yP n.s) (aL (hJ n.params) (eN n.q.op) (aL (pF n.q) (rC n.q) (aL (eN (rD n.q)) (j4 (jR n.q)) (iF n (iE n)))))) (gZ (eV 1) (fM (aL cW cW (aL (rC n.q) (eN (rD n.q)) (aL (j4 (jR n.q)) (qC (jR n.q)) (aL (eN (A8 (jR n.q))) (qP (jR n.q)) (aL (mN (jR n.q)) (j4 (fC n.q)) (aL (qC (fC n.q)) (jY (fC n.q)) (aL (qP (fC n.q)) (mN (fC n.q)) (aL (B3 n.q) lI (aL lI lI (aL lI cW iV))))))))))))) (λd k u=>cE (aL (yR d.s) (yP d.s) (aL (hJ d.params) (eN d.q.op) (aL (pF d.q) (rC d.q) (aL (eN (rD d.q)) (j4 (jR d.q)) (iF d (iE d)))))) (gZ (eV k) (fM u.enc))) h (λk q g u r=>gQ (gI r↔CA g k q u) (!r) (K (CV.tup (bC jQ 100)) m h) (eA
 n.args.a 0 n.args (λb o y=>aU m h b (o+0) (aY y)/\D9 (dJ y (jA n.params (jU n.q.where_))) h (λc p e=>dC (fX c p e) 0 (K (CV.tup (bC jQ (fX c p e))) m h) (eA n.args.a 0 n.args (λj t f=>aU m h j (t+0) (aY f)/\mD K f m h))))))
abbrev Jz(a:(Nat×cq->Prop)->(Nat×cq)->Prop)(b:(Nat×cq->Prop)->(Nat×cq->Nat)->(Nat×cq)->Prop):Prop:=∃(x:Nat×cq->Prop)(d:Nat×cq->Nat),(∃(c:Nat×cq),a x c)/\∀(c:Nat×cq),b x d c
noncomputable abbrev mW(a:Nat×cq):List cn:=jK a.2
attribute [push_cast] Jz mW
def Ha(n:NV)(m:MH)(h:PH)(K:cr):Prop:=
  Cu (cE (aL (yR n.s) (yP n.s) (aL (hJ n.params) (eN n.q.op) (aL (pF n.q) (rC n.q) (aL (eN (rD n.q)) (j4 (jR n.q)) (iF n (iE n)))))) (gZ (eV 1) (fM (u0 cW cW (B6 n.q) lI lI lI cW iV)))) (λc k u=>cE (aL (yR c.s) (yP c.s) (aL (hJ c.params) (eN c.q.op) (aL (pF c.q) (rC c.q) (aL (eN (rD c.q)) (j4 (jR c.q)) (iF c (iE c)))))) (gZ (eV k) (fM u.enc))) h (λk q A u r=>(gI r↔CA A k q u)->cX (!r) (K (CV.tup (bC jQ 100)) m h) (CP n.q==0) (K (CV.tup (bC jQ 100)) m h) (aA (bV 0) (bV (CP n.q)) (aA (vB (CP n.q*8)) (vB (CP n.q)) (Jz (λI x=>aA (I x) eG (aA (eL 25) (aI n.q.columns) (aA (bJ n.q.columns) (bB x.1) (aA (D3 n) (sL (mW x)) (bP (m=
 m) h h))))) (λI f x=>I x->aX (↑x.1:Int) (aH n.q.columns) (bI (λb o=>aA (bK n.q.columns.a b o) (0<=(↑x.1:Int)) ((↑x.1:Int)<aH n.q.columns/\∃(y:Int),aU m h b (bN o x.1 1) (bG y)/\aX y 0 (K (CV.tup (bC jQ 100)) m h) (eA n.args.a 0 n.args (λB C g=>aU m h B (C+0) (aY g)/\gA y (aH g) (K (CV.tup (bC jQ 100)) m h) (eA n.args.a 0 n.args (λD E e=>aU m h D (E+0) (aY e)/\bI (λj t=>aA (bK e.a j t) (0<=y) (y<aH e/\∃(z:Int),oZ (aU m h j (fT t y 1) (bG z)) (mW x) 8 (∃(d:Nat×cq),aA (I d) (f d<f x) (aA eG (eL 25) (aA (aI n.q.columns) (bJ n.q.columns) (aA (bD (gG (bF x.1 1)) d.1) (D3 n) (bO (sM (mW x) z (mW d)) (m=m) (h=h))))))))))))))) (sN h (mW x) K
 m))))))
noncomputable abbrev kF(a:NV)(b:cn):CV:=fM (aL (yR a.s) (yP a.s) (aL (hJ a.params) (eN a.q.op) (aL (pF a.q) (rC a.q) (aL (eN (rD a.q)) (j4 (jR a.q)) b))))
noncomputable abbrev rB(a:Sl):dk:=H0 (Dj a)
attribute [push_cast] kF rB
def G9(n:NV)(m:MH)(h:PH)(K:cr):Prop:=
  ∃(c:NV),D0 (λs p q k=>aA (fP (kF n (iF n (iE n))) (kF c (iF c (iE c)))) (A6 h s p q k c) (∀(r:Bool),gQ (gI r↔MW k q) (!r) (K (CV.tup (bC jQ 100)) m h) (eA n.args.a 0 n.args (λb o y=>aU m h b (o+0) (aY y)/\eA n.args.a 1 n.args (λg j e=>aA (aU m h g (j+1) (aY e)) (bM h b (o+0) (aY y)) (bM h g (j+1) (aY e)/\bU h 1 (jV (aY y) (aY e)) (λA t=>∃(u:Sl)(d:List cq),aA (rB A=rB u) (b7X t u d) (aA (d.length<=10) (∀(x:cq),List.Mem x d->x.length<=12) (jJ (λz f=>cZ t f (Ints f z d.flatten) (mD K z m f)))))))))))
def G8(n:NV)(m:MH)(h:PH)(K:cr):Prop:=
  ∃(c:NV),D0 (λs p q k=>aA (fP (kF n (iF n (iE n))) (kF c (iF c (iE c)))) (A6 h s p q k c) (∀(r:Bool),gQ (gI r↔MW k q) (!r) (K (CV.tup (bC jQ 100)) m h) (eA n.args.a 0 n.args (λb o y=>aU m h b (o+0) (aY y)/\mD K y m h))))
def Lk(n:NV)(m:MH)(h:PH)(K:cr):Prop:=
  Cu (cE (aL (yR n.s) (yP n.s) (aL (hJ n.params) (eN n.q.op) (aL (pF n.q) (rC n.q) (aL (eN (rD n.q)) (j4 (jR n.q)) (iF n (iE n)))))) (gZ (eV 2) (fM zV))) (λc k u=>cE (aL (yR c.s) (yP c.s) (aL (hJ c.params) (eN c.q.op) (aL (pF c.q) (rC c.q) (aL (eN (rD c.q)) (j4 (jR c.q)) (iF c (iE c)))))) (gZ (eV k) (fM u.enc))) h (λk q g u r=>gQ (gI r↔CA g k q u) (!r) (K (CV.tup (bC jQ 100)) m h) (eA n.args.a 0 n.args (λb o y=>aU m h b (o+0) (aY y)/\eA n.args.a 1 n.args (λj t d=>aU m h j (t+1) (aY d)/\zS y d h (λa x e=>gQ (gI e↔a=x) (!e) (K (CV.tup (bC jQ 100)) m h) (eA n.args.a 0 n.args (λz A f=>aU m h z (A+0) (aY f)/\mD K f m h)))))))
abbrev FN(a:Int->Int->Prop):Prop:=∃(x c:Int),a x c
abbrev CF(a:Int->Int->Pred->cq->cu->cq->cv->Int->cz->Prop):Prop:=FN (λx c=>∃(d:Pred)(e:cq)(f:cu)(g:cq)(j:cv)(n:Int)(o:cz),a x c d e f g j n o)
attribute [push_cast] FN CF
def G7(n:NV)(m:MH)(h:PH)(K:cr):Prop:=
  ∃(e:NV),D0 (λs p q k=>aA (fP (kF n (iF n (iE n))) (kF e (iF e (iE e)))) (A6 h s p q k e) (Cu (cE (aL (yR n.s) (yP n.s) (aL (hJ n.params) (eN n.q.op) (aL (pF n.q) (rC n.q) (aL (eN (rD n.q)) (j4 (jR n.q)) (iF n (iE n)))))) (gZ (eV 1) (fM (u0 cW cW lI lI (B4 e.q) (B5 e.q) (BX e.q) iV)))) (λd f u=>cE (aL (yR d.s) (yP d.s) (aL (hJ d.params) (eN d.q.op) (aL (pF d.q) (rC d.q) (aL (eN (rD d.q)) (j4 (jR d.q)) (iF d (iE d)))))) (gZ (eV f) (fM u.enc))) h (λf B C u r=>gQ (gI r↔CA C f B u) (!r) (K (CV.tup (bC jQ 100)) m h) (∃(d:NV),D0 (λD E j x=>∃(a:cq),aA (fP (kF n (iF n (iE n))) (kF d (iF d (iE d))))
 (A6 h D E j x d) (x[0]? =Option.some a/\∀(z:Bool),gQ (gI z↔CF (λo t w c F g A l G=>j=Query.mk o t w c F g A l G/\lH a g A l)) (!z) (K (CV.tup (bC jQ 100)) m h) (eA n.args.a 0 n.args (λb o y=>aU m h b (o+0) (aY y)/\mD K y m h))))))))
def G6(n:NV)(m:MH)(h:PH)(K:cr):Prop:=
  ∃(e:NV),D0 (λs p q k=>aA (fP (kF n (iF n (iE n))) (kF e (iF e (iE e)))) (A6 h s p q k e) (Cu (cE (aL (yR n.s) (yP n.s) (aL (hJ n.params) (eN n.q.op) (aL (pF n.q) (rC n.q) (aL (eN (rD n.q)) (j4 (jR n.q)) (iF n (iE n)))))) (gZ (eV 2) (fM (u0 cW cW lI lI (B4 e.q) (B5 e.q) (BX e.q) iV)))) (λd j u=>cE (aL (yR d.s) (yP d.s) (aL (hJ d.params) (eN d.q.op) (aL (pF d.q) (rC d.q) (aL (eN (rD d.q)) (j4 (jR d.q)) (iF d (iE d)))))) (gZ (eV j) (fM u.enc))) h (λj I J u r=>gQ (gI r↔CA J j I u) (!r) (K (CV.tup (bC jQ 100)) m h) (eA n.args.a 0 n.args (λb o y=>aU m h b (o+0) (aY y)/\eA n.args.a 1 n.args (λx z f=>aU m h x (z+1) (aY f)
 /\zS y f h (λa L B=>gQ (gI B↔a=L) (!B) (aA (bM h b (o+0) (aY y)) (bM h x (z+1) (aY f)) (K (CV.tup (bC jQ 100)) m h)) (aA (bM h b (o+0) (aY y)) (bM h x (z+1) (aY f)) (∃(d:NV),D0 (λM O C D=>∃(E:cq),aA (fP (kF n (iF n (iE n))) (kF d (iF d (iE d)))) (A6 h M O C D d) (D[0]? =Option.some E/\∀(F:Bool),gQ (gI F↔CF (λA t w c P g G l Q=>C=Query.mk A t w c P g G l Q/\lH E g G l)) (!F) (K (CV.tup (bC jQ 100)) m h) (eA n.args.a 0 n.args (λR A H=>aU m h R (A+0) (aY H)/\mD K H m h)))))))))))))
theorem Tk{e:Int}(h:e≠0):fin (dP e)=dP e:=by unfold fin;rw[if_neg (by simpa[dP]using h)];rfl
theorem ZN(l:cq):fin (l,0)=lF l:=by unfold fin;grind
structure Tst(K:cr)(m:MH)(h:PH)(full:cq×Int):Prop where
 all:∀r,fin r=full->KR K m h r
theorem Tst.err{f:cq×Int}{e:Int}(x:Tst K m h f)(d:f=dP e)(g:e≠0)(c:PH.le h h'):K (.tup [.val (.slice none 0 0),.val (.int .i64 e)]) m h':=
 (x.all (dP e) (by rw[d,Tk g])).err c rfl
theorem Tst.ok{f:cq×Int}{sl:Sl}(x:Tst K m h f)(d:f=lF l)(c:PH.le h h')(e:Ints h' sl l):K (.tup [.val (.slice sl.a sl.len sl.cap),.val (.int .i64 0)]) m h':=
 x.all (l,0) (by rw[d,ZN]) sl h' c e
theorem yD{q:Query}(h:¬((ks.length:Int)=arity q.op/\cH q)):Ba s ps q ks=dP 100:=by
 unfold Ba;by_cases c:(ks.length:Int)=arity q.op
 .rw[if_pos c];unfold dV;rw[if_pos (.inr λe=>h ⟨c,e⟩)]
 grind
theorem rR{s:jB}{ps:cq}{op ta:Int}{w:Pred}{co:cq}{on:cu}{gr:cq}{od:cv}{li:Int}{args:cz}{ks:List cq}(c:(ks.length:Int)=arity op)(d:cH (.mk op ta w co on gr od li args))(e:0<=arity op):
 Ba s ps (.mk op ta w co on gr od li args) ks=dV s ps (.mk op ta w co on gr od li args) (ks.getD 0 []) (ks.getD 1 [])/\¬(arity op<0\/¬cH (.mk op ta w co on gr od li args)):=by
 unfold Ba;rw[if_pos (show(ks.length:Int)=arity (Query.op (.mk op ta w co on gr od li args))from c)]
 grind
section
variable{n:NV}{s:jB}{ps:cq}{ta:Int}{w:Pred}{co:cq}{on:cu}{gr:cq}{od:cv}{li:Int}{args:cz}{ks:List cq}{m:MH}{h:PH}{K:cr}
theorem WQ(c:(ks.length:Int)=1):∃a,ks=[a]:=by
 match ks,c with
 |[a],_=>grind
 |[],h=>simp at h
 |_::_::_,h=>grind
theorem SG(c:(ks.length:Int)=2):∃a b,ks=[a,b]:=by
 match ks,c with
 |[a,b],_=>grind
 |[],h=>simp at h
 |[_],h=>simp at h
 |_::_::_::_,h=>grind
theorem bGZ(f:A6 h s ps (.mk 1 ta w co on gr od li args) ks n)(u:mC s)(c:Tst K m h (Ba s ps (.mk 1 ta w co on gr od li args) ks)):Hc n m h K:=by
 dsimp only[Hc,push_cast];have x:=f.q_.parts;have j:=x.table_;have y:=f.s_.tables.slen;refine⟨n,0,⟨0,n.q.table,⟨0,0,dG,dG,⟨none,0,0⟩⟩,⟨none,0,0⟩,⟨none,0,0⟩,⟨none,0,0⟩,⟨none,0,0⟩,0,⟨none,0,0⟩⟩,s,ps,_,ks,.mk 0 ta eJ [] [] [] [] 0 [],rfl,f,pJ.rep ⟨rfl,j,DR h,⟨.nil _ _,ay⟩,⟨.nil _ _,ay⟩,⟨.nil _ _,ay⟩,⟨.nil _ _,ay⟩,rfl,.nil _ _ _ _⟩,λr o=>aC (λz=>c.err (yD λe=>?_) aD (.refl _)) (λz=>?_)⟩
 .have:r=true:=o.2 ⟨e.1,by have:=e.2;simp[cH]at this;obtain⟨rfl,rfl,rfl,rfl,rfl,rfl⟩:=this;rfl⟩
  grind
 obtain⟨A,d⟩:=o.1 bg;simp only[Query.withOf,Query.mk.injEq]at d;obtain⟨_,_,rfl,rfl,rfl,rfl,rfl,rfl,_⟩:=d;obtain⟨B,C⟩:=rR (s:=s) (ps:=ps) (op:=1) (ta:=ta) (w:=eJ) (co:=[]) (on:=[]) (gr:=[]) (od:=[]) (li:=0) (args:=args) (ks:=ks) A (by simp[cH]) az;rw[B]at c;unfold dV at c;rw[if_neg C]at c;dsimp only at c;rw[if_pos rfl]at c;refine aF (λD=>c.err (if_neg aD) aD (.refl _)) (λD=>aF (λE=>c.err (if_neg aD) aD (.refl _)) (λE=>⟨n.s,s,n.q.table,rfl,f.s_,u,λy h' g t=>?_⟩));rw[j]at t;exact c.ok (if_pos aD) g t
theorem bGX(f:A6 h s ps (.mk 2 ta w co on gr od li args) ks n)(c:Tst K m h (Ba s ps (.mk 2 ta w co on gr od li args) ks)):Hb n m h K:=by
 dsimp only[Hb,push_cast];have x:=f.q_.parts;refine⟨n,1,⟨0,0,n.q.where_,⟨none,0,0⟩,⟨none,0,0⟩,⟨none,0,0⟩,⟨none,0,0⟩,0,⟨none,0,0⟩⟩,s,ps,_,ks,.mk 0 0 w [] [] [] [] 0 [],rfl,f,pJ.rep ⟨rfl,rfl,x.where_,⟨.nil _ _,ay⟩,⟨.nil _ _,ay⟩,⟨.nil _ _,ay⟩,⟨.nil _ _,ay⟩,rfl,.nil _ _ _ _⟩,λr o=>aC (λB=>c.err (yD λe=>?_) aD (.refl _)) (λB=>?_)⟩
 .have:r=true:=o.2 ⟨e.1,by have:=e.2;simp[cH]at this;obtain⟨rfl,rfl,rfl,rfl,rfl,rfl⟩:=this;rfl⟩
  grind
 obtain⟨t,d⟩:=o.1 bg;simp only[Query.withOf,Query.mk.injEq]at d;obtain⟨_,rfl,_,rfl,rfl,rfl,rfl,rfl,_⟩:=d;obtain⟨C,D⟩:=rR (s:=s) (ps:=ps) (op:=2) (ta:=0) (w:=w) (co:=[]) (on:=[]) (gr:=[]) (od:=[]) (li:=0) (args:=args) (ks:=ks) t (by simp[cH]) az;rw[C]at c;unfold dV at c;rw[if_neg D]at c;dsimp only at c;rw[if_neg az,if_pos rfl]at c;obtain⟨a,rfl⟩:=WQ t;obtain⟨u,y,g,z,F,A,G,H⟩:=f.arg (j:=0) rfl;simp only[getD_cons_zero]at c;refine⟨u,y,z,aD,aD,g,.imm aD,g,n.params,n.q.where_,a,ps,w,rfl,A,f.ps_,x.where_,aC (λE=>c.err (if_neg bg) bg (.refl _)) (λE=>⟨u,y,z,aD,aD,g,.imm aD,c.ok (if_pos bg) (.refl _) A⟩)⟩
theorem bFZ(t:A6 h s ps (.mk 5 ta w co on gr od li args) ks n)(d:Tst K m h (Ba s ps (.mk 5 ta w co on gr od li args) ks)):G8 n m h K:=by
 dsimp only[G8,push_cast];refine⟨n,s,ps,_,ks,rfl,t,λr u=>aC (λx=>d.err ?_ aD (.refl _)) (λx=>?_)⟩
 .by_cases f:((ks.length:Int)=arity 5/\cH (.mk 5 ta w co on gr od li args))
  .obtain⟨g,o⟩:=rR (s:=s) (ps:=ps) f.1 f.2 az;rw[g];unfold dV;rw[if_neg o];dsimp only;rw[if_neg az,if_neg az,if_neg az,if_neg az,if_pos rfl,if_neg];intro c;have e:=f.2;simp[cH]at e;have:r=true:=u.2 ⟨by have:=f.1;simp[arity]at this;omega,e.1,e.2.1,e.2.2.1,e.2.2.2.1,e.2.2.2.2.1,e.2.2.2.2.2,c⟩
   grind
  .exact yD f
 obtain⟨y,rfl,rfl,rfl,rfl,rfl,rfl,c⟩:=u.1 bg;obtain⟨g,o⟩:=rR (s:=s) (ps:=ps) (op:=5) (ta:=0) (w:=eJ) (co:=[]) (on:=on) (gr:=[]) (od:=[]) (li:=0) (args:=args) (ks:=ks) (by rw[y];rfl) (by simp[cH]) az;rw[g]at d;unfold dV at d;rw[if_neg o]at d;dsimp only at d;rw[if_neg az,if_neg az,if_neg az,if_neg az,if_pos rfl,if_pos c]at d;obtain⟨a,b,rfl⟩:=SG (ks:=ks) aD;obtain⟨z,A,B,C,E,D,F,G⟩:=t.arg (j:=0) rfl;exact⟨z,A,C,aD,aD,B,.imm aD,d.ok rfl (.refl _) D⟩
theorem bFJ(x:A6 h s ps (.mk 4 ta w co on gr od li args) ks n)(f:Tst K m h (Ba s ps (.mk 4 ta w co on gr od li args) ks)):G9 n m h K:=by
 dsimp only[G9,push_cast];refine⟨n,s,ps,_,ks,rfl,x,λr C=>aC (λD=>f.err ?_ aD (.refl _)) (λD=>?_)⟩
 .by_cases o:((ks.length:Int)=arity 4/\cH (.mk 4 ta w co on gr od li args))
  .obtain⟨y,z⟩:=rR (s:=s) (ps:=ps) o.1 o.2 az;rw[y];unfold dV;rw[if_neg z];dsimp only;rw[if_neg az,if_neg az,if_neg az,if_pos rfl,if_neg];intro c;have e:=o.2;simp[cH]at e;have:r=true:=C.2 ⟨by have:=o.1;simp[arity]at this;omega,e.1,e.2.1,e.2.2.1,e.2.2.2.1,e.2.2.2.2.1,e.2.2.2.2.2,c⟩
   grind
  .exact yD o
 obtain⟨d,rfl,rfl,rfl,rfl,rfl,rfl,c⟩:=C.1 bg;obtain⟨y,z⟩:=rR (s:=s) (ps:=ps) (op:=4) (ta:=0) (w:=eJ) (co:=[]) (on:=on) (gr:=[]) (od:=[]) (li:=0) (args:=args) (ks:=ks) (by rw[d];rfl) (by simp[cH]) az;rw[y]at f;unfold dV at f;rw[if_neg z]at f;dsimp only at f;rw[if_neg az,if_neg az,if_neg az,if_pos rfl,if_pos c]at f;obtain⟨a,b,rfl⟩:=SG (ks:=ks) aD;obtain⟨E,F,A,G,R,H,S,T⟩:=x.arg (j:=0) rfl;obtain⟨I,J,B,L,U,M,V,W⟩:=x.arg (j:=1) rfl;refine⟨E,F,G,aD,aD,A,.imm aD,I,J,L,aD,aD,B,.imm aD,aD,aD,λO h' g t=>⟨O,[a,b],rfl,⟨⟨[A,B],t,rfl,λj k d=>?_⟩,ay⟩,ay,λk d=>x.len k d,λP e u Q=>f.ok (l:=a++b) ay (g.trans u) bg⟩⟩
 match j,d with
 |0,d=>simp at d;subst d;exact⟨A,rfl,H.mono g⟩
 |1,d=>simp at d;subst d;exact⟨B,rfl,M.mono g⟩
 |_+2,d=>simp at d
theorem bFX{op:Int}(t:op=6\/op=7\/op=8)(o:A6 h s ps (.mk op ta w co on gr od li args) ks n)(d:Tst K m h (Ba s ps (.mk op ta w co on gr od li args) ks)):Lk n m h K:=by
 dsimp only[Lk,push_cast];have x:=o.q_.parts;have P:arity op=2:=by rcases t with rfl|rfl|rfl<;>rfl
 have c:op≠1/\op≠2/\op≠3/\op≠4/\op≠5/\op≠9/\op≠10:=by omega
 refine⟨n,2,⟨0,0,⟨0,0,dG,dG,⟨none,0,0⟩⟩,⟨none,0,0⟩,⟨none,0,0⟩,⟨none,0,0⟩,⟨none,0,0⟩,0,⟨none,0,0⟩⟩,s,ps,_,ks,.mk 0 0 eJ [] [] [] [] 0 [],rfl,o,pJ.rep ⟨rfl,rfl,DR h,⟨.nil _ _,ay⟩,⟨.nil _ _,ay⟩,⟨.nil _ _,ay⟩,⟨.nil _ _,ay⟩,rfl,.nil _ _ _ _⟩,λr z=>aC (λG=>d.err (yD λe=>?_) aD (.refl _)) (λG=>?_)⟩
 .have A:(ks.length:Int)=arity op:=e.1;have:r=true:=z.2 ⟨aD,by have:=e.2;simp[cH,c]at this;obtain⟨rfl,rfl,rfl,rfl,rfl,rfl,rfl⟩:=this;rfl⟩
  grind
 obtain⟨H,f⟩:=z.1 bg;simp only[Query.withOf,Query.mk.injEq]at f;obtain⟨_,rfl,rfl,rfl,rfl,rfl,rfl,rfl,_⟩:=f;obtain⟨I,J⟩:=rR (s:=s) (ps:=ps) (op:=op) (ta:=0) (w:=eJ) (co:=[]) (on:=[]) (gr:=[]) (od:=[]) (li:=0) (args:=args) (ks:=ks) aD (by simp[cH]) aD;rw[I]at d;unfold dV at d;rw[if_neg J]at d;dsimp only at d;rw[if_neg c.1,if_neg c.2.1,if_neg c.2.2.1,if_neg c.2.2.2.1,if_neg c.2.2.2.2.1,if_neg c.2.2.2.2.2.1,if_neg c.2.2.2.2.2.2]at d;obtain⟨a,b,rfl⟩:=SG H;obtain⟨B,C,u,D,Q,E,R,S⟩:=o.arg (j:=0) rfl;obtain⟨L,M,F,A,T,O,U,V⟩:=o.arg (j:=1) rfl;refine⟨B,C,D,aD,aD,u,.imm aD,L,M,A,aD,aD,F,.imm aD,u,F,a,b,rfl,E,O,λW g=>aC (λy=>d.err (if_neg λe=>?_) aD (.refl _)) (λy=>⟨B,C,D,aD,aD,u,.imm aD,d.ok (if_pos (g.1 bg)) (.refl _) E⟩)⟩;have e:a=b:=e;rw[g.2 e]at y;cases y
theorem bGQ(z:A6 h s ps (.mk 3 ta w co on gr od li args) ks n)(d:Tst K m h (Ba s ps (.mk 3 ta w co on gr od li args) ks)):Ha n m h K:=by
 dsimp only[Ha,push_cast];have x:=z.q_.parts;have E:=x.columns_.slen;have F:=x.columns_.len;refine⟨n,1,⟨0,0,⟨0,0,dG,dG,⟨none,0,0⟩⟩,n.q.columns,⟨none,0,0⟩,⟨none,0,0⟩,⟨none,0,0⟩,0,⟨none,0,0⟩⟩,s,ps,_,ks,.mk 0 0 eJ co [] [] [] 0 [],rfl,z,pJ.rep ⟨rfl,rfl,DR h,x.columns_,⟨.nil _ _,ay⟩,⟨.nil _ _,ay⟩,⟨.nil _ _,ay⟩,rfl,.nil _ _ _ _⟩,λr G=>aC (λQ=>d.err (yD λe=>?_) aD (.refl _)) (λQ=>?_)⟩
 .have:r=true:=G.2 ⟨e.1,by have:=e.2;simp[cH]at this;obtain⟨rfl,rfl,rfl,rfl,rfl,rfl⟩:=this;rfl⟩
  grind
 obtain⟨H,o⟩:=G.1 bg;simp only[Query.withOf,Query.mk.injEq]at o;obtain⟨_,rfl,rfl,_,rfl,rfl,rfl,rfl,_⟩:=o;obtain⟨R,S⟩:=rR (s:=s) (ps:=ps) (op:=3) (ta:=0) (w:=eJ) (co:=co) (on:=[]) (gr:=[]) (od:=[]) (li:=0) (args:=args) (ks:=ks) H (by simp[cH]) az;rw[R]at d;unfold dV at d;rw[if_neg S]at d;dsimp only at d;rw[if_neg az,if_neg az,if_pos rfl]at d;obtain⟨a,rfl⟩:=WQ H;obtain⟨I,J,L,M,r0,O,l0,j0⟩:=z.arg (j:=0) rfl;have T:=O.slen;simp only[getD_cons_zero]at d;refine aC (λP=>d.err (if_neg λe=>e.1 ((JV E).1 P)) aD (.refl _)) (λP=>?_);have A:co≠[]:=λe=>bg
 refine⟨aD,aD,aD,aD,λ⟨i,l⟩=>i<=co.length/\l=(co.take i).map (λc=>a.getD c.toNat 0)/\fJ (λ_ c=>Cg a c=true) co i,λ⟨i,_⟩=>co.length-i,⟨(0,[]),⟨aD,ay,.zero⟩,MT⟩,?_⟩;rintro⟨i,_⟩ ⟨hi,rfl,t⟩;dsimp only;refine aF (λu=>?_) (λU sl h' B f=>?_)
 .obtain⟨c,y⟩:=eU E u;obtain⟨V,W,C,X⟩:=x.columns_.at' y;have g:¬Cg a c=true->K (.tup [.val (.slice none 0 0),.val (.int .i64 100)]) m h:=λY=>d.err (if_neg λe=>Y (e.2 i c y)) aD (.refl _);refine⟨V,W,C,aD,u,c,.imm X,aF (λZ=>g λe=>?_) (λZ=>⟨I,J,M,aD,aD,L,.imm aD,aF (λd3=>g λe=>?_) (λd3=>?_)⟩)⟩
  .have:=dZ.1 e;omega
  .have:=dZ.1 e;omega
  obtain⟨b2,o2,D,r2⟩:=O.inb (n:=c) aD aD;refine⟨I,J,M,aD,aD,L,.imm aD,b2,o2,D,aD,aD,_,.imm r2,?_,?_,(i+1,(co.take (i+1)).map (λc=>a.getD c.toNat 0)),⟨aD,rfl,t.succ y (dZ.2 ⟨aD,aD⟩)⟩,aD,?_⟩
  .simp;omega
  .simp;omega
  .rw[iO y,bw];exact MT
 .rw[bu aD]at f;exact d.ok (if_pos ⟨A,t.all aD⟩) B ⟨f,bf⟩
theorem bFQ(d:A6 h s ps (.mk 9 ta w co on gr od li args) ks n)(c:Tst K m h (Ba s ps (.mk 9 ta w co on gr od li args) ks)):G7 n m h K:=by
 dsimp only[G7,push_cast];have x:=d.q_.parts;refine⟨n,s,ps,_,ks,rfl,d,n,1,⟨0,0,⟨0,0,dG,dG,⟨none,0,0⟩⟩,⟨none,0,0⟩,⟨none,0,0⟩,n.q.group,n.q.order,n.q.limit,⟨none,0,0⟩⟩,s,ps,_,ks,.mk 0 0 eJ [] [] gr od li [],rfl,d,pJ.rep ⟨rfl,rfl,DR h,⟨.nil _ _,ay⟩,⟨.nil _ _,ay⟩,x.group_,x.order_,x.limit_,.nil _ _ _ _⟩,λr g=>aC (λt=>c.err (yD λe=>?_) aD (.refl _)) (λt=>?_)⟩
 .have:r=true:=g.2 ⟨e.1,by have:=e.2;simp[cH]at this;obtain⟨rfl,rfl,rfl,rfl⟩:=this;rfl⟩
  grind
 obtain⟨o,f⟩:=g.1 bg;simp only[Query.withOf,Query.mk.injEq]at f;obtain⟨_,rfl,rfl,rfl,rfl,_,_,_,_⟩:=f;obtain⟨u,y⟩:=rR (s:=s) (ps:=ps) (op:=9) (ta:=0) (w:=eJ) (co:=[]) (on:=[]) (gr:=gr) (od:=od) (li:=li) (args:=args) (ks:=ks) o (by simp[cH]) az;rw[u]at c;unfold dV at c;rw[if_neg y]at c;dsimp only at c;rw[if_neg az,if_neg az,if_neg az,if_neg az,if_neg az,if_pos rfl]at c;obtain⟨a,rfl⟩:=WQ o;obtain⟨z,A,B,C,G,D,H,I⟩:=d.arg (j:=0) rfl;refine⟨n,s,ps,_,[a],a,rfl,d,rfl,λJ E=>aC (λF=>c.err (if_neg λe=>?_) aD (.refl _)) (λF=>⟨z,A,C,aD,aD,B,.imm aD,c.ok (if_pos ?_) (.refl _) D⟩)⟩
 .grind
 grind
theorem bEJ(d:A6 h s ps (.mk 10 ta w co on gr od li args) ks n)(c:Tst K m h (Ba s ps (.mk 10 ta w co on gr od li args) ks)):G6 n m h K:=by
 dsimp only[G6,push_cast];have x:=d.q_.parts;refine⟨n,s,ps,_,ks,rfl,d,n,2,⟨0,0,⟨0,0,dG,dG,⟨none,0,0⟩⟩,⟨none,0,0⟩,⟨none,0,0⟩,n.q.group,n.q.order,n.q.limit,⟨none,0,0⟩⟩,s,ps,_,ks,.mk 0 0 eJ [] [] gr od li [],rfl,d,pJ.rep ⟨rfl,rfl,DR h,⟨.nil _ _,ay⟩,⟨.nil _ _,ay⟩,x.group_,x.order_,x.limit_,.nil _ _ _ _⟩,λr t=>aC (λD=>c.err (yD λe=>?_) aD (.refl _)) (λD=>?_)⟩
 .have:r=true:=t.2 ⟨e.1,by have:=e.2;simp[cH]at this;obtain⟨rfl,rfl,rfl,rfl⟩:=this;rfl⟩
  grind
 obtain⟨u,f⟩:=t.1 bg;simp only[Query.withOf,Query.mk.injEq]at f;obtain⟨_,rfl,rfl,rfl,rfl,_,_,_,_⟩:=f;obtain⟨E,F⟩:=rR (s:=s) (ps:=ps) (op:=10) (ta:=0) (w:=eJ) (co:=[]) (on:=[]) (gr:=gr) (od:=od) (li:=li) (args:=args) (ks:=ks) u (by simp[cH]) az;rw[E]at c;unfold dV at c;rw[if_neg F]at c;dsimp only at c;rw[if_neg az,if_neg az,if_neg az,if_neg az,if_neg az,if_neg az,if_pos rfl]at c;obtain⟨a,b,rfl⟩:=SG u;obtain⟨y,z,g,A,P,B,Q,R⟩:=d.arg (j:=0) rfl;obtain⟨G,H,C,I,S,J,T,U⟩:=d.arg (j:=1) rfl;refine⟨y,z,A,aD,aD,g,.imm aD,G,H,I,aD,aD,C,.imm aD,g,C,a,b,rfl,B,J,λV o=>aC (λL=>⟨aD,aD,c.err (if_neg λe=>?_) aD (.refl _)⟩) (λL=>⟨aD,aD,n,s,ps,_,[a,b],a,rfl,d,rfl,λW M=>aC (λO=>c.err (if_neg λe=>?_) aD (.refl _)) (λO=>⟨y,z,A,aD,aD,g,.imm aD,c.ok (if_pos ⟨o.1 bg,?_⟩) (.refl _) B⟩)⟩)⟩
 .grind
 .grind
 .grind
end
def fv(f:Nat):CV:=.val (.func (.func f) #[] #[])
def Sk:Vc.Spec:=λc m h K=>∃op,c=[cI op]/\
 branch (op==1) (K (fv 225) m h) (branch (op==2) (K (fv 226) m h) (branch (op==3) (K (fv 227) m h) (branch (op==4) (K (fv 228) m h) (branch (op==5) (K (fv 229) m h) (branch (op==6) (K (fv 230) m h) (branch (op==7) (K (fv 230) m h) (branch (op==8) (K (fv 230) m h) (branch (op==9) (K (fv 231) m h) (branch (op==10) (K (fv 232) m h) (K (.val .nilFunc) m h))))))))))
noncomputable def bvZ(N:Nat)(sc:bW)(p:Sl)(v:QV)(m:MH):Ctx:=
 dD [(98,BJ N),(174,Sk),(225,Bc (· =1)),(226,Bc (· =2)),(227,Bc (· =3)),(228,Bc (· =4)),(229,Bc (· =5)),(230,Bc (λop=>op=6\/op=7\/op=8)),(231,Bc (· =9)),(232,Bc (· =10))] [(3,{A:=Nat×da×PH,st:=λ⟨i,c,h⟩=>bQ 62 65 [(1,sv p),(3,.at (.ptr 3 0)),(5,.at (.ptr 5 0)),(8,.at (.ptr 8 0)),(21,sv v.args),(22,iv v.args.len),(23,iv i)] [(3,.cells 43 (sc.enc.map .val)),(5,.cells 38 (v.enc.map .val)),(8,.cells 218 ((sc.enc++eS p++v.enc).map .val++[.lst 41])),(41,.lst 33 1 (c.map eS))] m h})] [] [] false
noncomputable abbrev oF(a:Nat):Value:=Value.func (Fn.func a) yQ yQ
attribute [push_cast] oF
def Lr(op:Int)(m:MH)(h:PH)(K:cr):Prop:=
  mH m h (λb e=>dQ m e b (aL Value.nilFunc Value.nilFunc (aL Value.nilFunc Value.nilFunc (aL Value.nilFunc Value.nilFunc (aL Value.nilFunc Value.nilFunc (aL Value.nilFunc Value.nilFunc (lD Value.nilFunc)))))) 273) (λb e=>j9 (λc E=>aA (E8 e b (kI c E 0)) (11<=c.size) (∀(d:MH),dQ e d b (aL Value.nilFunc (oF 225) (aL (oF 226) (oF 227) (aL (oF 228) (oF 229) (aL (oF 230) (oF 230) (aL (oF 230) (oF 231) (kW (oF 232) 11 c.toList)))))) E->aX op 0 (K (CV.val Value.nilFunc) d h) (gA op 11 (K (CV.val Value.nilFunc) d h) (aA (bV op) (op<11) (∃(y:Option Nat),aU d h b (fT 0 op 1) (lD (bcZ y))/\K (CV.val (bcZ y)) d h))))))
abbrev xM(a:Nat×da×PH)(b:bW)(c:Sl)(d:QV)(e:Sl->cn)(g:NV->CV)(i:Query->Prop)(j:(cq×Int)->Sl->PH->Prop):Prop:=bU (mJ a) 1 (qE a) (λx y=>∃(z:NV),D0 (λf A o B=>aA (H0 (fM (aL (yR b) (yP b) (aL (hJ c) (eN d.op) (aL (pF d) (rC d) (aL (eN (rD d)) (j4 (jR d)) (e x))))))=H0 (g z)) (A6 y f A o B z) (aA (mC f) (i o) (∀(t:cq×Int),fin t=Ba f A o B->jJ (λC u=>cZ y u (Ints u C t.1) (j t C u))))))
noncomputable abbrev xQ(a:QV)(b:cn):cn:=aL (qC (jR a)) (jY (jR a)) (aL (qP (jR a)) (mN (jR a)) (aL (j4 (fC a)) (qC (fC a)) (aL (eN (A8 (fC a))) (qP (fC a)) b)))
attribute [push_cast] xM xQ
def U0(N:Nat)(sc:bW)(p:Sl)(v:QV)(m:MH)(h:PH)(K:cr):Prop:=
  Nd (λI x=>aA (I x) (aI p) (aA cG dN (aA eX (aI v.args) (aA (wA v) (bB x.1) (aA (cM sc) (eY v) (aA (Nn sc (vD p) v (nL (At.lst 41))) (qG 33 1 (qE x)) (bP (m=m) h (mJ x)))))))) (λI e x=>I x->aX (↑x.1:Int) (aH v.args) (bI (λb o=>aA (bK v.args.a b o) (0<=(↑x.1:Int)) ((↑x.1:Int)<aH v.args/\∃(y:QV),aU m (mJ x) b (bN o x.1 21) y.enc/\I7 sc p y (mJ x) N (λs f q g c=>dC (aJ s f q).2 0 (K (CV.tup (gZ jQ (CV.val (eN (aJ s f q).2)))) m c) (mV (qE x) 24 (∃(d:Nat×da×PH),aA (I d) (e d<e x) (aA (aI p) cG (aA dN eX (aA (aI v.args) (wA v) (aA (bD (gG (bF x.1 1)) d.1) (cM sc) (aA (eY v) (Nn sc (vD p) v (nL (At.lst 41))) (bO (Option.some
 (Own.lst 33 1 (fK (qE x) (aY g)))=Option.some (Own.lst 33 1 (qE d))) (m=m) (c=mJ d))))))))))))) (∃(o:Int),kU v.op o/\cX (o==1) (xM x sc p v (λs=>xQ v (AY (fC v) v v.on s)) (λn=>kF n (iF n (iE n))) (λq=>q.op=1) (λr s c=>nX (r.2 !=0) (K (CV.tup (bC jQ r.2)) m c) (aH s) 12 (K (CV.tup (bC jQ 2)) m c) (mD K s m c))) (o==2) (xM x sc p v (λs=>xQ v (AY (fC v) v v.on s)) (λn=>kF n (iF n (iE n))) (λq=>q.op=2) (λr s c=>nX (r.2 !=0) (K (CV.tup (bC jQ r.2)) m c) (aH s) 12 (K (CV.tup (bC jQ 2)) m c) (mD K s m c))) (cX (o==3) (xM x sc p v (λs=>xQ v (AY (fC v) v v.on s)) (λn=>kF n (iF n (iE n))) (λq=>q.op=3) (λr s c=>nX (r.2 !=0) (K (CV.tup (bC
 jQ r.2)) m c) (aH s) 12 (K (CV.tup (bC jQ 2)) m c) (mD K s m c))) (o==4) (xM x sc p v (λs=>xQ v (AY (fC v) v v.on s)) (λn=>kF n (iF n (iE n))) (λq=>q.op=4) (λr s c=>nX (r.2 !=0) (K (CV.tup (bC jQ r.2)) m c) (aH s) 12 (K (CV.tup (bC jQ 2)) m c) (mD K s m c))) (cX (o==5) (xM x sc p v (λs=>xQ v (AY (fC v) v v.on s)) (λn=>kF n (iF n (iE n))) (λq=>q.op=5) (λr s c=>nX (r.2 !=0) (K (CV.tup (bC jQ r.2)) m c) (aH s) 12 (K (CV.tup (bC jQ 2)) m c) (mD K s m c))) (o==6) (xM x sc p v (λs=>xQ v (AY (fC v) v v.on s)) (λn=>kF n (iF n (iE n))) (λq=>q.op=6\/q.op=7\/q.op=8) (λr s c=>nX (r.2 !=0) (K (CV.tup (bC jQ r.2)) m c) (aH s) 12 (K (CV.tup (bC jQ 2)) m
 c) (mD K s m c))) (cX (o==7) (xM x sc p v (λs=>xQ v (AY (fC v) v v.on s)) (λn=>kF n (iF n (iE n))) (λq=>q.op=6\/q.op=7\/q.op=8) (λr s c=>nX (r.2 !=0) (K (CV.tup (bC jQ r.2)) m c) (aH s) 12 (K (CV.tup (bC jQ 2)) m c) (mD K s m c))) (o==8) (xM x sc p v (λs=>xQ v (AY (fC v) v v.on s)) (λn=>kF n (iF n (iE n))) (λq=>q.op=6\/q.op=7\/q.op=8) (λr s c=>nX (r.2 !=0) (K (CV.tup (bC jQ r.2)) m c) (aH s) 12 (K (CV.tup (bC jQ 2)) m c) (mD K s m c))) (cX (o==9) (xM x sc p v (λs=>xQ v (AY (fC v) v v.on s)) (λn=>kF n (iF n (iE n))) (λq=>q.op=9) (λr s c=>nX (r.2 !=0) (K (CV.tup (bC jQ r.2)) m c) (aH s) 12 (K (CV.tup (bC jQ 2)) m c) (mD K s m c))) (o==
 10) (xM x sc p v (λs=>xQ v (AY (fC v) v v.on s)) (λn=>kF n (iF n (iE n))) (λq=>q.op=10) (λr s c=>nX (r.2 !=0) (K (CV.tup (bC jQ r.2)) m c) (aH s) 12 (K (CV.tup (bC jQ 2)) m c) (mD K s m c))) (K (CV.tup (bC jQ 100)) m (mJ x))))))))
theorem X9:cm 174 Sk:=by
 refine Fm func174 ?_;rintro u m h K ⟨op,rfl,f⟩;refine⟨tR [] [] [] [] [273] [] false,rfl,aG,Lr op m h (kX h K),ax,?_⟩;show Lr op m h (kX h K);dsimp only[Lr,push_cast];intro b J t g;refine⟨_,_,⟨g.at_⟩,az,λx j=>?_⟩;have c:Sub m x:=((Sub.refl m).upd t.m_ g.other).upd t.m_ j.other;have e:=j.at_
 have d:∀k,¬(1<=op/\op<=10)->op=k->K (.val .nilFunc) m h:=λk L _=>by
  have:(op==1)=false/\(op==2)=false/\(op==3)=false/\(op==4)=false/\(op==5)=false/\(op==6)=false/\(op==7)=false/\(op==8)=false/\(op==9)=false/\(op==10)=false:=by
   grind
  obtain⟨y,z,A,B,C,D,E,F,G,o⟩:=this;rw[y,z,A,B,C,D,E,F,G,o]at f;exact f
 refine aF (λH=>.sub c (d _ aD rfl)) (λH=>aF (λI=>.sub c (d _ aD rfl)) (λI=>⟨aD,aD,?_⟩));have:op=0\/op=1\/op=2\/op=3\/op=4\/op=5\/op=6\/op=7\/op=8\/op=9\/op=10:=by omega
 rcases this with rfl|rfl|rfl|rfl|rfl|rfl|rfl|rfl|rfl|rfl|rfl
 .exact⟨none,.lent _ _ _ e rfl,.sub c (d 0 aD rfl)⟩
 .exact⟨some 225,.lent _ _ _ e rfl,.sub c f⟩
 .exact⟨some 226,.lent _ _ _ e rfl,.sub c f⟩
 .exact⟨some 227,.lent _ _ _ e rfl,.sub c f⟩
 .exact⟨some 228,.lent _ _ _ e rfl,.sub c f⟩
 .exact⟨some 229,.lent _ _ _ e rfl,.sub c f⟩
 .exact⟨some 230,.lent _ _ _ e rfl,.sub c f⟩
 .exact⟨some 230,.lent _ _ _ e rfl,.sub c f⟩
 .exact⟨some 230,.lent _ _ _ e rfl,.sub c f⟩
 .exact⟨some 231,.lent _ _ _ e rfl,.sub c f⟩
 .exact⟨some 232,.lent _ _ _ e rfl,.sub c f⟩
theorem XI:cm 225 (Bc (· =1)):=by
 refine iH func225 ?_;rintro d m h K ⟨n,s,ps,q,ks,rfl,e,f,c,g⟩;obtain⟨op,ta,w,co,on,gr,od,li,args⟩:=q;refine⟨dD [(265,C4),(139,yJ)] [] [] [] false,rfl,(aE wI (aE EZ aG)),Hc n m h K,ax,?_⟩;dsimp only[Hc,push_cast];cases (show op=1 from c);exact bGZ e f ⟨g⟩
theorem XH:cm 226 (Bc (· =2)):=by
 refine iH func226 ?_;rintro d m h K ⟨n,s,ps,q,ks,rfl,e,g,c,f⟩;obtain⟨op,ta,w,co,on,gr,od,li,args⟩:=q;refine⟨dD [(265,C4),(156,tV)] [] [] [] false,rfl,(aE wI (aE H8 aG)),Hb n m h K,ax,?_⟩;dsimp only[Hb,push_cast];cases (show op=2 from c);exact bGX e ⟨f⟩
theorem XG:cm 227 (Bc (· =3)):=by
 refine iH func227 ?_;rintro d m h K ⟨n,s,ps,q,ks,rfl,e,g,c,f⟩;obtain⟨op,ta,w,co,on,gr,od,li,args⟩:=q;refine⟨aXQ n m h,rfl,(aE wI aG),Ha n m h K,ax,?_⟩;dsimp only[Ha,push_cast];cases (show op=3 from c);exact bGQ e ⟨f⟩
theorem XF(c:cm 164 Kt):cm 228 (Bc (· =4)):=by
 refine iH func228 ?_;rintro e m h K ⟨n,s,ps,q,ks,rfl,f,j,d,g⟩;obtain⟨op,ta,w,co,on,gr,od,li,args⟩:=q;refine⟨dD [(266,Pz),(164,Kt)] [] [] [] false,rfl,(aE OW (aE c aG)),G9 n m h K,ax,?_⟩;dsimp only[G9,push_cast];cases (show op=4 from d);exact bFJ f ⟨g⟩
theorem XE:cm 229 (Bc (· =5)):=by
 refine iH func229 ?_;rintro d m h K ⟨n,s,ps,q,ks,rfl,e,g,c,f⟩;obtain⟨op,ta,w,co,on,gr,od,li,args⟩:=q;refine⟨dD [(266,Pz)] [] [] [] false,rfl,(aE OW aG),G8 n m h K,ax,?_⟩;dsimp only[G8,push_cast];cases (show op=5 from c);exact bFZ e ⟨f⟩
theorem XD:cm 230 (Bc (λop=>op=6\/op=7\/op=8)):=by
 refine iH func230 ?_;rintro d m h K ⟨n,s,ps,q,ks,rfl,e,g,c,f⟩;obtain⟨op,ta,w,co,on,gr,od,li,args⟩:=q;refine⟨dD [(265,C4),(162,Cd)] [] [] [] false,rfl,(aE wI (aE EY aG)),Lk n m h K,ax,?_⟩;exact bFX c e ⟨f⟩
theorem XC:cm 231 (Bc (· =9)):=by
 refine iH func231 ?_;rintro d m h K ⟨n,s,ps,q,ks,rfl,e,g,c,f⟩;obtain⟨op,ta,w,co,on,gr,od,li,args⟩:=q;refine⟨dD [(265,C4),(267,Pu),(268,Pv)] [] [] [] false,rfl,(aE wI (aE OU (aE OT aG))),G7 n m h K,ax,?_⟩;dsimp only[G7,push_cast];cases (show op=9 from c);exact bFQ e ⟨f⟩
theorem XB:cm 232 (Bc (· =10)):=by
 refine iH func232 ?_;rintro d m h K ⟨n,s,ps,q,ks,rfl,e,g,c,f⟩;obtain⟨op,ta,w,co,on,gr,od,li,args⟩:=q;refine⟨dD [(265,C4),(162,Cd),(267,Pu),(268,Pv)] [] [] [] false,rfl,(aE wI (aE EY (aE OU (aE OT aG)))),G6 n m h K,ax,?_⟩;dsimp only[G6,push_cast];cases (show op=10 from c);exact bEJ e ⟨f⟩
theorem ZO(F:cm 164 Kt):∀N,cm 98 (BJ N)
 |0=>by
  refine eD (fn:=Tryz.f98) (c:=cA Tryz.f98) func98 rfl az ?_;rintro S m h K ⟨sc,p,v,s,ps,q,rfl,_,_,_,_,hN,_⟩;omega
 |N+1=>by
  refine iH func98 ?_;rintro S m h K ⟨sc,p,v,s,ps,q,rfl,hs,C,hp,hq,hN,B⟩;refine⟨bvZ N sc p v m,rfl,(aE (ZO F N) (aE X9 (aE XI (aE XH (aE XG (aE (XF F) (aE XE (aE XD (aE XC (aE XB aG)))))))))),U0 N sc p v m h K,ax,?_⟩;dsimp only[U0,push_cast];have T:=@vF q;have U:=hq;obtain⟨op,ta,w,co,on,gr,od,li,args⟩:=q;have x:=hq.parts;have D:=x.op_;have hl:=x.args_.slen;have a':=x.args_.len;simp only[Query.args]at T;simp only[aJ]at B;refine⟨λ⟨i,G,L⟩=>i<=args.length/\PH.le h L/\∃ks,Slices L G ks/\(args.take i).map (aJ s ps)=ks.map (λk=>(k,0)),λ⟨i,_,_⟩=>args.length-i,⟨(0,[],h),⟨aD,.refl _,[],⟨rfl,λj s k V=>by simp at V⟩,ay⟩,MT⟩,?_⟩;rintro⟨i,G,L⟩ ⟨hi,y,ks,P,A⟩;have W:ks.length=i:=by have:=congrArg List.length A;grind
  have X:G.length=i:=by rw[P.1,W]
  dsimp only;refine aF (λH=>?_) (λa0=>?_)
  .obtain⟨Q,I⟩:=eU hl H;obtain⟨b1,o1,u,Y,r1,Z⟩:=(x.args_.mono y).at I;refine⟨b1,o1,Y,aD,H,u,.imm r1,sc,p,u,s,ps,Q,rfl,hs.mono y,C,hp.mono y,Z,?_,λg h' d E=>aC (λV=>?_) (λV=>?_)⟩
   .grind
   .have he:(aJ s ps Q).2≠0:=bg
    rw[FU he A I rfl]at B;exact B.err (y.trans d) (if_neg he)
   .have he:(aJ s ps Q).2=0:=bg
    refine⟨bf,bf,(i+1,G++[g],h'),⟨aD,y.trans d,ks++[(aJ s ps Q).1],(P.mono d).snoc E,?_⟩,aD,?_⟩
    .rw[iO I,A,bw]
     grind
    .rw[bw];exact MT
  .rw[bu aD]at A;rw[tP A]at B;simp only[if_true]at B;have B:KR K m h (Ba s ps (.mk op ta w co on gr od li args) ks):=B
   have o:∀(g:Sl)(h':PH),PH.le L h'->cC h' g 1 (G.map eS)->A6 h' s ps (.mk op ta w co on gr od li args) ks ⟨sc,p,v,g⟩:=λg h' d f=>by
    refine⟨(hs.mono y).mono d,(hp.mono y).mono d,(U.mono y).mono d,⟨⟨G,f,P.1.symm,λj k hk=>?_⟩,aD⟩,λk hk=>?_⟩
    .have hj:j<G.length:=bg
     exact⟨G[j],bo hj,(P.2 j _ _ (bo hj) hk).mono d⟩
    .obtain⟨j,hj⟩:=mem_iff_getElem?.1 hk;have:=KY A j
     grind
   have t:∀(h':PH),PH.le L h'->∀r,fin r=Ba s ps (.mk op ta w co on gr od li args) ks->∀(g:Sl)(z:PH),PH.le h' z->Ints z g r.1->
    branch (r.2 !=0) (K (.tup [.val (.slice none 0 0),.val (.int .i64 r.2)]) m z) (branch (decide ((g.len:Int)>12)) (K (.tup [.val (.slice none 0 0),.val (.int .i64 2)]) m z) (K (.tup [.val (.slice g.a g.len g.cap),.val (.int .i64 0)]) m z)):=by
    intro h' d r hr g z M E;have J:PH.le h z:=(y.trans d).trans M;rw[<-hr]at B;have X:=E.slen;refine aC (λR=>?_) (λR=>aF (λd2=>?_) (λd2=>?_))
    .have R:r.2≠0:=bg
     exact B.err J (by unfold fin;grind)
    .have R:r.2=0:=bg
     exact B.big (l:=r.1) J (by unfold fin;grind) aD
    .have R:r.2=0:=bg
     exact B.ok (l:=r.1) J (by unfold fin;grind) aD E.row
   refine⟨v.op,rfl,?_⟩;rw[D];refine aC (λc1 g h' d f=>⟨⟨sc,p,v,g⟩,s,ps,_,ks,by rw[<-D],o g h' d f,C,beq_iff_eq.1 c1,t h' d⟩) (λc1=>?_);refine aC (λc2 g h' d f=>⟨⟨sc,p,v,g⟩,s,ps,_,ks,by rw[<-D],o g h' d f,C,beq_iff_eq.1 c2,t h' d⟩) (λc2=>?_);refine aC (λc3 g h' d f=>⟨⟨sc,p,v,g⟩,s,ps,_,ks,by rw[<-D],o g h' d f,C,beq_iff_eq.1 c3,t h' d⟩) (λc3=>?_);refine aC (λc4 g h' d f=>⟨⟨sc,p,v,g⟩,s,ps,_,ks,by rw[<-D],o g h' d f,C,beq_iff_eq.1 c4,t h' d⟩) (λc4=>?_);refine aC (λc5 g h' d f=>⟨⟨sc,p,v,g⟩,s,ps,_,ks,by rw[<-D],o g h' d f,C,beq_iff_eq.1 c5,t h' d⟩) (λc5=>?_);refine aC (λc6 g h' d f=>⟨⟨sc,p,v,g⟩,s,ps,_,ks,by rw[<-D],o g h' d f,C,.inl (beq_iff_eq.1 c6),t h' d⟩) (λc6=>?_);refine aC (λc7 g h' d f=>⟨⟨sc,p,v,g⟩,s,ps,_,ks,by rw[<-D],o g h' d f,C,.inr (.inl (beq_iff_eq.1 c7)),t h' d⟩) (λc7=>?_);refine aC (λc8 g h' d f=>⟨⟨sc,p,v,g⟩,s,ps,_,ks,by rw[<-D],o g h' d f,C,.inr (.inr (beq_iff_eq.1 c8)),t h' d⟩) (λc8=>?_);refine aC (λc9 g h' d f=>⟨⟨sc,p,v,g⟩,s,ps,_,ks,by rw[<-D],o g h' d f,C,beq_iff_eq.1 c9,t h' d⟩) (λc9=>?_);refine aC (λO g h' d f=>⟨⟨sc,p,v,g⟩,s,ps,_,ks,by rw[<-D],o g h' d f,C,beq_iff_eq.1 O,t h' d⟩) (λO=>B.err y ?_);refine yD λe=>?_;have:arity op= -1:=by simp only[arity];grind
   have:=e.1;simp only[Query.op]at this;omega
def fS:PV:=⟨0,0,dG,dG,⟨none,0,0⟩⟩
theorem DQ(l:cu):i6 2 (l.map kY):=by
 constructor
 .intro e c;obtain⟨x,_,rfl⟩:=mem_map.1 c;rfl
 .intro e c u d;obtain⟨x,_,rfl⟩:=mem_map.1 c;simp[kY]at d;rcases d with rfl|rfl<;>rfl
theorem DP(l:cv):i6 2 (l.map sJ):=by
 constructor
 .intro e c;obtain⟨x,_,rfl⟩:=mem_map.1 c;rfl
 .intro e c u d;obtain⟨x,_,rfl⟩:=mem_map.1 c;simp[sJ]at d;rcases d with rfl|rfl<;>rfl
theorem NS{n c:Nat}{α:Type}{enc:α->cn}{l:List α}(r:cC h ⟨none,n,c⟩ sz (l.map enc)):l=[]:=by
 rcases r.row with e|⟨b,o,e,_⟩
 .simpa using e
 .cases e
end Go.Ps
