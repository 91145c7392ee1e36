/- Own work. -/
import Derived.Test.YtafjlhgalgfiaaaGreatDoorPb
set_option linter.unusedVariables false
set_option linter.unusedSimpArgs false
namespace Go.Ps
open Go Go.Vc Go.Proofs List Tryz
variable{K:da}{m:MH}{h:PH}{s:jC}{ps:db}{cb:Nat}{sc:cK}{v:QV}{p:Pred}{l:db}{i:Nat}{N:Nat}{m':MH}{h':PH}{co:db}{gr:db}{od:di}{ta:Int}{li:Int}{xs:List dc}{sz:Nat}{ks:List db}{rs:db}{r:Sl}{a:db}{b:Nat}
theorem Vd:Tryz.prog.underlying 9=some .string:=bh
theorem DC:KeyLaw Tryz.prog 9 (λv=>∃s,v= .string s):=by
 refine⟨⟨_,Vd⟩,?_,?_,?_⟩
 .rintro _ w b ⟨s,rfl⟩
  have e:∀n:Nat,(Instr.checkKey b (n+1) 9 (.string s)).run Tryz.prog w= .ok () w:=λn=>by
   unfold Instr.checkKey;simp only[Sem.run_bind,run_underlying Vd,Result.andThen];simp
  exact e 9999
 .rintro _ _ w ⟨s,rfl⟩ ⟨t,rfl⟩;refine⟨_,run_equalIn_string w 9999 9 s t Vd,?_⟩;rw[beq_iff_eq];exact⟨λe=>by rw[Dy e],λe=>bo⟩
 .rintro d _ _ r c ⟨s,rfl⟩ ⟨t,rfl⟩ h;rw[Vd]at c;cases c;simp only[Instr.sameNow,ck]at h;subst h;rw[beq_toListBytes,beq_iff_eq];exact⟨λe=>by rw[Dy e],λe=>bo⟩
def gG{α}(T:List α->α->Prop)(l:List α)(i:Nat):=∀j x,j<i->l[j]? =some x->T (l.take j) x
def Good{α}(T:List α->α->Prop)(l:List α):=∀(j:Nat) x,l[j]? =some x->T (l.take j) x
theorem gG.zero{α}{T:List α->α->Prop}{l}:gG T l 0:=λ_ _ h=>by omega
theorem gG.succ{α}{T:List α->α->Prop}{l x}(h:gG T l i)(d:l[i]? =some x)(t:T (l.take i) x):gG T l (i+1):=by
 intro j y f c;by_cases e:j=i
 .grind
 .exact h j y aD c
theorem gG.all{α}{T:List α->α->Prop}{l}(h:gG T l i)(d:l.length<=i):Good T l:=λj x c=>h j x bo c
theorem Good.not{α}{T:List α->α->Prop}{l x}(c:l[i]? =some x)(t:¬T (l.take i) x):¬Good T l:=λh=>t (h i x c)
def Zj(d:List rG)(c:rG):=rI c.name=true/\gI c.kind=true/\c.name∉d.map rG.name
def FI(c:List Bi)(t:Bi):=rI t.name=true/\1<=t.key/\t.key<=t.columns.length/\t.name∉c.map Bi.name/\Good Zj t.columns
def jR(s:jC)(t:Int):=if t<0 then[]else match s.tables[t.toNat]? with|none=>[]|some t=>t.columns.map rG.kind
def Be(s:jC)(t:Int):=decide (0<=t)&&decide (t<s.tables.length)
def aS(v:cK):CV:=.val (.agg ⟨v.enc⟩)
def nY(s:jC):=∀t∈s.tables,t.columns.length<=8
def cYQ:Vc.Spec:=λc m h K=>∃v s t,c=[aS v,cI t]/\iC h s v/\K (cB (Be s t)) m h
def yG:Vc.Spec:=λc m h K=>∃v s t,c=[aS v,cI t]/\iC h s v/\nY s/\∀d h',PH.le h h'->Ints h' d (jR s t)->K (cS d) m h'
noncomputable def VT m h:=
 cZ [] [(5,{A:=Nat×Sl×db,st:=λx=>bS 35 37 [(5,.at (.lst 32)),(22,sv x.2.1),(23,iv x.2.1.len),(24,iv x.1)] [(32,.lst 3 1 (x.2.2.map eI))] m h})] [] [] false
noncomputable def coZ m h:=
 cZ [(132,cYQ)] [(5,{A:=Nat×Sl×db,st:=λx=>bS 38 40 [(5,.at (.lst 19)),(25,sv x.2.1),(26,iv x.2.1.len),(27,iv x.1)] [(19,.lst 3 1 (x.2.2.map eI))] m h})] [] [] false
noncomputable abbrev kI(a:cK):=aG a.tables
attribute [push_cast] kI
def Uk(v:cK)(t:Int)(m:MH)(h:PH)(K:da):=
  gQ t 0 (K (yF (decide (t<kI v))) m h) (K bB m h)
noncomputable abbrev Ai(a:cK):=a.tables.a
noncomputable abbrev bH a:=lJ (gP a)
abbrev Pq(a:cK)(b c:Int)(d:MH)(e:PH)(g i:Nat->Nat)(j:Nat)(k:Sl->Sl)(l:Sl->(Nat×Sl×db->Prop)->(Nat×Sl×db)->Prop)(n:(Nat×Sl×db->Prop)->(Nat×Sl×db->Nat)->(Nat×Sl×db)->Prop):=bF (λx o=>aH (aM (Ai a) x o) (b<=c) (c<aG a.tables) (∃(t:Sl),aL d e (g x) (fF (i o) c 5+j) (bH (k t))/\∃(u:Nat×Sl×db->Prop)(y:Nat×Sl×db->Nat),(∃(f:Nat×Sl×db),l t u f)/\∀(f:Nat×Sl×db),n u y f))
abbrev aY a b:=sQs a=sQs b
noncomputable abbrev p9(a:Nat×Sl×db):=a.2.1
abbrev bZ(a b:Sl):=bP a.len=bP b.len
noncomputable abbrev bW a b c:=Option.some (Own.lst a b c)
abbrev oH a b c:=bW a b []=c
abbrev tN a:=oH 3 1 (bW 3 1 (List.map eI a))
noncomputable abbrev tY(a:Nat×Sl×db):=a.2.2
abbrev iK a:=a<=140737488355328
noncomputable abbrev mO(a:List dc)(b:Nat):=a.length+b
noncomputable abbrev fS a:=List.map eI a
abbrev Lw a:=iK (mO (fS a) 1*8)
abbrev mR(a:List dc):=a.length<140737488355328
abbrev Pp(a:Prop)(b:Nat×Sl×db)(c:Int)(d:Nat->Nat->rG->Prop)(e:rG->(Nat×Sl×db)->Prop)(g:Prop):=a->aZ (↑b.1:Int) (aG (p9 b)) (bF (λx f=>aH (aM (p9 b).a x f) (c<=(↑b.1:Int)) ((↑b.1:Int)<aG (p9 b)) (∃(j:rG),aH (d x f j) (Lw (tY b)) (mR (fS (tY b))) (∃(n:Nat×Sl×db),e j n)))) g
noncomputable abbrev tI a b:=lE (Value.string a) (eH b)
abbrev qR a b:=bW 3 1 a=bW 3 1 (List.map eI b)
noncomputable abbrev lI(a:dc):=[a]
noncomputable abbrev iT a b:=a++lI b
abbrev uZ a b c:=qR (iT (fS a) (bM b)) c
abbrev fB(a:Sl->PH->Prop):=∀(x:Sl)(c:PH),a x c
abbrev bY a b c d:=PH.le a b->c->d
abbrev bN(a:Nat->Nat->Option Value)(b:Nat)(c:List dc)(d:Sl->PH->Prop):=fB (λx e=>bY a e (cO e x b c) (d x e))
abbrev Gj(a:Nat->Nat->Option Value)(b:db)(c:da)(d:MH):=bN a 1 (fS b) (λx e=>c (cM x) d e)
attribute [push_cast] Ai bH Pq aY p9 bZ bW oH tN tY iK mO fS Lw mR Pp tI qR lI iT uZ fB bY bN Gj
def XY v t m h K:=
  aZ t 0 (K Dn m h) (gQ t (kI v) (K Dn m h) (Pq v 0 t m h (λb=>b) (λo=>o) 1 (λy=>y) (λy I x=>aA (I x) (eL 32) (aA (aY y (p9 x)) (bZ y (p9 x)) (aA (bA x.1) (tN (tY x)) (aA (m=m) (h=h) True)))) (λI d x=>Pp (I x) x 0 (λb o y=>aL m h b (bK o x.1 2) (tI y.name y.kind)) (λy c=>aA (I c) (d c<d x) (aA (eL 32) (aY (p9 x) (p9 c)) (aA (bZ (p9 x) (p9 c)) (fU (bC x.1 1)=bP c.1) (aA (uZ (tY x) y.kind (tY c)) (m=m) (bQ h h))))) (Gj h (tY x) K m))))
abbrev uS(a:cK->jC->Prop):=∃(x:cK)(c:jC),a x c
noncomputable abbrev pS(a:cK):=eH a.version
noncomputable abbrev pR(a:cK):=gP a.tables
noncomputable abbrev cL a:=qK (lE (pS a) (pR a))
abbrev QP(a:Int):=a<=281474976710656
abbrev tQ a b:=QP (aG a*b)
abbrev tR a:=QP (aG a)
attribute [push_cast] uS pS pR cL QP tQ tR
def XN v t m h K:=
  uS (λg s=>∃(j:Int),aA (cA (cL v) t=cA (cL g) j) (iC h s g) (branch (!(Be s j)) (K Dn m h) (bF (λb o=>aH (aM (Ai v) b o) (0<=t) (t<aG v.tables) (∃(y:Sl),aA (aL m h b (fF o t 5+1) (bH y)) (cF 0) (aA (cF (aG y)) (tQ y 8) (tR y/\Pq v 0 t m h (λe=>e) (λf=>f) 1 (λc=>c) (λc I x=>aA (I x) (eL 19) (aA (aY c (p9 x)) (bZ c (p9 x)) (aA (bA x.1) (tN (tY x)) (aA (m=m) (h=h) True)))) (λI n x=>Pp (I x) x 0 (λe f c=>aL m h e (bK f x.1 2) (tI c.name c.kind)) (λc d=>aA (I d) (n d<n x) (aA (eL 19) (aY (p9 x) (p9 d)) (aA (bZ (p9 x) (p9 d)) (fU (bC x.1 1)=bP d.1) (aA (uZ (tY x) c.kind (tY d)) (m=m) (bQ h h))))) (Gj h
 (tY x) K m)))))))))
theorem bU.part{o l}(r:bU h b o l) k n:bU h b (o+k) ((l.drop k).take n):=
 ⟨λi v e=>by
  have:l[k+i]? =some v:=by
   grind
  have:=r.rd (k+i) v this
  grind⟩
theorem Hv.at{s l}(r:Hv h s l){x}(c:l[i]? =some x):∃b o,s.a=some ⟨b,o,none⟩/\bU h b (o+i*2) (rG.enc x):=by
 obtain⟨b,o,v,e,k,rfl⟩:=bI.at r c
 grind
theorem HU{t:Int}(h:¬(0<=t/\t<s.tables.length)):jR s t=[]:=by
 unfold jR
 grind
theorem OA{t x}(h:0<=t)(c:s.tables[t.toNat]? =some x):jR s t=x.columns.map rG.kind:=by
 unfold jR
 grind
theorem iC.table{v}(c:iC h s v){t}(f:0<=t)(g:t<(v.tables.len:Int)):∃x b o w,s.tables[t.toNat]? =some x/\v.tables.a=some ⟨b,o,none⟩/\bU h b (o+t.toNat*5) (dE.enc w)/\R6 h x w:=by
 have j:=c.tables.slen;have d:s.tables[t.toNat]? =some (s.tables[t.toNat]'(by omega)):=cd _;obtain⟨b,o,w,e,r,k⟩:=c.tables.at d
 grind
theorem jK{α β}{f:α->β}{l:List α}{x}(c:l[i]? =some x):(l.take (i+1)).map f=(l.take i).map f++[f x]:=by
 rw[cq,c];simp
theorem RD:cz 132 cYQ:=by
 refine gW func132 ?_;rintro e m h K ⟨v,s,t,rfl,f,d⟩;refine⟨cZ [] [] [] [] false,rfl,aI,Uk v t m h K,bh,?_⟩;dsimp only[Uk,push_cast];have g:=f.tables.slen;refine aF (λc=>kD d ?_) (λc=>kD d ?_)
 .have c:0<=t:=c;simp only[Be,g,decide_eq_true c,Bool.true_and]
 .have c:¬0<=t:=by omega
  simp only[Be,decide_eq_false c,Bool.false_and]
theorem Jp:cz 45 yG:=by
 refine gW func45 ?_;rintro D m h K ⟨v,s,t,rfl,A,E,n⟩;refine⟨VT m h,rfl,aI,XY v t m h K,bh,?_⟩;dsimp only[XY,push_cast];have M:=A.tables.slen;have d:jR s t=[]->K (.val (.slice none 0 0)) m h:=λe=>n ⟨none,0,0⟩ h (.refl _) (by rw[e];exact⟨.nil _ _,bi⟩);refine aF (λF=>d (HU aD)) (λF=>aF (λG=>d (HU aD)) (λG=>?_));obtain⟨x,b,o,w,B,H,I,f⟩:=A.table (t:=t) aD aD;have J:=E x (ce B);have u:=bI.slen f.columns;rw[OA aD B]at n;refine⟨b,o,H,aD,aD,w.columns,.imm (bU.part I 1 1),λ⟨i,y,l⟩=>y=w.columns/\i<=x.columns.length/\l=(x.columns.take i).map rG.kind,λ⟨i,_,_⟩=>x.columns.length-i,⟨(0,w.columns,[]),⟨rfl,bi,bi⟩,MT⟩,?_⟩;rintro⟨i,_,_⟩ ⟨rfl,O,rfl⟩;dsimp only;refine aF (λj=>?_) (λL y h' z g=>?_)
 .obtain⟨c,C⟩:=dW u j;obtain⟨b,o,e,r⟩:=Hv.at f.columns C;refine⟨b,o,e,aD,j,c,.imm r,?_,?_,(i+1,w.columns,(x.columns.take (i+1)).map rG.kind),⟨rfl,aD,rfl⟩,aD,?_⟩
  .simp;omega
  .simp;omega
  .rw[jK C,cj];exact MT
 .rw[ci aD]at g;exact n y h' z ⟨g,bn⟩
theorem Jo:cz 69 yG:=by
 refine gW func69 ?_;rintro G m h K ⟨v,s,t,rfl,n,H,u⟩;refine⟨coZ m h,rfl,aE RD aI,XN v t m h K,bh,?_⟩;dsimp only[XN,push_cast];have L:=n.tables.slen;have g:jR s t=[]->K (.val (.slice none 0 0)) m h:=λe=>u ⟨none,0,0⟩ h (.refl _) (by rw[e];exact⟨.nil _ _,bi⟩);refine⟨v,s,t,rfl,n,aC (λy=>g (HU ?_)) (λy=>?_)⟩
 .simp only[Be,Bool.not_eq_true',Bool.and_eq_false_iff,decide_eq_false_iff_not]at y;omega
 simp only[Be,Bool.not_eq_false',cm,cr]at y;obtain⟨x,b,o,w,C,D,E,d⟩:=n.table (t:=t) aD aD;have I:=H x (ce C);have z:=bI.slen d.columns;rw[OA aD C]at u;refine⟨b,o,D,aD,aD,w.columns,.imm (bU.part E 1 1),aD,aD,aD,aD,b,o,D,aD,aD,w.columns,.imm (bU.part E 1 1),λ⟨i,A,l⟩=>A=w.columns/\i<=x.columns.length/\l=(x.columns.take i).map rG.kind,λ⟨i,_,_⟩=>x.columns.length-i,⟨(0,w.columns,[]),⟨rfl,bi,bi⟩,MT⟩,?_⟩;rintro⟨i,_,_⟩ ⟨rfl,M,rfl⟩;dsimp only;refine aF (λj=>?_) (λJ A h' B f=>?_)
 .obtain⟨c,F⟩:=dW z j;obtain⟨b,o,e,r⟩:=Hv.at d.columns F;refine⟨b,o,e,aD,j,c,.imm r,?_,?_,(i+1,w.columns,(x.columns.take (i+1)).map rG.kind),⟨rfl,aD,rfl⟩,aD,?_⟩
  .simp;omega
  .simp;omega
  .rw[jK F,cj];exact MT
 .rw[ci aD]at f;exact u A h' B ⟨f,bn⟩
def Sub(m m':MH):=∀b o,m b=some o->m' b=some o
theorem Sub.refl m:Sub m m:=λ_ _ e=>e
theorem Sub.free(h:Sub m m')(c:m' b=none):m b=none:=by
 cases e:m b with
 |none=>rfl
 |some o=>rw[h b o e]at c;cases c
theorem Sub.upd{f}(h:Sub m f)(j:m b=none)(g:∀c,c≠b->m' c=f c):Sub m m':=λc o e=>by
 have d:c≠b:=λn=>bo
 rw[g c d,h c o e]
def N0(m:MH)(b:Nat)(c:List ByteArray):=zW m b (c.map λn=>(.string n,.bool true))
theorem N0.other{d e}(h:N0 m b e)(f:b≠d)(o:∀c,c≠d->m' c=m c):N0 m' b e:=by
 obtain⟨g,j,t,n⟩:=h.ex;exact⟨g,j,bo,n⟩
def b6X:Vc.Spec:=λc m h K=>∃v s,c=[aS v]/\iC h s v/\∀r:Bool,(r=true↔Good FI s.tables)->K (cB r) m h
def b0Z:Vc.Spec:=λc m h K=>∃v s t,∃i:Nat,c=[aS v,cI i]/\iC h s v/\s.tables[i]? =some t/\∀r:Bool,(r=true↔FI (s.tables.take i) t)->K (cB r) m h
noncomputable def bQQ(v:cK)(h:PH):=
 cZ [(183,aSZ)] [(3,{A:=Nat×Nat×MH,st:=λ⟨i,c,d⟩=>bS 79 80 [(3,vv (.map (some c))),(11,sv v.tables),(12,iv v.tables.len),(13,iv i)] [] d h}),
  (10,{A:=Nat×Nat×Nat×Nat×Sl×MH,st:=λ⟨i,k,c,f,e,d⟩=>bS 79 80 [(3,vv (.map (some c))),(6,vv (.map (some f))),(11,sv v.tables),(12,iv v.tables.len),(13,iv i),(45,sv e),(46,iv e.len),(47,iv k)] [] d h})] [] [] false
noncomputable def bSJ(v:cK)(i:Nat)(m:MH)(h:PH):=
 cZ [(173,aSZ),(123,b7X)] [(5,{A:=Nat×dE,st:=λ⟨k,w⟩=>bS 94 96 [(1,iv i),(2,.at (.ptr 2 0)),(5,.at (.ptr 5 0)),(6,iv k)] [(2,.cells 27 (v.enc.map .val)),(5,.cells 73 (w.enc.map .val))] m h}),
  (10,{A:=Nat×dE,st:=λ⟨k,w⟩=>bS 94 96 [(5,.at (.ptr 5 0)),(53,iv w.columns.len),(54,iv k)] [(5,.cells 73 (w.enc.map .val))] m h}),
  (15,{A:=Nat×Nat×dE,st:=λ⟨k,j,w⟩=>bS 94 96 [(5,.at (.ptr 5 0)),(7,iv k),(8,iv j),(53,iv w.columns.len),(54,iv k)] [(5,.cells 73 (w.enc.map .val))] m h})] [] [] false
abbrev Eg(a:MH)(b:PH)(c:Nat->MH->Prop):=lG a b (λx d=>pO a d x (Obj.map (Array.mk []) 0)) (λx d=>c x d)
abbrev kP a b:=SV.at (At.val (Value.map (Option.some a)))=SV.at (At.val (Value.map (Option.some b)))
abbrev uO(a:cK):=aJ a.tables
abbrev j8(a:cK):=bG a.tables
abbrev IC(a:Prop)(b:Nat)(c:cK)(d:Nat->Nat->dE->Prop)(e:Prop):=a->aZ (↑b:Int) (aG c.tables) (bF (λx f=>aH (aM (Ai c) x f) (0<=(↑b:Int)) ((↑b:Int)<aG c.tables) (∃(g:dE),d x f g))) e
noncomputable abbrev BA(a:dE):=aU (Value.string a.name) (gP a.columns) (aU (eH a.key) (gP a.references) (bH a.checks))
noncomputable abbrev lL a:=CV.val (Value.string a)
abbrev mZ(a:da)(b:Nat×Nat×MH)(c:PH):=a bB (iU b) c
abbrev GR a:=KeyLaw Proofs.Tryz.prog 9 a
abbrev Ll(a:MH)(b:Nat)(c:(Value->Prop)->Prop)(d:(Value×Bool)->Prop)(e:Prop)(g:(List (Value×Bool))->Bool->Prop):=∃(x:List (Value×Bool))(j:Value->Prop),aA (zW a b (List.map (fun(f:Value×Bool)=>(f.1,Value.bool f.2)) x)) (GR j) (aA (c j) (∀(f:Value×Bool),List.Mem f x->j f.1) (((∀(f:Value×Bool),List.Mem f x->d f->False)->e)/\∀(f:Bool),g x f))
noncomputable abbrev BO(a:dE):=Value.string a.name
noncomputable abbrev BS(a:dE):=aG a.columns
abbrev ZL(a:dk->(Value->Prop)->Prop):=∃(x:dk)(c:Value->Prop),a x c
abbrev LO(a:Nat->Option Obj)(b:Nat)(c:(Value->Prop)->Prop)(d:dk->dk)(e:(Value×Value)->Value×Value)(g:Value)(i:dk->Prop):=ZL (λx j=>aA (zW a b x) (GR j) (aA (c j) (∀(f:Value×Value),List.Mem f x->j f.1) ((∀(f:Value×Value),List.Mem f (d x)->(e f).1=g->False)/\i x)))
noncomputable abbrev E0(a b:Value):=[(a,b)]
noncomputable abbrev Ck:=Value.bool true
noncomputable abbrev E4(a:Nat×Nat×Nat×Nat×Sl×MH):=a.2.2.2.1
abbrev bV a b:=bP a=bP b
noncomputable abbrev zD(a:Nat×Nat×Nat×Nat×Sl×MH):=a.2.2.2.2.1
noncomputable abbrev xM(a:Nat×Nat×Nat×Nat×Sl×MH):=a.2.2.2.2.2
noncomputable abbrev EX(a:rG):=Value.string a.name
abbrev K4(a:Nat×Nat×Nat×Nat×Sl×MH)(b:rG)(c:MH->Prop):=LO (xM a) (E4 a) (λx=>x (EX b)) (λx=>x) (λx=>x) (EX b) (λx=>∀(d:MH),tG (xM a) d (E4 a)->zW d (E4 a) (x++E0 (EX b) Ck)->c d)
abbrev wJ(a:rG)(b:Int)(c:Prop)(d:Nat×Nat×Nat×Nat×Sl×MH->Prop)(e:Nat×Nat×Nat×Nat×Sl×MH->Nat)(g:Nat×Nat×Nat×Nat×Sl×MH)(i:cK)(j:(Nat×Nat×Nat×Nat×Sl×MH)->Prop):=branch (a.kind !=b) c (∃(x:Nat×Nat×Nat×Nat×Sl×MH),aA (d x) (e x<e g) (aA (kP g.2.2.1 x.2.2.1) (kP (E4 g) (E4 x)) (aA (aJ i.tables) (j8 i) (aA (bV g.1 x.1) (aY (zD g) (zD x)) (j x)))))
abbrev wM a b c d:=j4 (bZ (zD a) (zD b)) (fU (bC a.2.1 1)=bP b.2.1) (c=xM b) d d
attribute [push_cast] Eg kP uO j8 IC BA lL mZ GR Ll BO BS ZL LO E0 Ck E4 bV zD xM EX K4 wJ wM
def NG v m h K:=
  Eg m h (λb G=>∃(I:Nat×Nat×MH->Prop)(C:Nat×Nat×MH->Nat),PL (λx=>aA (I x) (kP b (jP x)) (aA (uO v) (j8 v) (aH (bA x.1) (G=iU x) (h=h) True))) (λx=>IC (I x) x.1 v (λH o y=>aL (iU x) h H (bK o x.1 5) (BA y)/\∃(s:ByteArray),fT (pN (lL y.name)=pN (lL s)) (!(rI s)) (mZ K x h) (Ll (iU x) (jP x) (λO=>O (BO y)) (λe=>e.1=BO y) (aZ y.key 1 (mZ K x h) (fX y.key (BS y) (mZ K x h) (LO (iU x) (jP x) (λO=>O (BO y)) (λk=>k) (λe=>e) (BO y) (λk=>∀(t:MH),tG (iU x) t (jP x)->zW t (jP x) (k++E0 (BO y) Ck)->Eg t h (λD E=>∃(I1:Nat×Nat×Nat×Nat×Sl×MH->Prop)(n:Nat×Nat×Nat×Nat×Sl×MH->Nat),(∃(c
 :Nat×Nat×Nat×Nat×Sl×MH),aA (I1 c) (kP (jP x) c.2.2.1) (aA (kP D (E4 c)) (uO v) (aA (j8 v) (bV x.1 c.1) (aA (aY y.columns (zD c)) (bZ y.columns (zD c)) (aH (bA c.2.1) (E=xM c) (h=h) True)))))/\∀(c:Nat×Nat×Nat×Nat×Sl×MH),I1 c->aZ (↑c.2.1:Int) (aG (zD c)) (bF (λu z=>aH (aM (zD c).a u z) (0<=(↑c.2.1:Int)) ((↑c.2.1:Int)<aG (zD c)) (∃(g:rG),aL (xM c) h u (bK z c.2.1 2) (tI g.name g.kind)/\∃(A:ByteArray),fT (pN (lL g.name)=pN (lL A)) (!(rI A)) (K bB (xM c) h) (Ll (xM c) (E4 c) (λO=>O (EX g)) (λe=>e.1=EX g) (K4 c g (λf=>wJ g 3 (wJ g 4 (wJ g 5 (K bB f h) I1 n c v (λd=>wM c d f h)) I1 n
 c v (λd=>wM c d f h)) I1 n c v (λd=>wM c d f h))) (λB j=>iB (List.Mem (EX g,j) B) j (K bB (xM c) h) (K4 c g (λf=>wJ g 3 (wJ g 4 (wJ g 5 (K bB f h) I1 n c v (λd=>wM c d f h)) I1 n c v (λd=>wM c d f h)) I1 n c v (λd=>wM c d f h)))))))) (∃(d:Nat×Nat×MH),aA (I d) (C d<C x) (aA (kP c.2.2.1 (jP d)) (uO v) (aA (j8 v) (fU (bC c.1 1)=bP d.1) (aA (xM c=iU d) (h=h) True))))))))) (λk g=>iB (List.Mem (BO y,g) k) g (mZ K x h) (aZ y.key 1 (mZ K x h) (fX y.key (BS y) (mZ K x h) (LO (iU x) (jP x) (λO=>O (BO y)) (λB=>B) (λe=>e) (BO y) (λB=>∀(t:MH),tG (iU x) t (jP x)->zW t (jP x) (B++
 E0 (BO y) Ck)->Eg t h (λD E=>∃(I1:Nat×Nat×Nat×Nat×Sl×MH->Prop)(n:Nat×Nat×Nat×Nat×Sl×MH->Nat),(∃(c:Nat×Nat×Nat×Nat×Sl×MH),aA (I1 c) (kP (jP x) c.2.2.1) (aA (kP D (E4 c)) (uO v) (aA (j8 v) (bV x.1 c.1) (aA (aY y.columns (zD c)) (bZ y.columns (zD c)) (aH (bA c.2.1) (E=xM c) (h=h) True)))))/\∀(c:Nat×Nat×Nat×Nat×Sl×MH),I1 c->aZ (↑c.2.1:Int) (aG (zD c)) (bF (λu z=>aH (aM (zD c).a u z) (0<=(↑c.2.1:Int)) ((↑c.2.1:Int)<aG (zD c)) (∃(j:rG),aL (xM c) h u (bK z c.2.1 2) (tI j.name j.kind)/\∃(A:ByteArray),fT (pN (lL j.name)=pN (lL A)) (!(rI A)) (K bB (xM c) h) (Ll (xM c) (E4 c) (λO=>O (EX j))
 (λe=>e.1=EX j) (K4 c j (λf=>wJ j 3 (wJ j 4 (wJ j 5 (K bB f h) I1 n c v (λd=>wM c d f h)) I1 n c v (λd=>wM c d f h)) I1 n c v (λd=>wM c d f h))) (λJ F=>iB (List.Mem (EX j,F) J) F (K bB (xM c) h) (K4 c j (λf=>wJ j 3 (wJ j 4 (wJ j 5 (K bB f h) I1 n c v (λd=>wM c d f h)) I1 n c v (λd=>wM c d f h)) I1 n c v (λd=>wM c d f h)))))))) (∃(d:Nat×Nat×MH),aA (I d) (C d<C x) (aA (kP c.2.2.1 (jP d)) (uO v) (aA (j8 v) (fU (bC c.1 1)=bP d.1) (aA (xM c=iU d) (h=h) True)))))))))))) (K fM (iU x) h)))
abbrev Pm(a:(Nat×dE->Prop)->(Nat×dE)->Prop)(b:(Nat×dE->Prop)->(Nat×dE->Nat)->(Nat×dE)->Prop):=∃(x:Nat×dE->Prop)(d:Nat×dE->Nat),(∃(c:Nat×dE),a x c)/\∀(c:Nat×dE),b x d c
noncomputable abbrev M4(a:cK):=j9 (mD a.version) (nX a.tables)
abbrev cT a:=eQ (oQ 27 (M4 a))
noncomputable abbrev nR(a:At):=[a]
noncomputable abbrev iS(a:dE):=fC (SF a.name) (nX a.columns) (fC (mD a.key) (nX a.references) (nR (nX a.checks)))
abbrev Gq(a:dE)(b:Nat×dE):=oQ 73 (iS a)=oQ 73 (iS b.2)
abbrev PK(a:Option Addr)(b:Int)(c:Nat)(d:Sl)(e:Nat->Nat->ByteArray->Prop):=bF (λx f=>aH (aM a x f) (b<=(↑c:Int)) ((↑c:Int)<aG d) (∃(g:ByteArray),e x f g))
noncomputable abbrev vC(a:Nat×Nat×dE):=a.2.1
noncomputable abbrev nO(a:Nat×Nat×dE):=a.2.2
attribute [push_cast] Pm M4 cT nR iS Gq PK vC nO
def Uu(v:cK)(i:Nat)(m:MH)(h:PH)(K:da):=
  bF (λb o=>aH (aM (Ai v) b o) (0<=(↑i:Int)) ((↑i:Int)<aG v.tables) (∃(y:dE),aL m h b (bK o i 5) (BA y)/\∃(s:ByteArray),pN (lL y.name)=pN (lL s)/\cW (!(rI s)) (K bB m h) (BS y==0) (K bB m h) (aZ y.key 1 (K bB m h) (fX y.key (BS y) (K bB m h) (Pm (λI x=>aA (I x) (eQ (bP i)) (aA eD dU (aA (bA x.1) (cT v) (aA (Gq y x) (m=m) (bQ h h))))) (λI n x=>I x->aZ (↑x.1:Int) (↑i:Int) (PK (Ai v) 0 x.1 v.tables (λg j f=>aL m h g (bK j x.1 5+0) (lJ (Value.string f))/\branch (f.toList==x.2.name.toList) (K bB m h) (∃(c:Nat×dE),aA (I c) (n c<n x) (aA (eQ (bP i)) eD (aA dU (fU (bC x.1 1)=bP c.1) (aA (cT v) (Gq x.2 c) (bO (m=m) h h))))))) (Pm (λI1
 c=>aA (I1 c) dU (aA (bZ x.2.columns c.2.columns) (bA c.1) (aH (Gq x.2 c) (m=m) (h=h) True))) (λI1 t c=>I1 c->aZ (↑c.1:Int) (aG c.2.columns) (bF (λg j=>aH (aM c.2.columns.a g j) (0<=(↑c.1:Int)) ((↑c.1:Int)<aG c.2.columns) (∃(f:ByteArray),aL m h g (bK j c.1 2+0) (lJ (Value.string f))/\∃(u:ByteArray),fT (pN (lL f)=pN (lL u)) (!(rI u)) (K bB m h) (bF (λz A=>aH (aM c.2.columns.a z A) (0<=(↑c.1:Int)) ((↑c.1:Int)<aG c.2.columns) (∃(B:Int),aL m h z (bK A c.1 2+1) (bM B)/\∃(k:Int),fT (kQ B=kQ k) (!(gI k)) (K bB m h) (∃(I2:Nat×Nat×dE->Prop)(C:Nat×Nat×dE->Nat),(∃(d:Nat×Nat×dE),aA (I2 d) dU (aA (bV c.1 d.1) (bA (vC d)) (aA
 (bZ c.2.columns (nO d).columns) (bV c.1 d.1) (aA (oQ 73 (iS c.2)=oQ 73 (iS (nO d))) (m=m) (bQ h h)))))/\∀(d:Nat×Nat×dE),I2 d->aZ (↑(vC d):Int) (↑d.1:Int) (PK (nO d).columns.a 0 (vC d) (nO d).columns (λF G D=>aL m h F (bK G (vC d) 2+0) (lJ (Value.string D))/\PK (nO d).columns.a 0 d.1 (nO d).columns (λH J E=>aL m h H (bK J d.1 2+0) (lJ (Value.string E))/\branch (D.toList==E.toList) (K bB m h) (∃(e:Nat×Nat×dE),aA (I2 e) (C e<C d) (aA dU (bV d.1 e.1) (aA (fU (bC (vC d) 1)=bP (vC e)) (bZ (nO d).columns (nO e).columns) (aA (bV d.1 e.1) (oQ 73 (iS (nO d))=oQ 73 (iS (nO e))) (bO (m=m) h h)))))))) (∃(e:Nat×dE),aA (I1 e) (t
 e<t c) (aA dU (bZ (nO d).columns e.2.columns) (aA (fU (bC d.1 1)=bP e.1) (Gq (nO d) e) (aA (m=m) (h=h) True))))))))))) (K fM m h)))))))))
theorem N0.snoc{c n}(h:zW m b ((c.map λn=>(Value.string n,Value.bool true))++[(.string n,.bool true)])):N0 m b (c++[n]):=by
 unfold N0;grind
theorem N0.look{c}(h:N0 m b c):zW m b (List.map (λp:Value×Bool=>(p.fst,Value.bool p.snd)) (c.map λn=>(Value.string n,true))):=by
 rw[map_map];exact h
theorem KX{β}{c:List ByteArray}{x}:∀e:Value×β,e∈(c.map λn=>(Value.string n,x))->∃s,e.fst= .string s:=λe d=>by
 grind
theorem Xf{β}{c:List ByteArray}{x n}(h:n∉c):∀e:Value×β,e∈(c.map λn=>(Value.string n,x))->e.fst= .string n->False:=λe d h'=>by
 grind
theorem IB{β}{c:List ByteArray}{x n}(h:∀e:Value×β,e∈(c.map λn=>(Value.string n,x))->e.fst= .string n->False):n∉c:=λd=>h (.string n,x) (mem_map.2 ⟨n,d,rfl⟩) rfl
theorem Xg{β}{c:List ByteArray}{x:β}{y n}(h:(Value.string n,y)∈(c.map λn=>(Value.string n,x))):n∈c/\y=x:=by
 grind
theorem apJ:cz 136 b6X:=by
 refine Hr func136 ?_;rintro a9 m h K ⟨v,s,rfl,hs,hK⟩;refine⟨bQQ v h,rfl,aE ahJ aI,NG v m h (mK h K),bh,?_⟩;show NG v m h (mK h K);dsimp only[NG,push_cast];have hl:=hs.tables.slen;have a7:=hs.tables.len;have hf:¬Good FI s.tables->K (cB false) m h:=λh=>hK false ⟨λe=>(by cases e),λe=>(h e).elim⟩;intro b m1 hb R;refine⟨λ⟨i,B,mx⟩=>i<=s.tables.length/\Sub m mx/\m B=none/\N0 mx B ((s.tables.take i).map Bi.name)/\gG FI s.tables i,λ⟨i,_,_⟩=>s.tables.length-i,⟨(0,b,m1),⟨aD,(Sub.refl m).upd hb.m_ R.other,hb.m_,⟨_,_,R.at_,rfl⟩,.zero⟩,MT⟩,?_⟩;rintro⟨i,B,mx⟩ ⟨hi,n,S,D,u⟩;dsimp only;refine aF (λT=>?_) (λb'=>.sub n (hK true ⟨λ_=>u.all aD,λ_=>rfl⟩));obtain⟨t,U⟩:=dW hl T;obtain⟨bb,o,w,ea,hr,f⟩:=hs.tables.at U;have a2:=bI.slen f.columns;have b0:=bI.len f.columns;have V:=f.name;have b3:=f.key;have bad:¬FI (s.tables.take i) t->mK h K (.val (.bool false)) mx h:=λhn=>.sub n (hf (Good.not U hn));have W:t.name∉(s.tables.take i).map Bi.name->rI w.name=true->1<=w.key->w.key<=w.columns.len->Good Zj t.columns->FI (s.tables.take i) t:=λh1 h2 h3 h4 h5=>⟨bo,aD,aD,h1,h5⟩
 refine⟨bb,o,ea,aD,T,w,.imm hr,w.name,rfl,aC (λh1=>bad λg=>?_) (λh1=>⟨_,_,D.look,DC,⟨_,rfl⟩,KX,λX=>aF (λh2=>bad λg=>?_) (λh2=>aF (λh3=>bad λg=>?_) (λh3=>⟨_,_,D,DC,⟨_,rfl⟩,KX,Xf (IB X),λm2 a3 x Q m3 I J=>?_⟩)),λy hy=>?_⟩)⟩
 .have:=g.1;grind
 .have:=g.2.1;omega
 .have:=g.2.2.1;omega
 .have x:=N0.snoc x;have j:Sub m m2:=n.upd S a3.other;have L:Sub m m3:=j.upd (j.free I.m_) J.other
  have Y:B≠Q:=λe=>by
   obtain⟨es,cl,e1,_⟩:=x.ex;rw[e,I.m_]at e1;cases e1
  have Z:t.name∉(s.tables.take i).map Bi.name:=by rw[<-V];exact IB X
  rw[V, <-jK U]at x
  refine⟨λ⟨i',k,a4,a5,sl,M⟩=>i'=i/\a4=B/\a5=Q/\sl=w.columns/\k<=t.columns.length/\Sub m M/\N0 M B ((s.tables.take (i+1)).map Bi.name)/\N0 M Q ((t.columns.take k).map rG.name)/\gG Zj t.columns k,λ⟨_,k,_,_,_,_⟩=>t.columns.length-k,
   ⟨(i,0,B,Q,w.columns,m3),⟨rfl,rfl,rfl,rfl,aD,L,x.other Y J.other,⟨_,_,J.at_,rfl⟩,.zero⟩,MT⟩,?_⟩
  rintro⟨i,k,B,Q,_,M⟩ ⟨rfl,rfl,rfl,rfl,hk,d,E,F,a'⟩;dsimp only;refine aF (λG=>?_) (λa8=>?_)
  .obtain⟨c,hc⟩:=dW a2 G;obtain⟨bc,oc,ec,rc⟩:=Hv.at f.columns hc;have z:∀mz,Sub m mz->¬Zj (t.columns.take k) c->mK h K (.val (.bool false)) mz h:=λmz hz hn=>.sub hz (hf (Good.not U (λg=>Good.not hc hn g.2.2.2.2)));refine⟨bc,oc,ec,aD,G,c,.imm rc,c.name,rfl,aC (λh4=>z M d λg=>?_) (λh4=>⟨_,_,F.look,DC,⟨_,rfl⟩,KX,λH=>⟨_,_,F,DC,⟨_,rfl⟩,KX,Xf (IB H),λm4 a0 C=>?_⟩,λy hy=>?_⟩)⟩
   .rw[g.1]at h4;cases h4
   .have C:=N0.snoc C;rw[<-jK hc]at C;have A:Sub m m4:=d.upd (j.free I.m_) a0.other;have O:gI c.kind=true->Zj (t.columns.take k) c:=λe=>⟨bo,e,IB H⟩
    have P:gI c.kind=false->¬Zj (t.columns.take k) c:=λe g=>by rw[g.2.1]at e;cases e
    have a6:=E.other Y a0.other
    repeat' (first|(refine aC (λ_=>?_) (λ_=>?_))|(refine z m4 A (P ?_);simp_all [gI];done)|exact⟨(i,k+1,B,Q,w.columns,m4),⟨rfl,rfl,rfl,rfl,bu,A,a6,C,a'.succ hc (O (by simp_all [gI]))⟩,bt,MT⟩)
   .obtain⟨a1,rfl⟩:=Xg hy;exact aC (λ_=>z M d λg=>g.2.2 a1) (λe=>by cases e)
  .refine⟨(i+1,B,M),⟨aD,d,S,E,u.succ U (W Z bo aD aD (a'.all aD))⟩,?_,MT⟩;omega
 .obtain⟨a1,rfl⟩:=Xg hy;exact aC (λ_=>bad λg=>g.2.2.2.1 bo) (λe=>by cases e)
theorem Qy{α}{f:α->ByteArray}{l:List α}{x n}(c:l[i]? =some x)(h:n∉(l.take i).map f)(d:f x≠n):n∉(l.take (i+1)).map f:=by
 rw[jK c,mem_append]
 grind
theorem cGZ{α}{f:α->ByteArray}{l:List α}{k x n}(d:l[i]? =some x)(e:i<k)(c:f x=n):n∈(l.take k).map f:=
 mem_map.2 ⟨x,mem_of_getElem? (i:=i) bo,c⟩
theorem arQ:cz 121 b0Z:=by
 refine gW func121 ?_;rintro a2 m h K ⟨v,s,t,i,rfl,F,U,V⟩;refine⟨bSJ v i m h,rfl,aE ajZ (aE RF aI),Uu v i m h K,bh,?_⟩;dsimp only[Uu,push_cast];have hl:=F.tables.slen;have W:=F.tables.len;have a3:i<s.tables.length:=(bz U);have bad:¬FI (s.tables.take i) t->K (.val (.bool false)) m h:=λh=>V false ⟨λe=>(by cases e),λe=>(h e).elim⟩;obtain⟨bb,o,w,ea,hr,d⟩:=F.tables.at U;have G:=bI.slen d.columns;have a4:=bI.len d.columns;have D:=d.name;have a5:=d.key;refine⟨bb,o,ea,aD,aD,w,.imm hr,w.name,rfl,aC (λh1=>bad λf=>?_) (λh1=>aC (λh2=>bad λf=>?_) (λh2=>aF (λh3=>bad λf=>?_) (λh3=>aF (λh4=>bad λf=>?_) (λh4=>?_))))⟩
 .have:=f.1;grind
 .have:=f.2.1;have:=f.2.2.1;grind
 .have:=f.2.1;omega
 .have:=f.2.2.1;omega
 refine⟨λ⟨k,A⟩=>A=w/\k<=i/\t.name∉(s.tables.take k).map Bi.name,λ⟨k,_⟩=>i-k,⟨(0,w),⟨rfl,aD,bi⟩,MT⟩,?_⟩;rintro⟨k,w⟩ ⟨rfl,hk,E⟩;dsimp only;refine aF (λg=>?_) (λa6=>?_)
 .obtain⟨X,B⟩:∃X,s.tables[k]? =some X:=⟨s.tables[k]'(by omega),cd _⟩
  obtain⟨b',o',A,H,I,n⟩:=F.tables.at B;refine⟨b',o',H,aD,aD,A.name,.imm (bU.part I 0 1),aC (λe=>bad λf=>?_) (λe=>?_)⟩
  .refine f.2.2.2.1 (cGZ B aD ?_);rw[<-n.name, <-D];exact Dy (bx e)
  .refine⟨(k+1,w),⟨rfl,aD,Qy B E λY=>?_⟩,aD,MT⟩;rw[<-n.name, <-D]at Y
   grind
 .have J:k=i:=by omega
  subst J;refine⟨λ⟨k,A⟩=>A=w/\k<=t.columns.length/\gG Zj t.columns k,λ⟨k,_⟩=>t.columns.length-k,⟨(0,w),⟨rfl,aD,.zero⟩,MT⟩,?_⟩;rintro⟨c,w⟩ ⟨rfl,hc,Z⟩;dsimp only;refine aF (λg=>?_) (λa'=>V true ⟨λ_=>⟨bo,aD,aD,E,Z.all aD⟩,λ_=>rfl⟩);obtain⟨x,C⟩:=dW G g;obtain⟨L,M,O,P⟩:=Hv.at d.columns C;have u:¬Zj (t.columns.take c) x->K (.val (.bool false)) m h:=λhn=>bad λf=>Good.not C hn f.2.2.2.2;refine⟨L,M,O,aD,g,x.name,.imm (bU.part P 0 1),x.name,rfl,aC (λQ=>u λf=>?_) (λQ=>⟨L,M,O,aD,g,x.kind,.imm (bU.part P 1 1),x.kind,rfl,aC (λR=>u λf=>?_) (λR=>?_)⟩)⟩
  .rw[f.1]at Q;cases Q
  .rw[f.2.1]at R;cases R
  refine⟨λ⟨c',j,A⟩=>A=w/\c'=c/\j<=c/\x.name∉(t.columns.take j).map rG.name,λ⟨_,j,_⟩=>c-j,⟨(c,0,w),⟨rfl,rfl,aD,bi⟩,MT⟩,?_⟩;rintro⟨c,j,w⟩ ⟨rfl,rfl,hj,z⟩;dsimp only;refine aF (λa0=>?_) (λa1=>?_)
  .obtain⟨y,S⟩:∃y,t.columns[j]? =some y:=⟨t.columns[j]'(by omega),cd _⟩
   obtain⟨T,oy,ey,ry⟩:=Hv.at d.columns S;refine⟨T,oy,ey,aD,aD,y.name,.imm (bU.part ry 0 1),L,M,O,aD,g,x.name,.imm (bU.part P 0 1),aC (λe=>u λf=>?_) (λe=>?_)⟩
   .exact f.2.2 (cGZ S aD (Dy (bx e)))
   .refine⟨(c,j+1,w),⟨rfl,rfl,bo,Qy S z λY=>?_⟩,bo,MT⟩
    grind
  .have:j=c:=by omega
   subst this;exact⟨(j+1,w),⟨rfl,aD,Z.succ C ⟨bo,bo,z⟩⟩,aD,MT⟩
def Ks(t g:Bi)(k:Nat)(c:Int):=0<=c/\c<t.columns.length/\∃x y,t.columns[c.toNat]? =some x/\g.columns[k]? =some y/\x.kind=y.kind
def b4Q(tabs:List Bi)(t:Bi)(_:List Ref)(r:Ref):=0<=r.table/\r.table<tabs.length/\∃g,tabs[r.table.toNat]? =some g/\(r.columns.length:Int)=g.key/\Good (λd c=>Ks t g d.length c) r.columns
def Hn(tabs _:List Bi)(t:Bi):=Good (b4Q tabs t) t.refs
def b3J:Vc.Spec:=λc m h K=>∃v s,c=[aS v]/\iC h s v/\Good FI s.tables/\∀r:Bool,(r=true↔Good (Hn s.tables) s.tables)->K (cB r) m h
def aQZ:Vc.Spec:=λc m h K=>∃v s t,∃i:Nat,c=[aS v,cI i]/\iC h s v/\Good FI s.tables/\s.tables[i]? =some t/\∀r:Bool,(r=true↔Hn s.tables [] t)->K (cB r) m h
noncomputable def bPJ(v:cK)(m:MH)(h:PH):=
 cZ [] [(2,{A:=Nat,st:=λi=>bS 82 83 [(1,.at (.ptr 1 0)),(11,sv v.tables),(12,iv v.tables.len),(13,iv i)] [(1,.cells 27 (v.enc.map .val))] m h}),
  (5,{A:=Nat×Nat×dE,st:=λ⟨i,k,w⟩=>bS 82 83 [(1,.at (.ptr 1 0)),(4,.at (.ptr 4 0)),(11,sv v.tables),(12,iv v.tables.len),(13,iv i),(18,sv w.references),(19,iv w.references.len),(20,iv k)] [(1,.cells 27 (v.enc.map .val)),(4,.cells 73 (w.enc.map .val))] m h}),
  (13,{A:=Nat×Nat×Nat×dE×dE×Sl,st:=λ⟨i,k,j,w,g,c⟩=>bS 82 83 [(1,.at (.ptr 1 0)),(4,.at (.ptr 4 0)),(7,.at (.ptr 7 0)),(11,sv v.tables),(12,iv v.tables.len),(13,iv i),(18,sv w.references),(19,iv w.references.len),(20,iv k),(48,sv c),(49,iv c.len),(50,iv j)] [(1,.cells 27 (v.enc.map .val)),(4,.cells 73 (w.enc.map .val)),(7,.cells 73 (g.enc.map .val))] m h})] [] [] false
noncomputable def bSZ(v:cK)(m:MH)(h:PH):=
 cZ [] [(3,{A:=Nat×dE,st:=λ⟨k,w⟩=>bS 85 87 [(2,.at (.ptr 2 0)),(5,.at (.ptr 5 0)),(16,sv w.references),(17,iv w.references.len),(18,iv k)] [(2,.cells 27 (v.enc.map .val)),(5,.cells 73 (w.enc.map .val))] m h}),
  (8,{A:=Nat×Nat×dE×Hu,st:=λ⟨k,j,w,r⟩=>bS 85 87 [(2,.at (.ptr 2 0)),(5,.at (.ptr 5 0)),(7,.at (.ptr 7 0)),(16,sv w.references),(17,iv w.references.len),(18,iv k),(47,sv r.columns),(48,iv r.columns.len),(49,iv j)] [(2,.cells 27 (v.enc.map .val)),(5,.cells 73 (w.enc.map .val)),(7,.cells 129 (r.enc.map .val))] m h})] [] [] false
abbrev mP(a:(Nat->Prop)->Nat->Prop)(b:(Nat->Prop)->(Nat->Nat)->Nat->Prop):=∃(x:Nat->Prop)(d:Nat->Nat),lB (∃(c:Nat),a x c) (λc=>b x d c)
abbrev eJ:=eP 1
abbrev iL:=eP 4
abbrev F3(a b:dE):=aY a.references b.references
abbrev F4(a b:dE):=bZ a.references b.references
abbrev ID(a:cK)(b:Int)(c:Nat->Nat->Prop):=bF (λx d=>aH (aM (Ai a) x d) (0<=b) (b<aG a.tables) (c x d))
noncomputable abbrev xK(a:Nat×Nat×Nat×dE×dE×Sl):=a.2.2.2.1
noncomputable abbrev Bv(a:Nat×Nat×Nat×dE×dE×Sl):=a.2.2.2.2.2
noncomputable abbrev As(a:Nat×Nat×Nat×dE×dE×Sl):=a.2.2.1
noncomputable abbrev Ji(a:Nat×Nat×Nat×dE×dE×Sl):=a.2.2.2.2.1
attribute [push_cast] mP eJ iL F3 F4 ID xK Bv As Ji
def NF(v:cK)(m:MH)(h:PH)(K:da):=
  mP (λI x=>aA (I x) eJ (aA (uO v) (j8 v) (aA (bA x) (cT v) (aA (m=m) (h=h) True)))) (λI n x=>IC (I x) x v (λb o y=>aL m h b (bK o x 5) (BA y)/\∃(I1:Nat×Nat×dE->Prop)(t:Nat×Nat×dE->Nat),(∃(d:Nat×Nat×dE),aA (I1 d) eJ (aA iL (uO v) (aA (j8 v) (bV x d.1) (aA (F3 y (nO d)) (F4 y (nO d)) (aA (bA (vC d)) (cT v) (aA (oQ 73 (iS y)=oQ 73 (iS (nO d))) (m=m) (bQ h h)))))))/\∀(d:Nat×Nat×dE),I1 d->aZ (↑(vC d):Int) (aG (nO d).references) (bF (λu z=>aH (aM (nO d).references.a u z) (0<=(↑(vC d):Int)) ((↑(vC d):Int)<aG (nO d).references) (∃(f:Hu),aL m h u (bK z (vC d) 2) (lE (gP f.columns) (eH f.table))/\
 aZ f.table 0 (K bB m h) (gQ f.table (kI v) (K bB m h) (ID v f.table (λL M=>∃(j:dE),aL m h L (fF M f.table 5) (BA j)/\dH (aG f.columns) j.key (K bB m h) (∃(I2:Nat×Nat×Nat×dE×dE×Sl->Prop)(A:Nat×Nat×Nat×dE×dE×Sl->Nat),(∃(c:Nat×Nat×Nat×dE×dE×Sl),aA (I2 c) eJ (aA iL (eP 7) (aA (uO v) (j8 v) (aA (bV d.1 c.1) (F3 (nO d) (xK c)) (aA (F4 (nO d) (xK c)) (bV (vC d) c.2.1) (aA (aY f.columns (Bv c)) (bZ f.columns (Bv c)) (aA (bA (As c)) (cT v) (aA (oQ 73 (iS (nO d))=oQ 73 (iS (xK c))) (oQ 73 (iS j)=oQ 73 (iS (Ji c))) (bO (m=m) h h)))))))))/\∀(c:Nat×Nat×Nat×dE×dE×Sl),I2 c->aZ (↑(As c):Int)
 (aG (Bv c)) (bF (λB C=>aH (aM (Bv c).a B C) (0<=(↑(As c):Int)) ((↑(As c):Int)<aG (Bv c)) (∃(g:Int),aL m h B (bK C (As c) 1) (bM g)/\aZ g 0 (K bB m h) (gQ g (BS (xK c)) (K bB m h) (bF (λD E=>aH (aM (xK c).columns.a D E) (0<=g) (g<aG (xK c).columns) (∃(F:Int),aL m h D (fF E g 2+1) (bM F)/\bF (λG H=>aH (aM (Ji c).columns.a G H) (0<=(↑(As c):Int)) ((↑(As c):Int)<aG (Ji c).columns) (∃(J:Int),aL m h G (bK H (As c) 2+1) (bM J)/\dH F J (K bB m h) (∃(e:Nat×Nat×Nat×dE×dE×Sl),aA (I2 e) (A e<A c) (aA eJ iL (aA (eP 7) (uO v) (aA (j8 v) (bV c.1 e.1) (aA (F3 (xK c) (xK e))
 (F4 (xK c) (xK e)) (aA (bV c.2.1 e.2.1) (aY (Bv c) (Bv e)) (aA (bZ (Bv c) (Bv e)) (fU (bC (As c) 1)=bP (As e)) (aA (cT v) (oQ 73 (iS (xK c))=oQ 73 (iS (xK e))) (aH (oQ 73 (iS (Ji c))=oQ 73 (iS (Ji e))) (m=m) (h=h) True)))))))))))))))))) (∃(e:Nat×Nat×dE),aA (I1 e) (t e<t d) (aA eJ iL (aA (aJ v.tables) (j8 v) (aA (bV c.1 e.1) (F3 (xK c) (nO e)) (aA (F4 (xK c) (nO e)) (fU (bC c.2.1 1)=bP (vC e)) (aA (cT v) (oQ 73 (iS (xK c))=oQ 73 (iS (nO e))) (bO (m=m) h h)))))))))))))) (∃(c:Nat),aA (I c) (n c<n x) (aA eJ (uO v) (aA (j8 v) (fU (bC d.1 1)=bP c) (aA (cT v) (m=m) (bQ h h)))))) (K fM m h))
abbrev Pu(a:cK)(b:Int)(c:Nat->Nat->Int->Prop):=bF (λx d=>aH (aM (Ai a) x d) (0<=b) (b<aG a.tables) (∃(e:Int),c x d e))
noncomputable abbrev xL(a:Nat×Nat×dE×Hu):=a.2.2.1
noncomputable abbrev wN(a:Nat×Nat×dE×Hu):=a.2.2.2.columns
noncomputable abbrev Gp(a:Nat×Nat×dE×Hu):=a.2.2.2.table
attribute [push_cast] Pu xL wN Gp
def NI(v:cK)(i:Nat)(m:MH)(h:PH)(K:da):=
  bF (λb o=>aH (aM (Ai v) b o) (0<=(↑i:Int)) ((↑i:Int)<aG v.tables) (∃(y:dE),aL m h b (bK o i 5) (BA y)/\Pm (λI x=>aA (I x) eD (aA dU (F3 y x.2) (aA (F4 y x.2) (bA x.1) (aA (cT v) (Gq y x) (bO (m=m) h h))))) (λI j x=>I x->aZ (↑x.1:Int) (aG x.2.references) (bF (λn t=>aH (aM x.2.references.a n t) (0<=(↑x.1:Int)) ((↑x.1:Int)<aG x.2.references) (∃(e:Hu),aL m h n (bK t x.1 2) (lE (gP e.columns) (eH e.table))/\aZ e.table 0 (K bB m h) (gQ e.table (kI v) (K bB m h) (Pu v e.table (λM O u=>aL m h M (fF O e.table 5+2) (bM u)/\dH (aG e.columns) u (K bB m h) (∃(I1:Nat×Nat×dE×Hu->Prop)(z:Nat×Nat×dE×Hu->Nat),(∃(c:Nat×Nat×dE×Hu),aA
 (I1 c) eD (aA dU (eP 7) (aA (F3 x.2 (xL c)) (F4 x.2 (xL c)) (aA (bV x.1 c.1) (aY e.columns (wN c)) (aA (bZ e.columns (wN c)) (bA c.2.1) (aA (cT v) (oQ 73 (iS x.2)=oQ 73 (iS (xL c))) (aH (oQ 129 (j9 (nX e.columns) (mD e.table))=oQ 129 (j9 (nX (wN c)) (mD (Gp c)))) (m=m) (h=h) True)))))))/\∀(c:Nat×Nat×dE×Hu),I1 c->aZ (↑c.2.1:Int) (aG (wN c)) (bF (λA B=>aH (aM (wN c).a A B) (0<=(↑c.2.1:Int)) ((↑c.2.1:Int)<aG (wN c)) (∃(f:Int),aL m h A (bK B c.2.1 1) (bM f)/\aZ f 0 (K bB m h) (gQ f (BS (xL c)) (K bB m h) (bF (λC D=>aH (aM (xL c).columns.a C D) (0<=f) (f<aG (xL c).columns) (∃(E:Int),aL m h C (fF D f 2+1)
 (bM E)/\bF (λF G=>aH (aM (Ai v) F G) (0<=Gp c) (Gp c<aG v.tables) (∃(g:Sl),aL m h F (fF G (Gp c) 5+1) (bH g)/\bF (λH J=>aH (aM g.a H J) (0<=(↑c.2.1:Int)) ((↑c.2.1:Int)<aG g) (∃(L:Int),aL m h H (bK J c.2.1 2+1) (bM L)/\dH E L (K bB m h) (∃(d:Nat×Nat×dE×Hu),aA (I1 d) (z d<z c) (aA eD dU (aA (eP 7) (F3 (xL c) (xL d)) (aA (F4 (xL c) (xL d)) (bV c.1 d.1) (aA (aY (wN c) (wN d)) (bZ (wN c) (wN d)) (aA (fU (bC c.2.1 1)=bP d.2.1) (cT v) (aA (oQ 73 (iS (xL c))=oQ 73 (iS (xL d))) (oQ 129 (j9 (nX (wN c)) (mD (Gp c)))=oQ 129 (j9 (nX (wN d)) (mD (Gp d)))) (aA (m=m) (h=h)
 True))))))))))))))))))) (∃(d:Nat×dE),aA (I d) (j d<j x) (aA eD dU (aA (F3 (xL c) d.2) (F4 (xL c) d.2) (aA (fU (bC c.1 1)=bP d.1) (cT v) (aH (Gq (xL c) d) (m=m) (h=h) True)))))))))))) (K fM m h))))
theorem Ints.at'{s}(r:Ints h s l){x}(c:l[i]? =some x):∃b o,s.a=some ⟨b,o,none⟩/\bU h b (o+i*1) [.int .i64 x]:=by
 obtain⟨b,o,e,k⟩:=r.at c
 grind
theorem WE{α}{l:List α}{x}(h:l[i]? =some x):(l.take i).length=i:=by
 grind
theorem Good.key_le{tabs}(h:Good FI tabs){g}(c:tabs[i]? =some g):g.key<=g.columns.length:=(h i g c).2.2.1
theorem cAZ{v}(P:iC h s v)(C:Good FI s.tables)(hK:∀r:Bool,(r=true↔Good (Hn s.tables) s.tables)->K (cB r) m h):NF v m h K:=by
 dsimp only[NF,push_cast];have hl:=P.tables.slen;have a8:=P.tables.len;have hf:¬Good (Hn s.tables) s.tables->K (.val (.bool false)) m h:=λh=>hK false ⟨λe=>(by cases e),λe=>(h e).elim⟩;refine⟨λi=>i<=s.tables.length/\gG (Hn s.tables) s.tables i,λi=>s.tables.length-i,⟨0,⟨aD,.zero⟩,MT⟩,λi⟨hi,hg⟩=>aF (λH=>?_) (λb1=>hK true ⟨λ_=>hg.all aD,λ_=>rfl⟩)⟩;obtain⟨t,R⟩:=dW hl H;obtain⟨b,o,w,ea,hr,f⟩:=P.tables.at R;have b7:=bI.slen f.columns;have S:=bI.slen f.refs;have b8:=bI.len f.refs;refine⟨b,o,ea,aD,H,w,.imm hr,λ⟨T,k,U⟩=>T=i/\U=w/\k<=t.refs.length/\gG (b4Q s.tables t) t.refs k,λ⟨_,k,_⟩=>t.refs.length-k,⟨(i,0,w),⟨rfl,rfl,aD,.zero⟩,MT⟩,?_⟩;rintro⟨i,k,w⟩ ⟨rfl,rfl,hk,I⟩;dsimp only;refine aF (λA=>?_) (λa9=>⟨i+1,⟨aD,hg.succ R (I.all aD)⟩,aD,MT⟩);obtain⟨r,D⟩:=dW S A;obtain⟨b2,o2,F,V,W,d⟩:=f.refs.at D;have X:=d.columns.slen;have b9:=d.columns.len;have rt:=d.table;have bad:¬b4Q s.tables t (t.refs.take k) r->K (.val (.bool false)) m h:=λhn=>hf (Good.not R (Good.not D hn));refine⟨b2,o2,V,aD,A,F,.imm W,aF (λh1=>bad λu=>?_) (λh1=>aF (λh2=>bad λu=>?_) (λh2=>?_))⟩
 .have:=u.1;omega
 .have:=u.2.1;omega
 obtain⟨g,b3,o3,G,J,Y,Z,n⟩:=P.table (t:=F.table) aD aD;have c':=bI.slen n.columns;have b':=C.key_le J;have gk:=n.key;refine⟨b3,o3,Y,aD,aD,G,.imm Z,aC (λh3=>bad λu=>?_) (λh3=>?_)⟩
 .obtain⟨_,_,g',E,c0,_⟩:=u
  grind
 have h3:(F.columns.len:Int)=G.key:=bo
 refine⟨λ⟨T,k',j,U,g',sl⟩=>T=i/\k'=k/\U=w/\g'=G/\sl=F.columns/\j<=r.columns.length/\gG (λa' c=>Ks t g a'.length c) r.columns j,λ⟨_,_,j,_,_,_⟩=>r.columns.length-j,⟨(i,k,0,w,G,F.columns),⟨rfl,rfl,rfl,rfl,rfl,aD,.zero⟩,MT⟩,?_⟩;rintro⟨i,k,j,w,G,_⟩ ⟨rfl,rfl,rfl,rfl,rfl,hj,L⟩;dsimp only;refine aF (λB=>?_) (λb0=>⟨(i,k+1,w),⟨rfl,rfl,bo,I.succ D ⟨aD,aD,g,bo,aD,L.all aD⟩⟩,bo,MT⟩);obtain⟨c,Q⟩:=dW X B;obtain⟨b4,o4,a0,a1⟩:=d.columns.at' Q;have a2:=WE Q
 have z:¬Ks t g j c->K (.val (.bool false)) m h:=λhn=>bad λu=>by
  obtain⟨_,_,g',E,_,a3⟩:=u;rw[<-rt,J]at E;cases E;have:=a3 j c Q
  grind
 refine⟨b4,o4,a0,aD,B,c,.imm a1,aF (λh5=>z λu=>?_) (λh5=>aF (λh6=>z λu=>?_) (λh6=>?_))⟩
 .have:=u.1;omega
 .have:=u.2.1;omega
 obtain⟨x,M⟩:∃x,t.columns[c.toNat]? =some x:=⟨t.columns[c.toNat]'(by omega),cd _⟩
 obtain⟨y,O⟩:∃y,g.columns[j]? =some y:=⟨g.columns[j]'(by omega),cd _⟩
 obtain⟨b5,o5,a4,a5⟩:=Hv.at f.columns M;obtain⟨b6,o6,a6,a7⟩:=Hv.at n.columns O;refine⟨b5,o5,a4,aD,aD,x.kind,.imm (bU.part a5 1 1),b6,o6,a6,aD,aD,y.kind,.imm (bU.part a7 1 1),aC (λh7=>z λu=>?_) (λh7=>?_)⟩
 .obtain⟨_,_,x',y',e1,e2,e3⟩:=u
  grind
 .exact⟨(i,k,j+1,w,G,F.columns),⟨rfl,rfl,rfl,rfl,rfl,bo,L.succ Q (by show Ks t g (List.take j r.columns).length c;rw[a2];exact⟨aD,aD,x,y,M,O,bo⟩)⟩,bo,MT⟩
theorem apZ:cz 137 b3J:=by
 refine gW func137 ?_;rintro c m h K ⟨v,s,rfl,d,e,f⟩;refine⟨bPJ v m h,rfl,aI,NF v m h K,bh,?_⟩;exact cAZ d e f
theorem cBZ{v t}(P:iC h s v)(C:Good FI s.tables)(hx:s.tables[i]? =some t)(hK:∀r:Bool,(r=true↔Hn s.tables [] t)->K (cB r) m h):NI v i m h K:=by
 dsimp only[NI,push_cast];have hl:=P.tables.slen;have a5:=P.tables.len;have a9:i<s.tables.length:=(bz hx);have hf:¬Hn s.tables [] t->K (.val (.bool false)) m h:=λh=>hK false ⟨λe=>(by cases e),λe=>(h e).elim⟩;obtain⟨b,o,w,ea,hr,f⟩:=P.tables.at hx;have b':=bI.slen f.columns;have R:=bI.slen f.refs;have b0:=bI.len f.refs;refine⟨b,o,ea,aD,aD,w,.imm hr,λ⟨k,S⟩=>S=w/\k<=t.refs.length/\gG (b4Q s.tables t) t.refs k,λ⟨k,_⟩=>t.refs.length-k,⟨(0,w),⟨rfl,aD,.zero⟩,MT⟩,?_⟩;rintro⟨k,w⟩ ⟨rfl,hk,G⟩;dsimp only;refine aF (λA=>?_) (λa6=>hK true ⟨λ_=>G.all aD,λ_=>rfl⟩);obtain⟨r,D⟩:=dW R A;obtain⟨b2,o2,E,T,U,d⟩:=f.refs.at D;have V:=d.columns.slen;have b1:=d.columns.len;have rt:=d.table;have bad:¬b4Q s.tables t (t.refs.take k) r->K (.val (.bool false)) m h:=λhn=>hf (Good.not D hn);refine⟨b2,o2,T,aD,A,E,.imm U,aF (λh1=>bad λu=>?_) (λh1=>aF (λh2=>bad λu=>?_) (λh2=>?_))⟩
 .have:=u.1;omega
 .have:=u.2.1;omega
 obtain⟨g,b3,o3,W,H,I,J,n⟩:=P.table (t:=E.table) aD aD;have b7:=bI.slen n.columns;have a7:=C.key_le H;have gk:=n.key;refine⟨b3,o3,I,aD,aD,W.key,.imm (bU.part J 2 1),aC (λh3=>bad λu=>?_) (λh3=>?_)⟩
 .obtain⟨_,_,g',F,b8,_⟩:=u
  grind
 have h3:(E.columns.len:Int)=W.key:=bo
 refine⟨λ⟨k',j,S,r'⟩=>k'=k/\S=w/\r'=E/\j<=r.columns.length/\gG (λX c=>Ks t g X.length c) r.columns j,λ⟨_,j,_,_⟩=>r.columns.length-j,⟨(k,0,w,E),⟨rfl,rfl,rfl,aD,.zero⟩,MT⟩,?_⟩;rintro⟨k,j,w,E⟩ ⟨rfl,rfl,rfl,hj,L⟩;dsimp only;refine aF (λB=>?_) (λa8=>⟨(k+1,w),⟨rfl,aD,G.succ D ⟨aD,aD,g,bo,aD,L.all aD⟩⟩,aD,MT⟩);obtain⟨c,Q⟩:=dW V B;obtain⟨b4,o4,Y,Z⟩:=d.columns.at' Q;have a':=WE Q
 have z:¬Ks t g j c->K (.val (.bool false)) m h:=λhn=>bad λu=>by
  obtain⟨_,_,g',F,_,a0⟩:=u;rw[<-rt,H]at F;cases F;have:=a0 j c Q
  grind
 refine⟨b4,o4,Y,aD,B,c,.imm Z,aF (λh5=>z λu=>?_) (λh5=>aF (λh6=>z λu=>?_) (λh6=>?_))⟩
 .have:=u.1;omega
 .have:=u.2.1;omega
 obtain⟨x,M⟩:∃x,t.columns[c.toNat]? =some x:=⟨t.columns[c.toNat]'(by omega),cd _⟩
 obtain⟨y,O⟩:∃y,g.columns[j]? =some y:=⟨g.columns[j]'(by omega),cd _⟩
 obtain⟨b5,o5,a1,a2⟩:=Hv.at f.columns M;obtain⟨b6,o6,a3,a4⟩:=Hv.at n.columns O;refine⟨b5,o5,a1,aD,aD,x.kind,.imm (bU.part a2 1 1),b3,o3,I,aD,aD,W.columns,.imm (bU.part J 1 1),b6,o6,a3,aD,aD,y.kind,.imm (bU.part a4 1 1),aC (λh7=>z λu=>?_) (λh7=>?_)⟩
 .obtain⟨_,_,x',y',e1,e2,e3⟩:=u
  grind
 .exact⟨(k,j+1,w,E),⟨rfl,rfl,rfl,bo,L.succ Q (by show Ks t g (List.take j r.columns).length c;rw[a'];exact⟨aD,aD,x,y,M,O,bo⟩)⟩,bo,MT⟩
theorem aqJ:cz 122 aQZ:=by
 refine gW func122 ?_;rintro c m h K ⟨v,s,t,i,rfl,d,e,f,g⟩;refine⟨bSZ v m h,rfl,aI,NI v i m h K,bh,?_⟩;exact cBZ d e f g
def R3(t:Bi):=t.columns.length<=8/\t.refs.length<=4/\t.checks.length<=4
def Fg(s:jC):=s.tables.length<=8/\Good (λ_ t=>R3 t) s.tables
def MA(s:jC):=0<=s.version/\s.version<=1000/\Good FI s.tables/\Good (Hn s.tables) s.tables
def yD:db->Int
 |[]=>0
 |e::r=>if e=0 then yD r else e
def z7(s:jC)(i:Nat):=match s.tables[i]? with|some t=>t.checks.map (gY (jR s i) [])|none=>[]
theorem Cr a b(h:∀e∈a,e=0):yD (a++b)=yD b:=by
 induction a with
 |nil=>rfl
 |cons x a c=>
  simp only[cons_append,yD];rw[if_pos (h x bi),c λe d=>h e (by simp[d])]
theorem Fe a(h:∀e∈a,e=0):yD a=0:=by
 have:=Cr a [] h;simpa[yD]using this
theorem OG{n k f e}(o:i<n)(t:∀j<i,∀x∈f j,x=0)(c:∀x∈(f i).take k,x=0)(d:(f i)[k]? =some e)(g:e≠0):yD ((List.range n).flatMap f)=e:=by
 obtain⟨r,rfl⟩:∃r,n=i+(1+r):=⟨n-i-1,aD⟩
 rw[range_add,flatMap_append,Cr]
 .rw[show(List.range (1+r)).map (i+ ·)=i::(range' (i+1) r)from ?_,flatMap_cons, <-take_append_drop k (f i),append_assoc,Cr _ _ c,drop_cons d]
  .simp[yD,g]
  .rw[Nat.add_comm 1 r,range_succ_eq_map];simp[range'_eq_map_range,Nat.add_assoc,Nat.add_comm 1]
 grind
open Classical in
noncomputable def eX(s:jC):Int:=if Fg s then(if MA s then yD ((List.range s.tables.length).flatMap (z7 s))else 70)else 2
def DA:Vc.Spec:=λc m h K=>∃v s,c=[aS v]/\iC h s v/\K (cI (eX s)) m h
noncomputable def coQ(v:cK)(m:MH)(h:PH):=
 cZ [(136,b6X),(137,b3J),(69,yG),(138,v7)] [(4,{A:=Nat,st:=λi=>bS 83 84 [(1,.at (.ptr 1 0)),(16,sv v.tables),(17,iv v.tables.len),(18,iv i)] [(1,.cells 27 (v.enc.map .val))] m h}),
  (12,{A:=Nat×PH,st:=λ⟨i,c⟩=>bS 83 84 [(1,.at (.ptr 1 0)),(58,sv v.tables),(59,iv v.tables.len),(60,iv i)] [(1,.cells 27 (v.enc.map .val))] m c}),
  (16,{A:=Nat×Nat×Sl×Sl×PH,st:=λ⟨i,k,ks,d,c⟩=>bS 83 84 [(1,.at (.ptr 1 0)),(7,sv ks),(58,sv v.tables),(59,iv v.tables.len),(60,iv i),(69,sv d),(70,iv d.len),(71,iv k)] [(1,.cells 27 (v.enc.map .val))] m c})] [] [] false
noncomputable def cqX(v:cK)(m:MH)(h:PH):=
 cZ [(121,b0Z),(122,aQZ),(45,yG),(66,v7)] [(4,{A:=Nat,st:=λi=>bS 96 97 [(1,.at (.ptr 1 0)),(16,sv v.tables),(17,iv v.tables.len),(18,iv i)] [(1,.cells 27 (v.enc.map .val))] m h}),
  (12,{A:=Nat,st:=λi=>bS 96 97 [(1,.at (.ptr 1 0)),(49,iv v.tables.len),(50,iv i)] [(1,.cells 27 (v.enc.map .val))] m h}),
  (18,{A:=Nat,st:=λi=>bS 96 97 [(1,.at (.ptr 1 0)),(60,iv v.tables.len),(61,iv i)] [(1,.cells 27 (v.enc.map .val))] m h}),
  (24,{A:=Nat×PH,st:=λ⟨i,c⟩=>bS 96 97 [(1,.at (.ptr 1 0)),(71,iv v.tables.len),(72,iv i)] [(1,.cells 27 (v.enc.map .val))] m c}),
  (27,{A:=Nat×Nat×Sl×PH,st:=λ⟨i,k,d,c⟩=>bS 96 97 [(1,.at (.ptr 1 0)),(7,iv i),(71,iv v.tables.len),(72,iv i),(80,sv d),(81,iv d.len),(82,iv k)] [(1,.cells 27 (v.enc.map .val))] m c})] [] [] false
abbrev CK(a:du)(b:Nat->Nat->Option Value)(c:Sl->PH->Prop):=uS (λx d=>∃(f:Int),aH (a=cA (cL x) f) (iC b d x) (nY d) (fB (λg e=>bY b e (Ints e g (jR d f)) (c g e))))
noncomputable abbrev eF(a:Sl×Sl×PH):=a.2.1
noncomputable abbrev cX(a:Sl×Sl×PH):=a.2.2
noncomputable abbrev EF(a:Nat×Nat×Sl×Sl×PH):=cX a.2.2
abbrev Gf(a:du)(b:PH)(c:db->db->Pred->Prop):=gL (λx d=>∃(e:PV),tC (λf g=>∃(j:Pred),aA (a=cM x::aX (cM d) (fL e)) (Ints b x f) (aA (Ints b d g) (fJ b j e) (c f g j))))
attribute [push_cast] CK eF cX EF Gf
def Rh(v:cK)(m:MH)(h:PH)(K:da):=
  fX (kI v) 8 (K (fI 2) m h) (mP (λI x=>aA (I x) eJ (aA (uO v) (j8 v) (aA (bA x) (cT v) (aA (m=m) (h=h) True)))) (λI j x=>IC (I x) x v (λb o y=>aL m h b (bK o x 5) (BA y)/\qE (decide (BS y>8)) (K (fI 2) m h) (aG y.references) 4 (K (fI 2) m h) (fX (aG y.checks) 4 (K (fI 2) m h) (∃(e:Nat),aA (I e) (j e<j x) (aA eJ (uO v) (aA (j8 v) (fU (bC x 1)=bP e) (aA (cT v) (m=m) (bQ h h))))))) (aZ v.version 0 (K (fI 70) m h) (fX v.version 1000 (K (fI 70) m h) (uS (λn s=>aA (pN (cL v)=pN (cL n)) (iC h s n) (∀(r:Bool),iB (gU r (Good FI s.tables)) (!r) (K (fI 70) m h) (uS (λt g=>aH (pN (cL v)=pN (cL t)) (iC h g t) (Good FI g.tables) (∀(u:Bool),iB (gU u (Good
 (Hn g.tables) g.tables)) (!u) (K (fI 70) m h) (∃(I1:Nat×PH->Prop)(z:Nat×PH->Nat),(∃(e:Nat×PH),aA (I1 e) eJ (aA (uO v) (j8 v) (aA (bA e.1) (cT v) (aA (m=m) (h=e.2) True))))/\∀(e:Nat×PH),IC (I1 e) e.1 v (λb o y=>aL m e.2 b (bK o e.1 5) (BA y)/\CK (cA (cL v) (↑e.1:Int)) e.2 (λF G=>∃(I2:Nat×Nat×Sl×Sl×PH->Prop)(A:Nat×Nat×Sl×Sl×PH->Nat),(∃(d:Nat×Nat×Sl×Sl×PH),aA (I2 d) eJ (aA (aY F d.2.2.1) (uO v) (aA (j8 v) (bV e.1 d.1) (aA (aY y.checks (eF d.2.2)) (bZ y.checks (eF d.2.2)) (j4 (bA d.2.1) (cT v) (m=m) G (EF d))))))/\∀(d:Nat×Nat×Sl×Sl×PH),I2 d->aZ (↑d.2.1:Int) (aG (eF d.2.2)) (bF (λB C=>aH (aM (eF d.2.2).a B C) (0
 <=(↑d.2.1:Int)) ((↑d.2.1:Int)<aG (eF d.2.2)) (∃(D:PV),aL m (EF d) B (bK C d.2.1 13) D.enc/\Gf (cM d.2.2.1::aX Dn (fL D)) (EF d) (λc p E=>dH (gY c p E) 0 (K (fI (gY c p E)) m (EF d)) (∃(f:Nat×Nat×Sl×Sl×PH),aA (I2 f) (A f<A d) (aA eJ (aY d.2.2.1 f.2.2.1) (aA (aJ v.tables) (j8 v) (aA (bV d.1 f.1) (aY (eF d.2.2) (eF f.2.2)) (aA (bZ (eF d.2.2) (eF f.2.2)) (fU (bC d.2.1 1)=bP f.2.1) (aA (cT v) (m=m) (bQ (EF d) (EF f)))))))))))) (∃(f:Nat×PH),aA (I1 f) (z f<z e) (aA eJ (uO v) (aA (j8 v) (fU (bC d.1 1)=bP f.1) (aA (cT v) (m=m) (bQ (EF d) f.2))))))) (K (fI 0) m e.2))))))))))))
abbrev PC(a:jC)(b:Nat)(c:Bi):=a.tables[b]? =Option.some c
noncomputable abbrev Bw(a:Nat×Nat×Sl×PH):=a.2.2.1
attribute [push_cast] PC Bw
def Rj(v:cK)(m:MH)(h:PH)(K:da):=
  fX (kI v) 8 (K (fI 2) m h) (mP (λI x=>aA (I x) eJ (aA (uO v) (j8 v) (aA (bA x) (cT v) (aA (m=m) (h=h) True)))) (λI z x=>IC (I x) x v (λb o y=>aL m h b (bK o x 5) (BA y)/\qE (decide (BS y>8)) (K (fI 2) m h) (aG y.references) 4 (K (fI 2) m h) (fX (aG y.checks) 4 (K (fI 2) m h) (∃(g:Nat),aA (I g) (z g<z x) (aA eJ (uO v) (aA (j8 v) (fU (bC x 1)=bP g) (aA (cT v) (m=m) (bQ h h))))))) (aZ v.version 0 (K (fI 70) m h) (fX v.version 1000 (K (fI 70) m h) (mP (λI1 g=>aA (I1 g) eJ (aA (j8 v) (bA g) (aH (cT v) (m=m) (h=h) True))) (λI1 A g=>I1 g->aZ (↑g:Int) (aG v.tables) (uS (λn s=>∃(t:Bi)(i:Nat),aH (cA (cL v) (↑g:Int)=cA (cL n) (↑i:Int)) (iC h
 s n) (PC s i t) (∀(r:Bool),iB (gU r (FI (List.take i s.tables) t)) (!r) (K (fI 70) m h) (∃(j:Nat),aA (I1 j) (A j<A g) (aA eJ (j8 v) (aA (fU (bC g 1)=bP j) (cT v) (aA (m=m) (h=h) True))))))) (mP (λI2 j=>aA (I2 j) eJ (aA (j8 v) (bA j) (aH (cT v) (m=m) (h=h) True))) (λI2 B j=>I2 j->aZ (↑j:Int) (aG v.tables) (uS (λn s=>∃(t:Bi)(i:Nat),aA (cA (cL v) (↑j:Int)=cA (cL n) (↑i:Int)) (iC h s n) (aA (Good FI s.tables) (PC s i t) (∀(r:Bool),iB (gU r (Hn s.tables [] t)) (!r) (K (fI 70) m h) (∃(e:Nat),aA (I2 e) (B e<B j) (aA eJ (j8 v) (aA (fU (bC j 1)=bP e) (cT v) (aA (m=m) (h=h) True)))))))) (∃(I3:Nat×PH->Prop)(C:Nat×PH->Nat),(∃(e:Nat×PH),aA
 (I3 e) eJ (aA (j8 v) (bA e.1) (aH (cT v) (m=m) (h=e.2) True)))/\∀(e:Nat×PH),I3 e->aZ (↑e.1:Int) (aG v.tables) (bF (λb o=>aH (aM (Ai v) b o) (0<=(↑e.1:Int)) ((↑e.1:Int)<aG v.tables) (∃(y:Sl),aL m e.2 b (bK o e.1 5+4) (bH y)/\∃(I4:Nat×Nat×Sl×PH->Prop)(D:Nat×Nat×Sl×PH->Nat),(∃(d:Nat×Nat×Sl×PH),aA (I4 d) eJ (aA (bV e.1 d.1) (j8 v) (aA (bV e.1 d.1) (aY y (Bw d)) (aA (bZ y (Bw d)) (bA d.2.1) (aH (cT v) (m=m) (e.2=d.2.2.2) True)))))/\∀(d:Nat×Nat×Sl×PH),I4 d->aZ (↑d.2.1:Int) (aG (Bw d)) (bF (λE F=>aH (aM (Bw d).a E F) (0<=(↑d.2.1:Int)) ((↑d.2.1:Int)<aG (Bw d)) (∃(G:PV),aL m d.2.2.2 E (bK F d.2.1 13) G.enc/\CK
 (cA (cL v) (↑d.1:Int)) d.2.2.2 (λs u=>Gf (cM s::aX Dn (fL G)) u (λc p H=>dH (gY c p H) 0 (K (fI (gY c p H)) m u) (∃(f:Nat×Nat×Sl×PH),aA (I4 f) (D f<D d) (aA eJ (bV d.1 f.1) (aA (j8 v) (bV d.1 f.1) (aA (aY (Bw d) (Bw f)) (bZ (Bw d) (Bw f)) (j4 (fU (bC d.2.1 1)=bP f.2.1) (cT v) (m=m) u f.2.2.2)))))))))) (∃(f:Nat×PH),aA (I3 f) (C f<C e) (aA eJ (j8 v) (aA (fU (bC d.1 1)=bP f.1) (cT v) (aA (m=m) (d.2.2.2=f.2) True))))))) (K (fI 0) m e.2))))))))))
theorem mK.out{d r}(e:Sub m m')(c:PH.le h d)(f:K r m h):mK h K r m' d:=⟨m,h,e,.refl _,c,f⟩
theorem yY(h:¬Fg s):eX s=2:=by unfold eX;rw[if_neg h]
theorem Qh(h:Fg s)(h':¬MA s):eX s=70:=by unfold eX;grind
theorem MP(h:Fg s)(h':MA s):eX s=yD ((List.range s.tables.length).flatMap (z7 s)):=by unfold eX;grind
theorem FP{k:Nat}{t}(c:s.tables[i]? =some t)(d:t.checks[k]? =some p):(z7 s i)[k]? =some (gY (jR s i) [] p):=by
 unfold z7;grind
theorem Ob{t}(c:s.tables[i]? =some t):(z7 s i).length=t.checks.length:=by
 unfold z7;rw[c];simp
theorem SH{k e}(c:l[k]? =some e)(h:∀x∈l.take k,x=0)(f:e=0):∀x∈l.take (k+1),x=0:=by
 intro x d;rw[cq,c,mem_append]at d
 grind
theorem Wt{f:Nat->db}{k}(h:∀j<i,∀x∈f j,x=0)(d:(f i).length<=k)(c:∀x∈(f i).take k,x=0):∀j<i+1,∀x∈f j,x=0:=by
 intro j n x g;by_cases e:j=i
 .subst e;rw[ci d]at c;exact c x g
 grind
theorem Nj:cz 73 DA:=by
 refine Hr func73 ?_;rintro a0 m h K ⟨v,s,rfl,y,hK⟩;refine⟨coQ v m h,rfl,aE apJ (aE apZ (aE Jo (aE Ki aI))),Rh v m h (mK h K),bh,?_⟩;show Rh v m h (mK h K);dsimp only[Rh,push_cast];have W:=y.tables.slen;have X:=y.tables.len;have Y:=y.version;have out:∀(f:PH)(x:Int),PH.le h f->eX s=x->mK h K (.val (.int .i64 x)) m f:=λf x g e=>.out (Sub.refl m) g (by rw[<-e];exact hK);refine aF (λh1=>out h _ (.refl _) (yY λe=>by have:=e.1;omega)) (λh1=>?_);refine⟨λi=>i<=s.tables.length/\gG (λ_ t=>R3 t) s.tables i,λi=>s.tables.length-i,⟨0,⟨aD,.zero⟩,MT⟩,λi⟨hi,Z⟩=>aF (λn=>?_) (λO=>?_)⟩
 .obtain⟨t,f⟩:=dW W n;obtain⟨b,o,w,P,B,c⟩:=y.tables.at f;have e1:=bI.slen c.columns;have e2:=bI.slen c.refs;have e3:=bI.slen c.checks;have bad:¬R3 t->mK h K (.val (.int .i64 2)) m h:=λQ=>out h _ (.refl _) (yY λe=>Good.not f Q e.2);refine⟨b,o,P,aD,n,w,.imm B,aF (λR=>bad λe=>?_) (λR=>aF (λS=>bad λe=>?_) (λS=>aF (λI=>bad λe=>?_) (λI=>⟨i+1,⟨aD,Z.succ f ⟨aD,aD,aD⟩⟩,bo,MT⟩)))⟩
  .have:=e.1;omega
  .have:=e.2.1;omega
  .have:=e.2.2;omega
 have C:Fg s:=⟨aD,Z.all aD⟩
 have h8:nY s:=λt H=>by
  obtain⟨j,hj⟩:=mem_iff_getElem?.1 H;exact(C.2 j t hj).1
 have bad:¬MA s->mK h K (.val (.int .i64 70)) m h:=λQ=>out h _ (.refl _) (Qh C Q);refine aF (λR=>bad λe=>?_) (λR=>aF (λS=>bad λe=>?_) (λS=>⟨v,s,rfl,y,λr B=>aC (λI=>bad λe=>?_) (λI=>⟨v,s,rfl,y,B.1 bo,λr2 J=>aC (λT=>bad λe=>?_) (λT=>?_)⟩)⟩))
 .have:=e.1;omega
 .have:=e.2.1;omega
 .rw[B.2 e.2.2.1]at I;cases I
 .rw[J.2 e.2.2.2]at T;cases T
 have ok:MA s:=⟨aD,aD,B.1 bo,J.1 bo⟩
 rw[MP C ok]at out;refine⟨λ⟨i,f⟩=>i<=s.tables.length/\PH.le h f/\∀j<i,∀x∈z7 s j,x=0,λ⟨i,_⟩=>s.tables.length-i,⟨(0,h),⟨aD,.refl _,λj hj=>by omega⟩,MT⟩,?_⟩;rintro⟨i,f⟩ ⟨hi,g,hz⟩;dsimp only;refine aF (λn=>?_) (λO=>out f _ g (Fe _ λe he=>?_))
 .obtain⟨t,H⟩:=dW W n;obtain⟨b,o,w,P,B,c⟩:=(y.mono g).tables.at H;have cl:=bI.slen c.checks;have cb:=bI.len c.checks;refine⟨b,o,P,aD,n,w,.imm B,v,s,i,rfl,y.mono g,h8,λsl h' z D=>?_⟩;refine⟨λ⟨i',k,ks,cs,E⟩=>i'=i/\cs=w.checks/\k<=t.checks.length/\PH.le h' E/\Ints E ks (jR s i)/\∀x∈(z7 s i).take k,x=0,λ⟨_,k,_,_,_⟩=>t.checks.length-k,⟨(i,0,sl,w.checks,h'),⟨rfl,rfl,aD,.refl _,D,λx f=>by simp at f⟩,MT⟩,?_⟩;rintro⟨i,k,ks,_,E⟩ ⟨rfl,rfl,hk,u,d,F⟩;dsimp only;have L:PH.le h E:=(g.trans z).trans u;refine aF (λA=>?_) (λa'=>⟨(i+1,E),⟨aD,L,Wt hz (k:=k) (by rw[Ob H];omega) F⟩,aD,MT⟩);obtain⟨p,U⟩:=dW cl A;obtain⟨b2,o2,pv,V,M,G⟩:=((c.checks.mono z).mono u).at U;refine⟨b2,o2,V,aD,A,pv,.imm M,ks,⟨none,0,0⟩,pv,jR s i,[],p,rfl,d,⟨.nil _ _,bi⟩,G,aC (λh6=>?_) (λh6=>?_)⟩
  .exact out E _ L (OG aD hz F (FP H U) bo)
  .exact⟨(i,k+1,ks,w.checks,E),⟨rfl,rfl,bo,u,d,SH (FP H U) F bo⟩,bo,MT⟩
 .grind
theorem bcZ:cz 61 DA:=by
 refine Hr func61 ?_;rintro a0 m h K ⟨v,s,rfl,C,hK⟩;refine⟨cqX v m h,rfl,aE arQ (aE aqJ (aE Jp (aE Nk aI))),Rj v m h (mK h K),bh,?_⟩;show Rj v m h (mK h K);dsimp only[Rj,push_cast];have Q:=C.tables.slen;have Y:=C.tables.len;have Z:=C.version;have out:∀(c:PH)(x:Int),PH.le h c->eX s=x->mK h K (.val (.int .i64 x)) m c:=λc x n e=>.out (Sub.refl m) n (by rw[<-e];exact hK);refine aF (λh1=>out h _ (.refl _) (yY λe=>by have:=e.1;omega)) (λh1=>?_);refine⟨λi=>i<=s.tables.length/\gG (λ_ t=>R3 t) s.tables i,λi=>s.tables.length-i,⟨0,⟨aD,.zero⟩,MT⟩,λi⟨M,u⟩=>aF (λf=>?_) (λg=>?_)⟩
 .obtain⟨t,c⟩:=dW Q f;obtain⟨b,o,w,S,A,d⟩:=C.tables.at c;have e1:=bI.slen d.columns;have e2:=bI.slen d.refs;have e3:=bI.slen d.checks;have bad:¬R3 t->mK h K (.val (.int .i64 2)) m h:=λT=>out h _ (.refl _) (yY λe=>Good.not c T e.2);refine⟨b,o,S,aD,f,w,.imm A,aF (λU=>bad λe=>?_) (λU=>aF (λV=>bad λe=>?_) (λV=>aF (λB=>bad λe=>?_) (λB=>⟨i+1,⟨aD,u.succ c ⟨aD,aD,aD⟩⟩,bo,MT⟩)))⟩
  .have:=e.1;omega
  .have:=e.2.1;omega
  .have:=e.2.2;omega
 have F:Fg s:=⟨aD,u.all aD⟩
 have h8:nY s:=λt O=>by
  obtain⟨j,hj⟩:=mem_iff_getElem?.1 O;exact(F.2 j t hj).1
 have bad:¬MA s->mK h K (.val (.int .i64 70)) m h:=λT=>out h _ (.refl _) (Qh F T);refine aF (λU=>bad λe=>?_) (λU=>aF (λV=>bad λe=>?_) (λV=>?_))
 .have:=e.1;omega
 .have:=e.2.1;omega
 clear M u g;refine⟨λi=>i<=s.tables.length/\gG FI s.tables i,λi=>s.tables.length-i,⟨0,⟨aD,.zero⟩,MT⟩,λi⟨M,u⟩=>aF (λf=>?_) (λg=>?_)⟩
 .obtain⟨t,c⟩:=dW Q f;refine⟨v,s,t,i,rfl,C,c,λr A=>aC (λB=>bad λe=>?_) (λB=>⟨i+1,⟨aD,u.succ c (A.1 bo)⟩,bo,MT⟩)⟩;rw[A.2 (e.2.2.1 i t c)]at B;cases B
 have D:=u.all aD;clear M u g;refine⟨λi=>i<=s.tables.length/\gG (Hn s.tables) s.tables i,λi=>s.tables.length-i,⟨0,⟨aD,.zero⟩,MT⟩,λi⟨M,u⟩=>aF (λf=>?_) (λg=>?_)⟩
 .obtain⟨t,c⟩:=dW Q f;refine⟨v,s,t,i,rfl,C,D,c,λr A=>aC (λB=>bad λe=>?_) (λB=>⟨i+1,⟨aD,u.succ c (A.1 bo)⟩,bo,MT⟩)⟩;rw[A.2 (e.2.2.2 i t c)]at B;cases B
 have G:=u.all aD;clear M u g;have ok:MA s:=⟨aD,aD,D,G⟩
 rw[MP F ok]at out;refine⟨λ⟨i,c⟩=>i<=s.tables.length/\PH.le h c/\∀j<i,∀x∈z7 s j,x=0,λ⟨i,_⟩=>s.tables.length-i,⟨(0,h),⟨aD,.refl _,λj hj=>by omega⟩,MT⟩,?_⟩;rintro⟨i,c⟩ ⟨M,n,hz⟩;dsimp only;refine aF (λf=>?_) (λg=>out c _ n (Fe _ λe he=>?_))
 .obtain⟨t,O⟩:=dW Q f;obtain⟨b,o,w,S,A,d⟩:=(C.mono n).tables.at O;have cl:=bI.slen d.checks;have cb:=bI.len d.checks;refine⟨b,o,S,aD,f,w.checks,.imm (bU.part A 4 1),?_⟩;refine⟨λ⟨i',k,cs,R⟩=>i'=i/\cs=w.checks/\k<=t.checks.length/\PH.le c R/\∀x∈(z7 s i).take k,x=0,λ⟨_,k,_,_⟩=>t.checks.length-k,⟨(i,0,w.checks,c),⟨rfl,rfl,aD,.refl _,λx c=>by simp at c⟩,MT⟩,?_⟩;rintro⟨i,k,_,R⟩ ⟨rfl,rfl,hk,y,H⟩;dsimp only;have I:PH.le h R:=n.trans y;refine aF (λE=>?_) (λa'=>⟨(i+1,R),⟨aD,I,Wt hz (k:=k) (by rw[Ob O];omega) H⟩,aD,MT⟩);obtain⟨p,W⟩:=dW cl E;obtain⟨b2,o2,pv,X,P,J⟩:=(d.checks.mono y).at W;refine⟨b2,o2,X,aD,E,pv,.imm P,v,s,i,rfl,C.mono I,h8,λsl h' z L=>⟨sl,⟨none,0,0⟩,pv,jR s i,[],p,rfl,L,⟨.nil _ _,bi⟩,J.mono z,aC (λh6=>?_) (λh6=>?_)⟩⟩
  .exact out h' _ (I.trans z) (OG aD hz H (FP O W) bo)
  .exact⟨(i,k+1,w.checks,h'),⟨rfl,rfl,bo,y.trans z,SH (FP O W) H bo⟩,bo,MT⟩
 .grind
mutual
def vS:Query->Int->Int
 |.mk _ _ _ _ _ _ _ _ args,n=>qN args (n+1)
def qN:dl->Int->Int
 |[],n=>n
 |p::ps,n=>if n<=24 then qN ps (vS p n)else n
end
mutual
def vM:Query->Nat->Bool
 |.mk _ _ _ _ _ _ _ _ _,0=>true
 |.mk _ _ _ _ _ _ _ _ args,n+1=>DQ args n
def DQ:dl->Nat->Bool
 |[],_=>false
 |p::ps,n=>vM p n||DQ ps n
end
mutual
theorem KW:∀(p:Query)(n:Int),n<=24->n<vS p n/\vS p n<=25
 |.mk _ _ _ _ _ _ _ _ args,n,h=>by
  have:=JM args (n+1) aD;simp only[vS];omega
theorem JM:∀(ps:dl)(n:Int),n<=25->n<=qN ps n/\qN ps n<=25
 |[],n,h=>by simp only[qN];omega
 |p::ps,n,h=>by
  simp only[qN];split
  .rename_i c;have d:=KW p n c;have e:=JM ps (vS p n) d.2;omega
  .omega
end
theorem Vt ps{n}(h:¬n<=24):qN ps n=n:=by
 cases ps
 .simp[qN]
 .simp only[qN,if_neg h]
theorem Mn(n:Nat):∀ps:dl,DQ ps n=ps.any (vM · n)
 |[]=>by simp[DQ]
 |p::ps=>by simp[DQ,Mn n ps]
theorem cY.args{p}(r:cY h p v):FJ h v.args p.args:=by
 cases p;exact r.parts.args_
def sJ q:=decide (vS q 0<=24)&& !vM q 8
def arity(op:Int):=
 if op==1 then 0 else if op==2||op==3||op==9 then 1 else if op==4||op==5||op==6||op==7||op==8||op==10 then 2 else-1
def Wg(N:Nat):Vc.Spec:=λc m h K=>∃v p k,c=[aQ v,cI k,cI 24]/\cY h p v/\SizeOf.sizeOf p<N/\0<=k/\k<=24/\K (cI (vS p k)) m h
def Sp(N:Nat):Vc.Spec:=λc m h K=>∃v p,∃k:Nat,c=[aQ v,cI k]/\cY h p v/\SizeOf.sizeOf p<N/\k<=100/\K (cB (vM p k)) m h
def aPZ:Vc.Spec:=λc m h K=>∃v p,c=[aQ v]/\cY h p v/\K (cB (sJ p)) m h
def Sr:Vc.Spec:=λc m h K=>∃op,c=[cI op]/\K (cI (arity op)) m h
def DZ(l:db)(n:Int):=decide (0<=n)&&decide (n<l.length)
def InS:Vc.Spec:=λc m h K=>∃s l n,c=[cS s,cI n]/\Ints h s l/\K (cB (DZ l n)) m h
noncomputable def bSX(N:Nat)(v:QV)(m:MH)(h:PH):=
 cZ [(124,Wg N)] [(3,{A:=Nat×Int,st:=λx=>bS 31 34 [(1,iv x.2),(2,iv 24),(3,.at (.ptr 3 0)),(7,iv x.1)] [(3,.cells 41 (v.enc.map .val))] m h})] [] [] false
noncomputable def bSQ(N:Nat)(v:QV)(k:Nat)(m:MH)(h:PH):=
 cZ [(125,Sp N)] [(4,{A:=Nat,st:=λi=>bS 23 25 [(1,iv k),(2,.at (.ptr 2 0)),(10,iv v.args.len),(11,iv i)] [(2,.cells 41 (v.enc.map .val))] m h})] [] [] false
abbrev cV(a:QV):=eQ (qO 41 a.enc)
abbrev yS(a:Prop)(b:Nat)(c:QV)(d e:Prop):=a->aZ (↑b:Int) (aG c.args) d e
noncomputable abbrev gJ(a:QV):=a.args.a
attribute [push_cast] cV yS gJ
def Us(N:Nat)(v:QV)(k:Int)(m:MH)(h:PH)(K:da):=
  ∃(I:Nat×Int->Prop)(e:Nat×Int->Nat),(∃(x:Nat×Int),aA (I x) (dV (kE (k+1)) x.2) (aA (iW 24) cH (aA (bA x.1) (cV v) (aA (m=m) (h=h) True))))/\∀(x:Nat×Int),yS (I x) x.1 v (EI x.2 24 (bF (λb o=>aH (aM (gJ v) b o) (0<=(↑x.1:Int)) ((↑x.1:Int)<aG v.args) (∃(y:QV),aL m h b (bK o x.1 21) y.enc/\uR (λf p=>∃(c:Int),aA (dG y::cA (fI x.2) 24=dG f::cA (fI c) 24) (cY h p f) (aA (rN p N) (cF c) (c<=24/\∃(d:Nat×Int),aA (I d) (e d<e x) (aA (dV (vS p c) d.2) (iW 24) (aA cH (fU (bC x.1 1)=bP d.1) (aA (cV v) (m=m) (bQ h h)))))))))) (K (fI x.2) m h)) (K (fI x.2) m h)
abbrev qY(a:QV):=bG a.args
attribute [push_cast] qY
def Ur(N:Nat)(v:QV)(k:Nat)(m:MH)(h:PH)(K:da):=
  dO (↑k:Int) 0 (K fM m h) (mP (λI x=>aA (I x) (eQ (bP k)) (aA eD (qY v) (aA (bA x) (cV v) (aA (m=m) (h=h) True)))) (λI e x=>yS (I x) x v (bF (λb o=>aH (aM (gJ v) b o) (0<=(↑x:Int)) ((↑x:Int)<aG v.args) (∃(y:QV),aL m h b (bK o x 21) y.enc/\uR (λf p=>∃(c:Nat),aA (cA (dG y) (kE ((↑k:Int)-1))=cA (dG f) (↑c:Int)) (cY h p f) (aA (rN p N) (c<=100) (branch (vM p c) (K fM m h) (∃(d:Nat),aA (I d) (e d<e x) (aA (eQ (bP k)) eD (aA (qY v) (fU (bC x 1)=bP d) (aA (cV v) (m=m) (bQ h h))))))))))) (K bB m h)))
def XT(N:Nat)(v:QV)(m:MH)(h:PH)(K:da):=
  uR (λe p=>∃(k:Int),aA (dG v::cA (fI 0) 24=dG e::cA (fI k) 24) (cY h p e) (aA (rN p N) (cF k) (fT (k<=24) (decide (vS p k<=24)) (uR (λf c=>∃(d:Nat),aA (cA (dG v) 8=cA (dG f) (↑d:Int)) (cY h c f) (aA (rN c N) (d<=100) (K (CV.val (Value.bool (!(vM c d)))) m h)))) (K bB m h))))
def Uq(op:Int)(m:MH)(h:PH)(K:da):=
  cW (op==1) (K (fI 0) m h) (op==2) (K (fI 1) m h) (cW (op==3) (K (fI 1) m h) (op==9) (K (fI 1) m h) (cW (op==4) (K (fI 2) m h) (op==5) (K (fI 2) m h) (cW (op==6) (K (fI 2) m h) (op==7) (K (fI 2) m h) (cW (op==8) (K (fI 2) m h) (op==10) (K (fI 2) m h) (K (fI (Int.negSucc 0)) m h)))))
def TR(s:Sl)(n:Int)(m:MH)(h:PH)(K:da):=
  gQ n 0 (K (yF (decide (n<aG s))) m h) (K bB m h)
theorem YB:∀N,cz 124 (Wg N)
 |0=>by
  refine eG (fn:=Tryz.f124) (c:=dQ Tryz.f124) func124 rfl bj ?_;rintro y m h K ⟨v,p,k,rfl,D,F,_⟩;omega
 |N+1=>by
  refine gW func124 ?_;rintro y m h K ⟨v,p,k,rfl,D,F,J,L,E⟩;refine⟨bSX N v m h,rfl,aE (YB N) aI,Us N v k m h K,bh,?_⟩;dsimp only[Us,push_cast];have d:=D.args;have e:=d.slen;have M:=d.len;refine⟨λx=>x.1<=p.args.length/\0<=x.2/\x.2<=25/\qN (p.args.drop x.1) x.2=vS p k,λx=>p.args.length-x.1,⟨(0,k+1),⟨bi,bn,bn,?_⟩,?_⟩,?_⟩
  .cases p;simp[vS,Query.args]
  .rw[eM aD aD];exact MT
  rintro⟨i,n⟩ ⟨G,f,z,g⟩;dsimp only at G f z g⊢
  refine aF (λj=>aF (λt=>?_) (λt=>B3 E ?_)) (λH=>B3 E ?_)
  .obtain⟨q,A⟩:=dW e j;obtain⟨b,o,u,I,B,C⟩:=d.at A;have O:=KW q n t;rw[drop_cons A,qN,if_pos t]at g;refine⟨b,o,I,aD,j,u,.imm B,u,q,n,rfl,C,?_,f,t,(i+1,vS q n),⟨aD,aD,aD,g⟩,aD,MT⟩;have:=vR (ce A);omega
  .rw[<-g,Vt _ t]
  .rw[<-g,drop_of_length_le aD];simp[qN]
theorem YA:∀N,cz 125 (Sp N)
 |0=>by
  refine eG (fn:=Tryz.f125) (c:=dQ Tryz.f125) func125 rfl bj ?_;rintro j m h K ⟨v,p,k,rfl,z,C,_⟩;omega
 |N+1=>by
  refine gW func125 ?_;rintro j m h K ⟨v,p,k,rfl,z,C,H,g⟩;refine⟨bSQ N v k m h,rfl,aE (YA N) aI,Ur N v k m h K,bh,?_⟩;dsimp only[Ur,push_cast];have d:=z.args;have e:=d.slen;have I:=d.len;refine aC (λA=>kD g ?_) (λA=>?_)
  .have:k=0:=bo
   subst this;cases p;simp[vM]
  .have A:k≠0:=bo
   have n:vM p k=p.args.any (vM · (k-1)):=by
    obtain⟨B,rfl⟩:∃B,k=B+1:=⟨k-1,aD⟩
    cases p;simp[vM,Mn,Query.args]
   rw[n]at g;refine⟨λi=>i<=p.args.length/\(p.args.take i).any (vM · (k-1))=false,λi=>p.args.length-i,⟨0,⟨aD,bi⟩,MT⟩,λi D=>aF (λf=>?_) (λE=>kD g ?_)⟩
   .obtain⟨q,t⟩:=dW e f;obtain⟨b,o,u,F,x,y⟩:=d.at t;refine⟨b,o,F,aD,f,u,.imm x,u,q,k-1,?_,y,?_,aD,aC (λG=>kD g ?_) (λG=>?_)⟩
    .rw[eM aD aD,show((k-1:Nat):Int)=(k:Int)-1 by omega]
    .have:=vR (ce t);omega
    .grind
    .refine⟨i+1,⟨aD,?_⟩,bo,MT⟩;rw[cq,any_append,D.2,t];grind
   grind
theorem bcX:cz 63 aPZ:=by
 refine gW func63 ?_;rintro f m h K ⟨v,p,rfl,d,e⟩;refine⟨cZ [(124,Wg (SizeOf.sizeOf p+1)),(125,Sp (SizeOf.sizeOf p+1))] [] [] [] false,rfl,aE (YB _) (aE (YA _) aI),XT (SizeOf.sizeOf p+1) v m h K,bh,?_⟩;dsimp only[XT,push_cast];refine⟨v,p,0,rfl,d,aD,aD,aD,aC (λc=>⟨v,p,8,rfl,d,aD,aD,kD e ?_⟩) (λc=>kD e ?_)⟩
 .simp only[sJ,c,Bool.true_and]
 .simp only[sJ,c,Bool.false_and]
theorem RE:cz 126 Sr:=by
 refine gW func126 ?_;rintro d m h K ⟨op,rfl,c⟩;refine⟨cZ [] [] [] [] false,rfl,aI,Uq op m h K,bh,?_⟩;dsimp only[Uq,push_cast]
 repeat' (first|(refine aC (λ_=>?_) (λ_=>?_))|(refine B3 c ?_;simp only[arity];simp only[*,Bool.or_false,Bool.false_or,Bool.or_true,Bool.true_or,Bool.and_true,Bool.true_and,Bool.and_false,Bool.false_and,Bool.not_true,Bool.not_false,Bool.false_eq_true,if_true,if_false, ↓reduceIte];done)|(refine B3 c ?_;simp only[arity];grind))
theorem Kd:cz 175 InS:=by
 refine gW func175 ?_;rintro e m h K ⟨s,l,n,rfl,f,d⟩;refine⟨cZ [] [] [] [] false,rfl,aI,TR s n m h K,bh,?_⟩;dsimp only[TR,push_cast];have g:=f.slen;refine aF (λc=>kD d ?_) (λc=>kD d ?_)
 .have c:0<=n:=c;simp only[DZ,g,decide_eq_true c,Bool.true_and]
 .have c:¬0<=n:=by omega
  simp only[DZ,decide_eq_false c,Bool.false_and]
def nH(a b:db)(c:dh)(p:Int×Int):=DZ a p.1=true/\DZ b p.2=true/\a.getD p.1.toNat 0=b.getD p.2.toNat 0/\∀q∈c,q.1≠p.1/\q.2≠p.2
def He(a d:db)(c:Int):=DZ a c=true/\c∉d
def Kr(a:db)(_:di)(o:Int×Bool):=DZ a o.1=true
structure mW(a:db)(group:db)(order:di)(limit:Int):Prop where
 group_:Good (He a) group
 order_:Good (Kr a) order
 len_:order.length<=12
 low:0<=limit
 high:limit<=100
def aRX:Vc.Spec:=λc m h K=>∃s t u on a b,c=[cS s,cS t,cS u]/\gS h s on/\Ints h t a/\Ints h u b/\∀r:Bool,(r=true↔Good (nH a b) on)->K (cB r) m h
def aQJ:Vc.Spec:=λc m h K=>∃v t g o a,c=[aQ v,cS t]/\Ints h v.group g/\jW h v.order o/\Ints h t a/\∀r:Bool,(r=true↔mW a g o v.limit)->K (cB r) m h
noncomputable def bKJ s t u m h:=
 cZ [(175,InS)] [(2,{A:=Nat,st:=λi=>bS 66 69 [(0,sv s),(1,sv t),(2,sv u),(10,sv s),(11,iv s.len),(12,iv i)] [] m h}),
  (7,{A:=Nat×Nat×(Int×Int),st:=λ⟨i,k,p⟩=>bS 66 69 [(0,sv s),(1,sv t),(2,sv u),(7,iv i),(8,.at (.ptr 8 0)),(9,iv k),(10,sv s),(11,iv s.len),(12,iv i)] [(8,.cells 130 [.val (.int .i64 p.1),.val (.int .i64 p.2)])] m h})] [] [] false
noncomputable def bKZ(v:QV)(t:Sl)(m:MH)(h:PH):=
 cZ [(175,InS)] [(2,{A:=Nat,st:=λi=>bS 62 64 [(1,sv t),(2,.at (.ptr 2 0)),(11,sv v.group),(12,iv v.group.len),(13,iv i)] [(2,.cells 41 (v.enc.map .val))] m h}),
  (7,{A:=Nat×Nat×Int,st:=λ⟨i,k,c⟩=>bS 62 64 [(1,sv t),(2,.at (.ptr 2 0)),(5,iv i),(6,iv c),(7,iv k),(11,sv v.group),(12,iv v.group.len),(13,iv i)] [(2,.cells 41 (v.enc.map .val))] m h}),
  (13,{A:=Nat,st:=λi=>bS 62 64 [(1,sv t),(2,.at (.ptr 2 0)),(36,sv v.order),(37,iv v.order.len),(38,iv i)] [(2,.cells 41 (v.enc.map .val))] m h})] [] [] false
abbrev K5(a:Sl)(b:Int)(c:PH)(d:da)(e:MH)(g:Prop):=sP (λx f=>∃(j:Int),aA (cA (cM a) b=cA (cM x) j) (Ints c x f) (branch (!(DZ f j)) (d bB e c) g))
abbrev fP:=eP 8
abbrev Gu a b:=oQ 130 a=oQ 130 b
noncomputable abbrev yM(a:Int×Int):=j9 (mD a.1) (mD a.2)
abbrev CF:=(0:Int)<2
abbrev rW:=cF 1
abbrev CG:=(1:Int)<2
attribute [push_cast] K5 fP Gu yM CF rW CG
def TQ s t u m h K:=
  mP (λI x=>aA (I x) (aJ s) (aA (aJ t) (aJ u) (aA (aJ s) (bG s) (aA (bA x) (m=m) (bQ h h))))) (λI e x=>I x->aZ (↑x:Int) (aG s) (bF (λb o=>aH (aM s.a b o) (0<=(↑x:Int)) ((↑x:Int)<aG s) (∃(y:Int×Int),aH (aL m h b (bK o x 2) (u7 y)) ((0:Int)<=0) ((0:Int)<2) (K5 t y.1 h K m (aA (cF 1) ((1:Int)<2) (K5 u y.2 h K m (aA (cF 0) ((0:Int)<2) (bF (λf g=>aH (aM t.a f g) (0<=y.1) (y.1<aG t) (∃(j:Int),aH (aL m h f (fF g y.1 1) (bM j)) ((0:Int)<=1) ((1:Int)<2) (bF (λn z=>aH (aM u.a n z) (0<=y.2) (y.2<aG u) (∃(A:Int),aL m h n (fF z y.2 1) (bM A)/\dH j A (K bB m h) (∃(I1:Nat×Nat×Int×Int->Prop)(B:Nat×Nat×Int×Int->Nat),(∃(c:Nat×Nat×Int×
 Int),aA (I1 c) (aJ s) (aA (aJ t) (aJ u) (aA (bV x c.1) fP (aA (bA c.2.1) (aJ s) (aA (bG s) (bV x c.1) (aA (Gu (yM y) (yM c.2.2)) (m=m) (bQ h h)))))))/\∀(c:Nat×Nat×Int×Int),I1 c->aZ (↑c.2.1:Int) (↑c.1:Int) (bF (λC D=>aA (aM s.a C D) (cF (↑c.2.1:Int)) (aA ((↑c.2.1:Int)<aG s) (cF 0) (CF/\∃(E:Int),aH (aL m h C (bK D c.2.1 2+0) (bM E)) ((0:Int)<=0) ((0:Int)<2) (dO E c.2.2.1 (K bB m h) (bF (λF G=>aA (aM s.a F G) (cF (↑c.2.1:Int)) (aA ((↑c.2.1:Int)<aG s) rW (CG/\∃(H:Int),aH (aL m h F (bK G c.2.1 2+1) (bM H)) ((0:Int)<=1) ((1:Int)<2) (dO H c.2.2.2 (K bB m h) (∃(d:Nat×Nat×Int×Int),aA (I1 d) (B d<B c) (aA (aJ s)
 (aJ t) (aA (aJ u) (bV c.1 d.1) (aA fP (fU (bC c.2.1 1)=bP d.2.1) (aA (aJ s) (bG s) (aA (bV c.1 d.1) (Gu (yM c.2.2) (yM d.2.2)) (bO (m=m) h h))))))))))))))))) (∃(d:Nat),aA (I d) (e d<e x) (aA (aJ s) (aJ t) (aA (aJ u) (aJ s) (aA (bG s) (fU (bC c.1 1)=bP d) (bO (m=m) h h))))))))))))))))))) (K fM m h))
def TP v t m h K:=
  mP (λI x=>aA (I x) (aJ t) (aA eD (aJ v.group) (aA (bG v.group) (bA x) (aA (cV v) (m=m) (bQ h h))))) (λI f x=>I x->aZ (↑x:Int) (aG v.group) (bF (λb o=>aH (aM v.group.a b o) (0<=(↑x:Int)) ((↑x:Int)<aG v.group) (∃(y:Int),aL m h b (bK o x 1) (bM y)/\K5 t y h K m (∃(I1:Nat×Nat×Int->Prop)(e:Nat×Nat×Int->Nat),(∃(c:Nat×Nat×Int),aA (I1 c) (aJ t) (aA eD (bV x c.1) (aA (dV y c.2.2) (bA c.2.1) (aA (aJ v.group) (bG v.group) (j4 (bV x c.1) (cV v) (m=m) h h)))))/\∀(c:Nat×Nat×Int),I1 c->aZ (↑c.2.1:Int) (↑c.1:Int) (bF (λg j=>aH (aM v.group.a g j) (0<=(↑c.2.1:Int)) ((↑c.2.1:Int)<aG v.group) (∃(n:Int),aL m h g (bK j c.2.1 1) (bM n)/\dO n c.2.2 (K
 bB m h) (∃(d:Nat×Nat×Int),aA (I1 d) (e d<e c) (aA (aJ t) eD (aA (bV c.1 d.1) (dV c.2.2 d.2.2) (aA (fU (bC c.2.1 1)=bP d.2.1) (aJ v.group) (aA (bG v.group) (bV c.1 d.1) (aA (cV v) (m=m) (bQ h h)))))))))) (∃(d:Nat),aA (I d) (f d<f x) (aA (aJ t) eD (aA (aJ v.group) (bG v.group) (aA (fU (bC c.1 1)=bP d) (cV v) (bO (m=m) h h))))))))) (mP (λI1 c=>aA (I1 c) (aJ t) (aA eD (aJ v.order) (aA (bG v.order) (bA c) (aA (cV v) (m=m) (bQ h h))))) (λI1 e c=>I1 c->aZ (↑c:Int) (aG v.order) (bF (λb o=>aH (aM v.order.a b o) (0<=(↑c:Int)) ((↑c:Int)<aG v.order) (∃(y:Int×Bool),aL m h b (bK o c 2) (Az y)/\K5 t y.1 h K m (∃(d:Nat),aA (I1 d) (e d<e c) (aA
 (aJ t) eD (aA (aJ v.order) (bG v.order) (aA (fU (bC c 1)=bP d) (cV v) (bO (m=m) h h)))))))) (EI (aG v.order) 12 (gQ v.limit 0 (K (yF (decide (v.limit<=100))) m h) (K bB m h)) (K bB m h)))))
theorem QS{α}{l:List α}{k x}(c:l[i]? =some x)(d:i<k):x∈l.take k:=mem_of_getElem? (i:=i) bo
theorem WD{α}{l:List α}{x y}(c:l[i]? =some x)(d:y∈l.take (i+1)):y∈l.take i\/y=x:=by
 rw[cq,c,mem_append]at d
 grind
theorem eZ{n}:DZ l n=true↔0<=n/\n<l.length:=by simp[DZ]
theorem ajQ:cz 176 aRX:=by
 refine gW func176 ?_;rintro R m h K ⟨s,t,u,on,a,b,rfl,n,o,x,E⟩;refine⟨bKJ s t u m h,rfl,aE Kd aI,TQ s t u m h K,bh,?_⟩;dsimp only[TQ,push_cast];have S:=n.slen;have F:=n.len;have ta:=o.slen;have ub:=x.slen;refine⟨λi=>i<=on.length/\gG (nH a b) on i,λi=>on.length-i,⟨0,⟨aD,.zero⟩,MT⟩,λi⟨hi,G⟩=>aF (λf=>?_) (λT=>E true ⟨λ_=>G.all aD,λ_=>rfl⟩)⟩;obtain⟨p,y⟩:=dW S f;obtain⟨U,V,W,X⟩:=n.at y;have bad:¬nH a b (on.take i) p->K (.val (.bool false)) m h:=λY=>E false ⟨λe=>(by cases e),λe=>(Good.not y Y e).elim⟩;refine⟨U,V,W,aD,f,p,.imm X,aD,aD,t,a,p.1,rfl,o,aC (λz=>bad λc=>?_) (λz=>⟨aD,aD,u,b,p.2,rfl,x,aC (λA=>bad λc=>?_) (λA=>?_)⟩)⟩
 .rw[c.1]at z;cases z
 .rw[c.2.1]at A;cases A
 have H:DZ a p.1=true:=bo
 have I:DZ b p.2=true:=bo
 have g:=eZ.1 H;have j:=eZ.1 I;obtain⟨Z,o2,e2,r2⟩:=o.inb g.1 g.2;obtain⟨b3,o3,e3,r3⟩:=x.inb j.1 j.2;refine⟨aD,aD,Z,o2,e2,aD,aD,_,.imm r2,aD,aD,b3,o3,e3,aD,aD,_,.imm r3,aC (λB=>bad λc=>?_) (λB=>?_)⟩
 .rw[c.2.2.1]at B;simp at B
 refine⟨λ⟨i',k,p'⟩=>i'=i/\p'=p/\k<=i/\∀q∈on.take k,q.1≠p.1/\q.2≠p.2,λ⟨_,k,_⟩=>i-k,⟨(i,0,p),⟨rfl,rfl,aD,λq d=>by simp at d⟩,MT⟩,?_⟩;rintro⟨i,k,p⟩ ⟨rfl,rfl,hk,C⟩;dsimp only;refine aF (λJ=>?_) (λL=>?_)
 .obtain⟨q,d⟩:∃q,on[k]? =some q:=⟨on[k]'(by omega),cd _⟩
  obtain⟨M,O,P,Q⟩:=n.at d;refine⟨M,O,P,aD,aD,aD,aD,q.1,.imm (bU.part Q 0 1),aD,aD,aC (λh4=>bad λc=>?_) (λh4=>⟨M,O,P,aD,aD,aD,aD,q.2,.imm (bU.part Q 1 1),aD,aD,aC (λh5=>bad λc=>?_) (λh5=>?_)⟩)⟩
  .exact(c.2.2.2 q (QS d aD)).1 bo
  .exact(c.2.2.2 q (QS d aD)).2 bo
  .refine⟨(i,k+1,p),⟨rfl,rfl,bo,λq' D=>?_⟩,bo,MT⟩;rcases WD d D with e|rfl
   .grind
   grind
 .have:k=i:=by omega
  subst this;exact⟨k+1,⟨aD,G.succ y ⟨H,I,bo,C⟩⟩,aD,MT⟩
theorem aiJ:cz 177 aQJ:=by
 refine gW func177 ?_;rintro U m h K ⟨v,t,g,o,a,rfl,B,C,J,L⟩;refine⟨bKZ v t m h,rfl,aE Kd aI,TP v t m h K,bh,?_⟩;dsimp only[TP,push_cast];have V:=B.slen;have M:=B.len;have W:=C.slen;have O:=C.len;have bad:¬mW a g o v.limit->K (.val (.bool false)) m h:=λX=>L false ⟨λe=>(by cases e),λe=>(X e).elim⟩;refine⟨λi=>i<=g.length/\gG (He a) g i,λi=>g.length-i,⟨0,⟨aD,.zero⟩,MT⟩,λi⟨P,u⟩=>aF (λd=>?_) (λx=>?_)⟩
 .obtain⟨c,n⟩:=dW V d;obtain⟨D,E,F,G⟩:=B.at' n;refine⟨D,E,F,aD,d,c,.imm G,t,a,c,rfl,J,aC (λf=>bad λj=>Good.not n (λy=>?_) j.group_) (λf=>?_)⟩
  .rw[y.1]at f;cases f
  refine⟨λ⟨Y,k,Z⟩=>Y=i/\Z=c/\k<=i/\c∉g.take k,λ⟨_,k,_⟩=>i-k,⟨(i,0,c),⟨rfl,rfl,aD,bi⟩,MT⟩,?_⟩;rintro⟨i,k,c⟩ ⟨rfl,rfl,hk,z⟩;dsimp only;refine aF (λQ=>?_) (λR=>?_)
  .obtain⟨q,H⟩:∃q,g[k]? =some q:=⟨g[k]'(by omega),cd _⟩
   obtain⟨b4,o4,e4,r4⟩:=B.at' H;refine⟨b4,o4,e4,aD,aD,q,.imm r4,aC (λS=>bad λj=>Good.not n (λy=>?_) j.group_) (λS=>?_)⟩
   .refine y.2 ?_;have:q=c:=bo
    rw[<-this];exact QS H aD
   .refine⟨(i,k+1,c),⟨rfl,rfl,bo,λI=>?_⟩,bo,MT⟩;rcases WD H I with e|rfl
    .exact z e
    .simp at S
  .have:k=i:=by omega
   subst this;exact⟨k+1,⟨aD,u.succ n ⟨bo,z⟩⟩,aD,MT⟩
 have gg:=u.all aD;clear P u x;refine⟨λi=>i<=o.length/\gG (Kr a) o i,λi=>o.length-i,⟨0,⟨aD,.zero⟩,MT⟩,λi⟨P,A⟩=>aF (λd=>?_) (λx=>?_)⟩
 .obtain⟨c,n⟩:=dW W d;obtain⟨D,E,F,G⟩:=C.at n;refine⟨D,E,F,aD,d,c,.imm G,t,a,c.1,rfl,J,aC (λf=>bad λj=>Good.not n (λy=>?_) j.order_) (λf=>⟨i+1,⟨aD,A.succ n (by simpa[Kr]using f)⟩,bo,MT⟩)⟩;rw[show DZ a c.1=true from y]at f;cases f
 have oo:=A.all aD;refine aF (λf=>aF (λT=>?_) (λT=>bad λj=>?_)) (λf=>bad λj=>?_)
 .refine L (decide (v.limit<=100)) ⟨λe=>⟨gg,oo,aD,T,bx e⟩,λe=>decide_eq_true e.high⟩
 .have:=j.low;omega
 .have:=j.len_;omega
def fN:Pred:=.mk 0 0 fQ fQ []
def dC:Query->Prop
 |.mk op ta w co on gr od li _=>(op=1\/ta=0)/\(op=2\/w=fN)/\(op=3\/co=[])/\(op=4\/op=5\/on=[])/\(op=9\/op=10\/(gr=[]/\od=[]/\li=0))
def mT(l:db):db×Int:=if l.length<=12 then(l,0)else([],2)
def eK(e:Int):db×Int:=([],e)
open Classical in
noncomputable def eV(s:jC)(ps:db)(q:Query)(a b:db):db×Int:=
 if arity (match q with|.mk op .. =>op)<0\/¬dC q then eK 100 else
 match q with
 |.mk op ta w co on gr od li _=>
  if op=1 then(if 0<=ta/\ta<s.tables.length then mT (jR s ta)else eK 100)
  else if op=2 then(if gY a ps w=0 then mT a else eK (gY a ps w))
  else if op=3 then(if co≠[]/\Good (λ_ c=>DZ a c=true) co then mT (co.map λc=>a.getD c.toNat 0)else eK 100)
  else if op=4 then(if Good (nH a b) on then mT (a++b)else eK 100)
  else if op=5 then(if Good (nH a b) on then mT a else eK 100)
  else if op=9 then(if mW a gr od li then mT a else eK 100)
  else if op=10 then(if a=b/\mW a gr od li then mT a else eK 100)
  else(if a=b then mT a else eK 100)
def aPQ:Vc.Spec:=λc m h K=>∃v q,c=[aQ v]/\cY h q v/\∀r:Bool,(r=true↔dC q)->K (cB r) m h
def KR(K:da)(m:MH)(h:PH)(r:db×Int):=∀c h',PH.le h h'->Ints h' c r.1->K (.tup [cS c,cI r.2]) m h'
def cIZ:=λc m h K=>∃sc p v a b s ps q d e,c=[aS sc,cS p,aQ v,cS a,cS b]/\iC h s sc/\nY s/\Ints h p ps/\cY h q v/\Ints h a d/\Ints h b e/\d.length<=12/\e.length<=12/\KR K m h (eV s ps q d e)
noncomputable def bRJ m:=
 cZ [(126,Sr),(174,aPQ),(45,yG),(66,v7),(175,InS),(176,aRX),(177,aQJ),(178,DW)] [(20,{A:=Nat×Sl×Sl×db×PH,st:=λ⟨i,a,co,l,h⟩=>bS 121 126 [(3,sv a),(12,.at (.lst 94)),(78,sv co),(79,iv co.len),(80,iv i)] [(94,.lst 3 1 (l.map eI))] m h})] [] [] false
noncomputable def bLQ(v:QV)(m:MH)(h:PH):=
 c8X [(224,cEJ)] [] [(2,{A:=Bool,st:=λr=>bS 78 79 [(1,.at (.ptr 1 0)),(3,bv r)] [(1,.cells 41 (v.enc.map .val))] m h})] [(2,[(9,{A:=Bool×Bool,st:=λx=>bS 78 79 [(1,.at (.ptr 1 0)),(3,bv x.1),(20,bv x.2)] [(1,.cells 41 (v.enc.map .val))] m h}),
  (11,{A:=Bool×Bool,st:=λx=>bS 78 79 [(1,.at (.ptr 1 0)),(3,bv x.1),(31,bv x.2)] [(1,.cells 41 (v.enc.map .val))] m h}),
  (11,{A:=Bool×Bool,st:=λx=>bS 78 79 [(1,.at (.ptr 1 0)),(3,bv x.1),(42,bv x.2)] [(1,.cells 41 (v.enc.map .val))] m h}),
  (16,{A:=Bool×Bool,st:=λx=>bS 78 79 [(1,.at (.ptr 1 0)),(3,bv x.1),(58,bv x.2)] [(1,.cells 41 (v.enc.map .val))] m h})])] [] false
abbrev kJ a b:=sQb a=sQb b
abbrev Ah a:=kJ true a
abbrev Lz(a:Prop)(b:(Bool×Bool->Prop)->Prop)(c:(Bool×Bool->Prop)->(Bool×Bool)->Prop):=a->∃(x:Bool×Bool->Prop),b x/\∀(d:Bool×Bool),c x d
noncomputable abbrev j5:=lJ rU
abbrev IH(a:Bool×Bool->Prop)(b:Bool×Bool)(c:(Bool×Bool)->Prop)(d:QV)(e:MH)(g:PH):=∃(x:Bool×Bool),aA (a x) eJ (aA (kJ b.1 x.1) (c x) (aH (cV d) (e=e) (g=g) True))
abbrev EZ a:=kJ false a
attribute [push_cast] kJ Ah Lz j5 IH EZ
def TS(v:QV)(m:MH)(h:PH)(K:da):=
  ∃(I:Bool->Prop),dO v.op 9 (∃(x:Bool),aA (I x) eJ (aA (Ah x) (cV v) (bO (m=m) h h))) (∃(x:Bool),aA (I x) eJ (aA (kJ (v.op==10) x) (cV v) (bO (m=m) h h)))/\∀(x:Bool),Lz (I x) (λI1=>dO v.op 1 (∃(e:Bool×Bool),aA (I1 e) eJ (aA (kJ x e.1) (Ah e.2) (aH (cV v) (m=m) (h=h) True))) (∃(e:Bool×Bool),aA (I1 e) eJ (aA (kJ x e.1) (kJ (v.table==0) e.2) (aH (cV v) (m=m) (h=h) True)))) (λI1 e=>Lz (I1 e) (λI2=>branch e.2 (dO v.op 2 (∃(d:Bool×Bool),aA (I2 d) eJ (aA (kJ e.1 d.1) (Ah d.2) (aH (cV v) (m=m) (h=h) True))) (Ly (λg w p q=>aH (aX (AJ v) (qK (aU dD dD (aU dD dD (aU dD dD (aU Sv dD (aU dD dD (aU dD Sv j5)))))))=
 aX (fL g) (fL w)) (fJ h p g) (fJ h q w) (∀(r:Bool),gU r (p=q)->IH I2 e (λd=>kJ r d.2) v m h)))) (∃(d:Bool×Bool),aA (I2 d) eJ (aA (kJ e.1 d.1) (EZ d.2) (aH (cV v) (m=m) (h=h) True)))) (λI2 d=>Lz (I2 d) (λI3=>branch d.2 (dO v.op 3 (∃(c:Bool×Bool),aA (I3 c) eJ (aA (kJ d.1 c.1) (Ah c.2) (aH (cV v) (m=m) (h=h) True))) (IH I3 d (λc=>kJ (aG v.columns==0) c.2) v m h)) (∃(c:Bool×Bool),aA (I3 c) eJ (aA (kJ d.1 c.1) (EZ c.2) (aH (cV v) (m=m) (h=h) True)))) (λI3 c=>Lz (I3 c) (λI4=>branch c.2 (cW (v.op==4) (IH I4 c (λf=>Ah f.2) v m h) (v.op==5) (IH I4 c (λf=>Ah f.2) v m h) (IH I4 c (λf=>kJ (aG v.on==0) f.2) v m h)) (∃
 (f:Bool×Bool),aA (I4 f) eJ (aA (kJ c.1 f.1) (EZ f.2) (aH (cV v) (m=m) (h=h) True)))) (λI4 f=>iB (I4 f) f.2 (cW f.1 (K fM m h) (aG v.group==0) (dO (aG v.order) 0 (K (yF (v.limit==0)) m h) (K bB m h)) (K bB m h)) (K bB m h)))))
abbrev vI a b c:=kQ a=kQ b/\c
abbrev cJ(a:da)(b:Int)(c:MH)(d:PH):=a (CV.tup (cA Dn b)) c d
noncomputable abbrev iQ a:=pN (dG a)
abbrev y9(a:List dc)(b:Nat):=iK (a.length*b)
abbrev zA(a:List dc):=iK a.length
abbrev iP(a:da)(b:Sl)(c:Int)(d:Nat->Option Obj)(e:PH):=a (CV.tup (cA (cM b) c)) d e
noncomputable abbrev mG(a:List dc):=(↑a.length:Int)
noncomputable abbrev Bx(a:Nat×Sl×Sl×db×PH):=a.2.2.1
noncomputable abbrev By(a:Nat×Sl×Sl×db×PH):=a.2.2.2.2
abbrev AD(a:Sl->dh->Prop):=∃(x:Sl)(c:dh),a x c
abbrev tJ(a b:List dc)(c:Nat):=iK (mO a b.length*c)
abbrev oL(a b:List dc):=iK (mO a b.length)
abbrev QH(a:Sl->db->di->Prop):=sP (λx c=>∃(d:di),a x c d)
attribute [push_cast] vI cJ iQ y9 zA iP mG Bx By AD tJ oL QH
def NH sc p v a b m h K:=
  ∃(o:Int),vI v.op o (aZ (arity o) 0 (cJ K 100 m h) (uR (λE q=>aA (iQ v=iQ E) (cY h q E) (∀(r:Bool),iB (gU r (dC q)) (!r) (cJ K 100 m h) (∃(y:List dc),aA (eU 1 y) (cO h (Sl.mk a.a a.len a.cap) 1 y) (aA (y9 y 8) (zA y) (cW (v.op==1) (aZ v.table 0 (cJ K 100 m h) (gQ v.table (kI sc) (cJ K 100 m h) (CK (cA (cL sc) v.table) h (λs d=>fX (aG s) 12 (cJ K 2 m d) (iP K s 0 m d))))) (v.op==2) (Gf (cM a::aX (cM p) (AJ v)) h (λc F G=>qE (gY c F G !=0) (cJ K (gY c F G) m h) (mG y) 12 (cJ K 2 m h) (bN h 1 y (λs d=>iP K s 0 m d)))) (cW (v.op==3) (dO (aG v.columns) 0 (cJ K 100 m h) (∃(I:Nat×Sl×Sl×db×PH->Prop)(H:Nat×Sl×Sl×db×PH->
 Nat),(∃(x:Nat×Sl×Sl×db×PH),aA (I x) (aY a x.2.1) (aA (eL 94) (aY v.columns (Bx x)) (aA (bZ v.columns (Bx x)) (bA x.1) (aA (tN x.2.2.2.1) (m=m) (bQ h (By x))))))/\∀(x:Nat×Sl×Sl×db×PH),I x->aZ (↑x.1:Int) (aG (Bx x)) (bF (λz f=>aH (aM (Bx x).a z f) (0<=(↑x.1:Int)) ((↑x.1:Int)<aG (Bx x)) (∃(e:Int),aL m (By x) z (bK f x.1 1) (bM e)/\sP (λs l=>∃(n:Int),aA (cA (cM x.2.1) e=cA (cM s) n) (Ints (By x) s l) (branch (!(DZ l n)) (cJ K 100 m (By x)) (bF (λJ L=>aH (aM x.2.1.a J L) (0<=e) (e<aG x.2.1) (∃(M:Int),aH (aL m (By x) J (fF L e 1) (bM M)) (iK (mO (fS x.2.2.2.1) 1*8)) (mR (fS x.2.2.2.1)) (∃(C:Nat×Sl×Sl×db×
 PH),aA (I C) (H C<H x) (aA (aY x.2.1 C.2.1) (eL 94) (aA (aY (Bx x) (Bx C)) (bZ (Bx x) (Bx C)) (aA (fU (bC x.1 1)=bP C.1) (uZ x.2.2.2.1 M C.2.2.2.1) (bO (m=m) (By x) (By C)))))))))))))) (fX (mG (fS x.2.2.2.1)) 12 (cJ K 2 m (By x)) (bN (By x) 1 (fS x.2.2.2.1) (λs d=>iP K s 0 m d))))) (v.op==4) (gL (λs t=>AD (λu f=>tC (λA z=>aA (cM v.on::aX (cM a) (cM b)=cM s::aX (cM t) (cM u)) (gS h s f) (aA (Ints h t A) (Ints h u z) (∀(j:Bool),gU j (Good (nH A z) f)->cW (!j) (cJ K 100 m h) (v.op==4) (∃(e:List dc),aA (eU 1 e) (cO h (Sl.mk b.a b.len b.cap) 1 e) (aA (tJ y e 8) (oL y e) (fX (mG (y++e)) 12 (cJ K 2 m h) (bN h 1 (y++e) (λD d
 =>iP K D 0 m d))))) (fX (mG y) 12 (cJ K 2 m h) (bN h 1 y (λD d=>iP K D 0 m d))))))))) (cW (v.op==5) (gL (λs t=>AD (λu f=>tC (λA z=>aA (cM v.on::aX (cM a) (cM b)=cM s::aX (cM t) (cM u)) (gS h s f) (aA (Ints h t A) (Ints h u z) (∀(j:Bool),gU j (Good (nH A z) f)->cW (!j) (cJ K 100 m h) (v.op==4) (∃(e:List dc),aA (eU 1 e) (cO h (Sl.mk b.a b.len b.cap) 1 e) (aA (tJ y e 8) (oL y e) (fX (mG (y++e)) 12 (cJ K 2 m h) (bN h 1 (y++e) (λD d=>iP K D 0 m d))))) (fX (mG y) 12 (cJ K 2 m h) (bN h 1 y (λD d=>iP K D 0 m d))))))))) (v.op==9) (∃(B:QV),QH (λt g f=>∃(A:db),aA (jJ (dG v) a=jJ (dG B) t) (Ints h B.group g) (aA (jW h B.order
 f) (Ints h t A) (∀(j:Bool),gU j (mW A g f B.limit)->qE (!j) (cJ K 100 m h) (mG y) 12 (cJ K 2 m h) (bN h 1 y (λs d=>iP K s 0 m d)))))) (Bs a b h (λA z j=>gU j (A=z)->cW (!j) (cJ K 100 m h) (v.op==10) (∃(B:QV),QH (λt g f=>∃(O:db),aA (jJ (dG v) a=jJ (dG B) t) (Ints h B.group g) (aA (jW h B.order f) (Ints h t O) (∀(P:Bool),gU P (mW O g f B.limit)->qE (!P) (cJ K 100 m h) (mG y) 12 (cJ K 2 m h) (bN h 1 y (λs d=>iP K s 0 m d)))))) (fX (mG y) 12 (cJ K 2 m h) (bN h 1 y (λs d=>iP K s 0 m d))))))))))))))
theorem Ft{α n}{l:List α}(h:n=l.length):((n:Int)==0)=true↔l=[]:=by
 rw[beq_iff_eq,h, <-length_eq_zero_iff];omega
theorem FX h:fJ h fN ⟨0,0,fQ,fQ,⟨none,0,0⟩⟩:=fJ.mk (v:=⟨0,0,fQ,fQ,⟨none,0,0⟩⟩) (.nil _ _ _ _)
theorem ajX:cz 174 aPQ:=by
 refine gW func174 ?_;rintro o m h K ⟨v,q,rfl,t,g⟩;refine⟨bLQ v m h,rfl,aE aaZ aI,TS v m h K,bh,?_⟩;dsimp only[TS,push_cast];obtain⟨op,ta,w,co,on,gr,od,li,args⟩:=q;have a:=t.parts;have u:=a.op_;have y:=a.table_;have z:=a.limit_;have D:=Ft a.columns_.slen;have E:=Ft a.on_.slen;have F:=Ft a.group_.slen;have G:=Ft a.order_.slen;simp only[dC]at g;subst u y z;refine⟨λr=>(r=true↔v.op=9\/v.op=10),aC (λd=>⟨true,bo,MT⟩) (λd=>⟨_,?_,MT⟩),λr j=>?_⟩
 .grind
 refine⟨λx=>x.1=r/\(x.2=true↔(v.op=1\/v.table=0)),aC (λd=>⟨(r,true),⟨rfl,bo⟩,MT⟩) (λd=>⟨(r,_),⟨rfl,?_⟩,MT⟩),?_⟩
 .grind
 rintro⟨r,c⟩ ⟨rfl,e⟩;dsimp only at e j⊢
 refine⟨λx=>x.1=r/\(x.2=true↔(v.op=1\/v.table=0)/\(v.op=2\/w=fN)),aC (λd=>aC (λf=>⟨(r,true),⟨rfl,⟨λ_=>⟨e.1 d,.inl bo⟩,λ_=>rfl⟩⟩,MT⟩) (λf=>⟨v.where_,⟨0,0,fQ,fQ,⟨none,0,0⟩⟩,w,fN,rfl,a.where_,FX h,λA B=>⟨(r,A),⟨rfl,?_⟩,MT⟩⟩)) (λd=>⟨(r,false),⟨rfl,?_⟩,MT⟩),?_⟩
 .grind
 .grind
 clear e c;rintro⟨r,c⟩ ⟨rfl,e⟩;dsimp only at e j⊢
 refine⟨λx=>x.1=r/\(x.2=true↔(v.op=1\/v.table=0)/\(v.op=2\/w=fN)/\(v.op=3\/co=[])),aC (λd=>aC (λf=>⟨(r,true),⟨rfl,⟨λ_=>⟨(e.1 d).1,(e.1 d).2,.inl bo⟩,λ_=>rfl⟩⟩,MT⟩) (λf=>⟨(r,_),⟨rfl,?_⟩,MT⟩)) (λd=>⟨(r,false),⟨rfl,?_⟩,MT⟩),?_⟩
 .grind
 .grind
 clear e c;rintro⟨r,c⟩ ⟨rfl,e⟩;dsimp only at e j⊢
 refine⟨λx=>x.1=r/\(x.2=true↔(v.op=1\/v.table=0)/\(v.op=2\/w=fN)/\(v.op=3\/co=[])/\(v.op=4\/v.op=5\/on=[])),aC (λd=>aC (λf=>⟨(r,true),⟨rfl,⟨λ_=>⟨(e.1 d).1,(e.1 d).2.1,(e.1 d).2.2,.inl bo⟩,λ_=>rfl⟩⟩,MT⟩) (λf=>aC (λn=>⟨(r,true),⟨rfl,⟨λ_=>⟨(e.1 d).1,(e.1 d).2.1,(e.1 d).2.2,.inr (.inl bo)⟩,λ_=>rfl⟩⟩,MT⟩) (λn=>⟨(r,_),⟨rfl,?_⟩,MT⟩))) (λd=>⟨(r,false),⟨rfl,?_⟩,MT⟩),?_⟩
 .grind
 .grind
 clear e c;rintro⟨r,c⟩ ⟨rfl,e⟩;dsimp only at e j⊢
 refine aC (λd=>aC (λf=>g true ⟨λ_=>?_,λ_=>rfl⟩) (λf=>aC (λn=>aC (λC=>g _ ?_) (λC=>g false ?_)) (λn=>g false ?_))) (λd=>g false ?_)
 .grind
 .grind
 .grind
 .grind
 .grind
theorem qM(l:db):eU 1 (l.map eI):=by
 constructor
 .intro e c;obtain⟨x,_,rfl⟩:=mem_map.1 c;rfl
 .intro e c u d;obtain⟨x,_,rfl⟩:=mem_map.1 c;simp[eI]at d;subst d;rfl
theorem KR.err{r e}(d:KR K m h r)(c:PH.le h h')(f:r=eK e):K (.tup [.val (.slice none 0 0),.val (.int .i64 e)]) m h':=by
 subst f;exact d ⟨none,0,0⟩ h' c ⟨.nil _ _,by simp[eK]⟩
theorem KR.big{r}(d:KR K m h r)(c:PH.le h h')(e:r=mT l)(f:12<l.length):K (.tup [.val (.slice none 0 0),.val (.int .i64 2)]) m h':=
 d.err c (by rw[e,mT,if_neg aD];rfl)
theorem KR.ok{r sl}(d:KR K m h r)(c:PH.le h h')(e:r=mT l)(f:l.length<=12)(g:cO h' sl 1 (l.map eI)):K (.tup [.val (.slice sl.a sl.len sl.cap),.val (.int .i64 0)]) m h':=by
 rw[e,mT,if_pos f]at d;exact d sl h' c ⟨g,bo⟩
theorem cBX{p a:Sl}{b q n C}(W:iC h s sc)(h8:nY s)(hp:Ints h p ps)(X:cY h q v)(B:Ints h a n)(L:Ints h b C)(Y:n.length<=12)(Z:C.length<=12)(d:KR K m h (eV s ps q n C)):NH sc p v a b m h K:=by
 dsimp only[NH,push_cast];have O:=X;obtain⟨op,ta,w,co,on,gr,od,li,args⟩:=q;have x:=X.parts;have e0:=x.op_;have e1:=x.table_;have e2:=x.limit_;have a0:=W.tables.slen;have a1:=B.slen;have H:=x.columns_.slen;have P:=x.columns_.len;subst e0 e1 e2;refine⟨v.op,rfl,aF (λQ=>d.err (.refl _) ?_) (λQ=>⟨v,_,rfl,O,λr z=>aC (λh2=>d.err (.refl _) ?_) (λh2=>?_)⟩)⟩
 .unfold eV;rw[if_pos (.inl Q)]
 .unfold eV;rw[if_pos (.inr λe=>bo)]
 have hu:dC (.mk v.op v.table w co on gr od v.limit args):=z.1 bo;unfold eV at d;rw[if_neg (λe=>e.elim Q (λe=>e hu))]at d;dsimp only at d;clear z h2;refine⟨n.map eI,qM _,B.row,bn,bn,aC (λo=>?_) (λo=>aC (λy=>?_) (λy=>aC (λA=>?_) (λA=>aC (λD=>?_) (λD=>aC (λE=>?_) (λE=>aC (λI=>?_) (λI=>?_))))))⟩
 .rw[beq_iff_eq]at o;rw[if_pos o]at d;refine aF (λu=>d.err (.refl _) (if_neg aD)) (λu=>aF (λt=>d.err (.refl _) (if_neg aD)) (λt=>⟨sc,s,v.table,rfl,W,h8,λF h' f j=>?_⟩));rw[if_pos aD]at d;have:=j.slen;exact aF (λg=>d.big f rfl aD) (λg=>d.ok f rfl aD j.row)
 .rw[beq_eq_false_iff_ne]at o;rw[beq_iff_eq]at y;rw[if_neg o,if_pos y]at d;refine⟨a,p,v.where_,n,ps,w,rfl,B,hp,x.where_,aC (λu=>d.err (.refl _) (if_neg bo)) (λu=>?_)⟩;rw[if_pos bo]at d;exact aF (λg=>d.big (.refl _) rfl bo) (λg F h' f j=>d.ok f rfl aD j)
 .rw[beq_eq_false_iff_ne]at o y;rw[beq_iff_eq]at A;rw[if_neg o,if_neg y,if_pos A]at d;refine aC (λu=>d.err (.refl _) (if_neg λe=>e.1 ((Ft H).1 u))) (λu=>?_);have R:co≠[]:=λe=>bo
  refine⟨λ⟨i,a',S,l,hx⟩=>a'=a/\S=v.columns/\hx=h/\i<=co.length/\l=(co.take i).map (λc=>n.getD c.toNat 0)/\gG (λ_ c=>DZ n c=true) co i,λ⟨i,_,_,_,_⟩=>co.length-i,⟨(0,a,v.columns,[],h),⟨rfl,rfl,rfl,aD,bi,.zero⟩,MT⟩,?_⟩;rintro⟨i,a,_,l,h⟩ ⟨rfl,rfl,rfl,j,rfl,hg⟩;dsimp only;refine aF (λJ=>?_) (λa2=>?_)
  .obtain⟨c,M⟩:=dW H J;obtain⟨b1,o1,T,r1⟩:=x.columns_.at' M;refine⟨b1,o1,T,aD,J,c,.imm r1,a,n,c,rfl,B,aC (λt=>d.err (.refl _) (if_neg λe=>?_)) (λt=>?_)⟩
   .have:=e.2 i c M;grind
   have t:DZ n c=true:=bo
   have g:=eZ.1 t;obtain⟨b2,o2,U,r2⟩:=B.inb g.1 g.2;refine⟨b2,o2,U,aD,aD,_,.imm r2,?_,?_,(i+1,a,v.columns,(co.take (i+1)).map (λc=>n.getD c.toNat 0),h),⟨rfl,rfl,rfl,aD,rfl,hg.succ M t⟩,aD,?_⟩
   .simp;omega
   .simp;omega
   .rw[jK M,cj];exact MT
  .rw[if_pos ⟨R,hg.all aD⟩]at d;rw[ci aD];exact aF (λg=>d.big (.refl _) rfl bo) (λg F h' f j=>d.ok f rfl bo j)
 .rw[beq_eq_false_iff_ne]at o y A;have G:=beq_iff_eq.1 D;rw[if_neg o,if_neg y,if_neg A,if_pos G]at d;refine⟨v.on,a,b,on,n,C,rfl,x.on_,B,L,λr z=>aC (λu=>d.err (.refl _) (if_neg λe=>?_)) (λu=>aC (λ_=>⟨C.map eI,qM _,L.row,bn,bn,?_⟩) (λt=>?_))⟩
  .grind
  .rw[if_pos (z.1 bo)]at d;rw[<-cj];exact aF (λg=>d.big (.refl _) rfl bo) (λg F h' f j=>d.ok f rfl bo j)
  grind
 .rw[beq_eq_false_iff_ne]at o y A;have G:=beq_eq_false_iff_ne.1 D;rw[beq_iff_eq]at E;rw[if_neg o,if_neg y,if_neg A,if_neg G,if_pos E]at d;refine⟨v.on,a,b,on,n,C,rfl,x.on_,B,L,λr z=>aC (λu=>d.err (.refl _) (if_neg λe=>?_)) (λu=>aC (λt=>?_) (λt=>?_))⟩
  .grind
  .grind
  .rw[if_pos (z.1 bo)]at d;exact aF (λg=>d.big (.refl _) rfl bo) (λg F h' f j=>d.ok f rfl aD j)
 .rw[beq_eq_false_iff_ne]at o y A D E;rw[beq_iff_eq]at I;rw[if_neg o,if_neg y,if_neg A,if_neg D,if_neg E,if_pos I]at d;refine⟨v,a,gr,od,n,rfl,x.group_,x.order_,B,λr z=>aC (λu=>d.err (.refl _) (if_neg λe=>?_)) (λu=>?_)⟩
  .grind
  rw[if_pos (z.1 bo)]at d;exact aF (λg=>d.big (.refl _) rfl bo) (λg F h' f j=>d.ok f rfl aD j)
 .rw[beq_eq_false_iff_ne]at o y A D E I;rw[if_neg o,if_neg y,if_neg A,if_neg D,if_neg E,if_neg I]at d;refine⟨a,b,n,C,rfl,B,L,λr z=>aC (λu=>d.err (.refl _) ?_) (λu=>aC (λt=>⟨v,a,gr,od,n,rfl,x.group_,x.order_,B,λr2 V=>aC (λd4=>d.err (.refl _) ?_) (λd4=>?_)⟩) (λt=>?_))⟩
  .grind
  .grind
  .rw[beq_iff_eq]at t;rw[if_pos t,if_pos ⟨z.1 bo,V.1 bo⟩]at d;exact aF (λg=>d.big (.refl _) rfl bo) (λg F h' f j=>d.ok f rfl aD j)
  .rw[beq_eq_false_iff_ne]at t;rw[if_neg t,if_pos (z.1 bo)]at d;exact aF (λg=>d.big (.refl _) rfl bo) (λg F h' f j=>d.ok f rfl aD j)
theorem aqZ:cz 127 cIZ:=by
 refine gW func127 ?_;rintro c m h K ⟨sc,p,v,a,b,s,ps,q,x,y,rfl,d,e,f,g,j,n,o,t,u⟩;refine⟨bRJ m,rfl,aE RE (aE ajX (aE Jp (aE Nk (aE Kd (aE ajQ (aE aiJ (aE aiZ aI))))))),NH sc p v a b m h K,bh,?_⟩;exact cBX d e f g j n o t u
mutual
noncomputable def aK(s:jC)(ps:db):Query->db×Int
 |.mk op ta w co on gr od li args=>
  match fH s ps args with
  |(ks,e)=>if e=0 then(if(ks.length:Int)=arity op then eV s ps (.mk op ta w co on gr od li args) (ks.getD 0 []) (ks.getD 1 [])else eK 100)else eK e
noncomputable def fH(s:jC)(ps:db):dl->List db×Int
 |[]=>([],0)
 |q::qs=>
  match aK s ps q with
  |(k,e)=>if e=0 then(match fH s ps qs with|(ks,c)=>if c=0 then(k::ks,0)else([],c))else([],e)
end
theorem vX{s:jC}{ps:db}:∀{c:dl}{ks:List db},c.map (aK s ps)=ks.map (λk=>(k,0))->fH s ps c=(ks,0)
 |[],[],_=>by simp[fH]
 |q::c,k::ks,h=>by
  simp only[map_cons,List.cons.injEq]at h;simp only[fH,h.1,vX h.2,if_true]
 |[],_::_,h=>by simp at h
 |_::_,[],h=>by simp at h
theorem HV{s:jC}{ps:db}{e:Int}(d:e≠0):∀{c:dl}{ks:List db}{i:Nat}{q:Query},(c.take i).map (aK s ps)=ks.map (λk=>(k,0))->c[i]? =some q->(aK s ps q).2=e->fH s ps c=([],e)
 |[],_,_,_,_,h,_=>by simp at h
 |q::c,_,0,g,_,h,f=>by
  simp at h;subst h;simp only[fH,f,if_neg d]
 |q::c,[],i+1,_,h,_,_=>by simp at h
 |q::c,k::ks,i+1,g,h,j,f=>by
  simp only[take_succ_cons,map_cons,List.cons.injEq]at h;have:=HV d h.2 bo f;simp only[fH,h.1,this,if_true,if_neg d]
theorem bAQ l:(mT l).1.length<=12:=by unfold mT;grind
theorem a1Z s ps q a b:(eV s ps q a b).1.length<=12:=by
 obtain⟨op,ta,w,co,on,gr,od,li,args⟩:=q;unfold eV;dsimp only
 repeat' split
 all_goals first|exact bAQ _|(simp[eK];done)
theorem jB s ps q:(aK s ps q).1.length<=12:=by
 obtain⟨op,ta,w,co,on,gr,od,li,args⟩:=q;simp only[aK]
 repeat' split
 all_goals first|exact a1Z .. |simp[eK]
noncomputable def fG s ps q:=
 if eX s=0 then(if ps.all gI=true then(if sJ q=true then aK s ps q else eK 2)else eK 1)else eK (eX s)
def Slices(h:PH)(c:dg)(ks:List db):=c.length=ks.length/\∀(j:Nat) s k,c[j]? =some s->ks[j]? =some k->Ints h s k
theorem Slices.mono{c}(x:Slices h c ks)(le:PH.le h h'):Slices h' c ks:=⟨x.1,λj s k d e=>(x.2 j s k d e).mono le⟩
theorem Slices.snoc{c s k}(x:Slices h c ks)(o:Ints h s k):Slices h (c++[s]) (ks++[k]):=by
 refine⟨by simp[x.1],λj g n d e=>?_⟩;by_cases f:j<c.length
 .rw[getElem?_append_left f]at d;rw[getElem?_append_left (by rw[<-x.1];exact f)]at e;exact x.2 j g n d e
 .rw[getElem?_append_right aD]at d;rw[getElem?_append_right (by have:=x.1;omega), <-x.1]at e
  grind
def Hd N:=λc m h K=>∃sc p v s ps q,c=[aS sc,cS p,aQ v]/\iC h s sc/\nY s/\Ints h p ps/\cY h q v/\SizeOf.sizeOf q<N/\KR K m h (aK s ps q)
def OS:=λc m h K=>∃sc p v s ps q,c=[aS sc,cS p,aQ v]/\iC h s sc/\Ints h p ps/\cY h q v/\KR K m h (fG s ps q)
noncomputable def cpJ(N:Nat)(sc:cK)(p:Sl)(v:QV)(m:MH):=
 cZ [(64,Hd N),(126,Sr),(127,cIZ)] [(3,{A:=Nat×dg×PH,st:=λ⟨i,c,h⟩=>bS 58 61 [(1,sv p),(3,.at (.ptr 3 0)),(5,.at (.ptr 5 0)),(8,.at (.lst 35)),(14,iv v.args.len),(15,iv i)] [(3,.cells 27 (sc.enc.map .val)),(5,.cells 41 (v.enc.map .val)),(35,.lst 36 1 (c.map eS))] m h})] [] [] false
abbrev Ja(a:(Nat×dg×PH->Prop)->(Nat×dg×PH)->Prop)(b:(Nat×dg×PH->Prop)->(Nat×dg×PH->Nat)->(Nat×dg×PH)->Prop):=∃(x:Nat×dg×PH->Prop)(d:Nat×dg×PH->Nat),(∃(c:Nat×dg×PH),a x c)/\∀(c:Nat×dg×PH),b x d c
noncomputable abbrev j7(a:Nat×dg×PH):=a.2.1
noncomputable abbrev jH(a:Nat×dg×PH):=a.2.2
abbrev Cn(a:Sl->QV->Prop):=∃(x:Sl)(c:QV),a x c
abbrev Cp(a:jC->db->Prop):=∃(x:jC)(c:db),a x c
abbrev La(a:cK)(b:Sl)(c:QV)(d:PH)(e:Nat)(g:jC->db->Query->Sl->PH->Prop):=∃(x:cK),Cn (λt u=>Cp (λf n=>∃(j:Query),aA (cL a::aX (cM b) (dG c)=cL x::aX (cM t) (dG u)) (iC d f x) (aA (nY f) (Ints d t n) (aA (cY d j u) (rN j e) (fB (λy o=>bY d o (Ints o y (aK f n j).1) (g f n j y o)))))))
noncomputable abbrev zF a:=(List.map eS a).length
abbrev uP a b:=iK ((zF a+b)*24)
abbrev Cj a:=zF a<140737488355328
noncomputable abbrev vU a b:=List.map eS a++b
noncomputable abbrev vV a:=lI (bH a)
noncomputable abbrev wT a:=(↑(zF a):Int)
noncomputable abbrev sN a b:=a::lI b
noncomputable abbrev LA a:=vU (j7 a) (sN j5 j5)
abbrev CI a b:=List.take 1 (List.drop 0 a)=bH b
abbrev IK(a:db):=a.length<=12
attribute [push_cast] Ja j7 jH Cn Cp La zF uP Cj vU vV wT sN LA CI IK
def XS N sc p v m h K:=
  Ja (λI x=>aA (I x) (aJ p) (aA cH dU (aA (eL 35) (qY v) (aA (bA x.1) (cT sc) (j4 (cV v) (oH 36 1 (bW 36 1 (List.map eS (j7 x)))) (m=m) h (jH x)))))) (λI t x=>yS (I x) x.1 v (bF (λb o=>aH (aM (gJ v) b o) (0<=(↑x.1:Int)) ((↑x.1:Int)<aG v.args) (∃(y:QV),aL m (jH x) b (bK o x.1 21) y.enc/\La sc p y (jH x) N (λs f q c d=>dH (aK s f q).2 0 (K (CV.tup (aX Dn (CV.val (eH (aK s f q).2)))) m d) (aA (uP (j7 x) 1) (Cj (j7 x)) (∃(g:Nat×dg×PH),aA (I g) (t g<t x) (aA (aJ p) cH (aA dU (eL 35) (aA (qY v) (fU (bC x.1 1)=bP g.1) (aA (cT sc) (cV v) (aA (bW 36 1 (vU (j7 x) (vV c))=bW 36 1 (List.map eS (j7 g))) (m=m) (bQ d (jH
 g))))))))))))) (∃(o:Int),fT (kQ v.op=kQ o) (wT (j7 x) !=arity o) (cJ K 100 m (jH x)) (aA (uP (j7 x) 2) (iK (zF (j7 x)+2)) (aA (cF 0) (0<mG (LA x)) (∃(e:dc),(LA x)[0]? =Option.some e/\∃(y:Sl),aH (CI e y) ((0:Int)<=1) (1<mG (LA x)) (∃(u:dc),(LA x)[1]? =Option.some u/\∃(z:Sl),CI u z/\∃(s:cK),Cn (λf A=>gL (λa b=>Cp (λc n=>∃(q:Query),tC (λl j=>aA (cL sc::cM p::dG v::aX (cM y) (cM z)=cL s::cM f::dG A::aX (cM a) (cM b)) (iC (jH x) c s) (aA (nY c) (Ints (jH x) f n) (aA (cY (jH x) q A) (Ints (jH x) a l) (aA (Ints (jH x) b j) (IK l) (IK j/\fB (λB d=>bY (jH x) d (Ints d B
 (eV c n q l j).1) (K (CV.tup (aX (cM B) (CV.val (eH (eV c n q l j).2)))) m d))))))))))))))))
abbrev Lg(a:cK)(b:PH)(c:jC->Prop):=uS (λx d=>aA (pN (cL a)=pN (cL x)) (iC b d x) (c d))
attribute [push_cast] Lg
def Yc N sc p v m h K:=
  Lg sc h (λs=>dH (eX s) 0 (cJ K (eX s) m h) (sP (λc l=>aA (gK p=gK c) (Ints h c l) (branch (!(Kb l)) (cJ K 1 m h) (uR (λd e=>aA (iQ v=iQ d) (cY h e d) (branch (!(sJ e)) (cJ K 2 m h) (La sc p v h N (λf g q j n=>K (CV.tup (aX (cM j) (CV.val (eH (aK f g q).2)))) m n)))))))))
theorem Na{c:dl}(h:c.map (aK s ps)=ks.map (λk=>(k,0))) j:(ks.getD j []).length<=12:=by
 rw[getD_eq_getElem?_getD];cases e:ks[j]? with
 |none=>simp
 |some k=>
  have d:(c.map (aK s ps))[j]? =some (k,0):=bo
  rw[getElem?_map,Option.map_eq_some_iff]at d;obtain⟨q,_,f⟩:=d;have:=jB s ps q
  grind
theorem Slices.pick{c}(x:Slices h c ks) j(f:j<c.length+2):∃y:Sl,(c.map eS++[[.slice none 0 0],[.slice none 0 0]])[j]? =some [.slice y.a y.len y.cap]/\Ints h y (ks.getD j []):=by
 by_cases d:j<c.length
 .refine⟨c[j],?_,?_⟩
  .rw[getElem?_append_left bo];simp[d,eS]
  .have e:j<ks.length:=by rw[<-x.1];exact d
   rw[getD_eq_getElem?_getD,cd e];exact x.2 j _ _ (cd d) (cd e)
 .refine⟨⟨none,0,0⟩,?_,?_⟩
  .grind
  .rw[getD_eq_getElem?_getD,getElem?_eq_none (by have:=x.1;omega)];exact⟨.nil _ _,bi⟩
theorem aLQ:∀N,cz 64 (Hd N)
 |0=>by
  refine eG (fn:=Tryz.f64) (c:=dQ Tryz.f64) func64 rfl bj ?_;rintro C m h K ⟨sc,p,v,s,ps,q,rfl,_,_,_,_,Y,_⟩;omega
 |N+1=>by
  refine gW func64 ?_;rintro C m h K ⟨sc,p,v,s,ps,q,rfl,Q,R,S,T,Y,n⟩;refine⟨cpJ N sc p v m,rfl,aE (aLQ N) (aE RE (aE aqZ aI)),XS N sc p v m h K,bh,?_⟩;dsimp only[XS,push_cast];have D:=@vR q;have E:=T;obtain⟨op,ta,w,co,on,gr,od,li,args⟩:=q;have x:=T.parts;have e0:=x.op_;have Z:=x.args_.slen;have U:=x.args_.len;simp only[Query.args]at D;simp only[aK]at n;refine⟨λ⟨i,z,F⟩=>i<=args.length/\PH.le h F/\∃ks,Slices F z ks/\(args.take i).map (aK s ps)=ks.map (λk=>(k,0)),λ⟨i,_,_⟩=>args.length-i,⟨(0,[],h),⟨aD,.refl _,[],⟨rfl,λj s k y=>by simp at y⟩,bi⟩,MT⟩,?_⟩;rintro⟨i,z,F⟩ ⟨V,d,ks,A,g⟩;have G:ks.length=i:=by have:=congrArg List.length g;grind
  have a':z.length=i:=by rw[A.1,G]
  dsimp only;refine aF (λo=>?_) (λa0=>?_)
  .obtain⟨B,t⟩:=dW Z o;obtain⟨b1,o1,u,H,r1,I⟩:=(x.args_.mono d).at t;refine⟨b1,o1,H,aD,o,u,.imm r1,sc,p,u,s,ps,B,rfl,Q.mono d,R,S.mono d,I,?_,λJ h' f L=>aC (λy=>?_) (λy=>?_)⟩
   .grind
   .have M:(aK s ps B).2≠0:=bo
    rw[HV M g t rfl]at n;exact n.err (d.trans f) (if_neg M)
   .have M:(aK s ps B).2=0:=bo
    refine⟨bn,bn,(i+1,z++[J],h'),⟨aD,d.trans f,ks++[(aK s ps B).1],(A.mono f).snoc L,?_⟩,aD,?_⟩
    .rw[jK t,g,cj]
     grind
    .rw[cj];exact MT
  .rw[ci aD]at g;rw[vX g]at n;simp only[if_true]at n;refine⟨v.op,rfl,aC (λy=>n.err d (if_neg λe=>?_)) (λy=>?_)⟩
   .grind
   have y:(z.length:Int)=arity op:=bo
   rw[if_pos aD]at n;obtain⟨W,O,i0⟩:=A.pick 0 aD;obtain⟨X,P,i1⟩:=A.pick 1 aD;exact⟨bn,bn,aD,bn,_,O,W,rfl,aD,bn,_,P,X,rfl,sc,p,v,W,X,s,ps,_,_,_,rfl,Q.mono d,R,S.mono d,E.mono d,i0,i1,Na g 0,Na g 1,λJ h' f V=>n J h' (d.trans f) V⟩
theorem aXZ(h:eX s=0):nY s:=by
 have c:Fg s:=Classical.byContradiction λd=>by rw[yY d]at h;cases h
 intro t e;obtain⟨j,f⟩:=mem_iff_getElem?.1 e;exact(c.2 j t f).1
theorem bgQ:cz 26 OS:=by
 refine gW func26 ?_;rintro n m h K ⟨sc,p,v,s,ps,q,rfl,f,g,j,c⟩;refine⟨cZ [(61,DA),(62,Sh),(63,aPZ),(64,Hd (SizeOf.sizeOf q+1))] [] [] [] false,rfl,aE bcZ (aE To (aE bcX (aE (aLQ _) aI))),Yc (SizeOf.sizeOf q+1) sc p v m h K,bh,?_⟩;dsimp only[Yc,push_cast];unfold fG at c;refine⟨sc,s,rfl,f,aC (λd=>c.err (.refl _) (if_neg bo)) (λd=>?_)⟩;have d:eX s=0:=bo
 rw[if_pos d]at c;refine⟨p,ps,rfl,g,aC (λo=>c.err (.refl _) (if_neg λe=>bo)) (λo=>?_)⟩;rw[if_pos bo]at c;refine⟨v,q,rfl,j,aC (λt=>c.err (.refl _) (if_neg λe=>bo)) (λt=>?_)⟩;rw[if_pos bo]at c;exact⟨sc,p,v,s,ps,q,rfl,f,aXZ d,g,j,aD,c⟩
def aN(n:NV):CV:=.val (.agg ⟨n.enc⟩)
structure Cw(h:PH)(s:jC)(ps:db)(q:Query)(ks:List db)(n:NV):Prop where
 s_:iC h s n.s
 ps_:Ints h n.params ps
 q_:cY h q n.q
 ks_:bI h 1 eS (λk sl=>Ints h sl k) n.args ks
 len:∀k∈ks,k.length<=12
def Query.withOf(u q:Query):Query:=match u,q with|.mk _ ta w co on gr od li _,.mk op _ _ _ _ _ _ _ args=>.mk op ta w co on gr od li args
def ET:Vc.Spec:=λc m h K=>∃n k u s ps q ks d,c=[aN n,cI k,aQ u]/\Cw h s ps q ks n/\cY h d u/\∀r:Bool,(r=true↔(ks.length:Int)=k/\q=d.withOf q)->K (cB r) m h
def R7:Vc.Spec:=λc m h K=>∃n s ps q ks,c=[aN n]/\Cw h s ps q ks n/\K (aQ ⟨0,0,⟨0,0,fQ,fQ,⟨none,0,0⟩⟩,⟨none,0,0⟩,⟨none,0,0⟩,n.q.group,n.q.order,n.q.limit,⟨none,0,0⟩⟩) m h
def R8:Vc.Spec:=λc m h K=>∃n s ps q ks a,c=[aN n]/\Cw h s ps q ks n/\ks[0]? =some a/\∀r:Bool,(r=true↔∃op ta w co on gr od li args,q= .mk op ta w co on gr od li args/\mW a gr od li)->K (cB r) m h
def Pf(ks:List db):Query->Prop
 |.mk op ta w co on gr od li _=>ks.length=2/\ta=0/\w=fN/\co=[]/\gr=[]/\od=[]/\li=0/\Good (nH (ks.getD 0 []) (ks.getD 1 [])) on
def Sd:Vc.Spec:=λc m h K=>∃n s ps q ks,c=[aN n]/\Cw h s ps q ks n/\∀r:Bool,(r=true↔Pf ks q)->K (cB r) m h
noncomputable def bHJ(n:NV)(h:PH):=
 vO [] [(4,{A:=Nat×Nat×Nat×MH,st:=λ⟨i,c,b,d⟩=>bS 72 73 [(1,.at (.ptr 1 0)),(3,iv c),(4,vv (.pointer (some ⟨b,0,none⟩))),(16,sv n.q.group),(17,iv n.q.group.len),(18,iv i)] [(1,.cells 190 (n.enc.map .val))] d h}),
  (11,{A:=Nat×Nat×MH,st:=λ⟨i,c,d⟩=>bS 72 73 [(1,.at (.ptr 1 0)),(3,iv c),(39,sv n.q.order),(40,iv n.q.order.len),(41,iv i)] [(1,.cells 190 (n.enc.map .val))] d h})] [] [] [280] [] false
noncomputable def bIQ(n:NV)(h:PH):=
 vO [(236,ET)] [(6,{A:=Nat×Sl×Sl×Nat×Nat×MH,st:=λ⟨i,s,t,b,c,d⟩=>bS 80 81 [(3,sv s),(4,sv t),(5,vv (.pointer (some ⟨b,0,none⟩))),(6,vv (.pointer (some ⟨c,0,none⟩))),(28,sv n.q.on),(29,iv n.q.on.len),(30,iv i)] [] d h})] [] [] [280] [] false
noncomputable abbrev kS(a:QV):=eH a.table
noncomputable abbrev lY(a:QV):=eH a.where_.op
noncomputable abbrev mA(a:QV):=a.where_.cmp
noncomputable abbrev i6(a:OV):=eH a.kind
noncomputable abbrev kA(a:QV):=a.where_.left
noncomputable abbrev sQ(a:OV):=eH a.index
noncomputable abbrev mS(a:OV):=eH a.value.int
noncomputable abbrev yJ(a b:QV)(c:dc):=qK (aU (eH a.op) (kS b) (aU (lY b) (eH (mA b)) (aU (i6 (kA b)) (sQ (kA b)) (aU (eH (tD (kA b))) (mS (kA b)) c))))
noncomputable abbrev HM(a:OV):=a.value.text
noncomputable abbrev lA a:=Value.string (HM a)
noncomputable abbrev pT(a:QV):=a.where_.right
noncomputable abbrev Aj(a:QV):=gP a.where_.args
noncomputable abbrev AB(a:QV):=gP a.columns
noncomputable abbrev yO a b:=aU (lA (kA a)) (i6 (pT a)) (aU (sQ (pT a)) (eH (tD (pT a))) (aU (mS (pT a)) (lA (pT a)) (aU (Aj a) (AB a) b)))
noncomputable abbrev oE(a:QV):=gP a.group
noncomputable abbrev oF(a:QV):=gP a.order
noncomputable abbrev y7(a:QV):=eH a.limit
attribute [push_cast] kS lY mA i6 kA sQ mS yJ HM lA pT Aj AB yO oE oF y7
def TB(n:NV)(k:Int)(u:QV)(m:MH)(h:PH)(K:da):=
  dO (aG n.args) k (∃(v:QV),uR (λw p=>∃(q:Query),aH (aX (dG n.q) (yJ n.q u (yO u (aU (gP u.on) (oE u) (aU (oF u) (y7 u) (bH n.q.args)))))=aX (dG v) (dG w)) (cY h p v) (cY h q w) (∀(r:Bool),gU r (p=q)->K (yF r) m h))) (K bB m h)
noncomputable abbrev IS a:=aU dD dD (aU dD dD (aU dD dD (aU dD dD a)))
noncomputable abbrev uN a b:=aU Sv dD (aU dD dD (aU dD Sv (aU rU a b)))
attribute [push_cast] IS uN
def TA(n:NV)(m:MH)(h:PH)(K:da):=
  K (qK (IS (uN rU (aU rU (oE n.q) (aU (oF n.q) (y7 n.q) j5))))) m h
noncomputable abbrev xQ:=Value.bool false
abbrev Pn(a:MH)(b:PH)(c:Nat->MH->Prop):=lG a b (λx d=>iR a d x (aU xQ xQ (aU xQ xQ (aU xQ xQ (aU xQ xQ (aU xQ xQ (aU xQ xQ [])))))) 280) (λx d=>c x d)
noncomputable abbrev A9(a:QV):=mD a.table
noncomputable abbrev E3(a:QV):=nX a.columns
abbrev PF(a:cK)(b:At)(c:QV)(d:Sl)(e:dv):=eQ (oQ 190 (fC (mD a.version) (nX a.tables) (fC b (mD c.op) (A9 c::pQ c.where_ (fC (E3 c) (nX d) (fC (nX c.group) (nX c.order) (fC (mD c.limit) (nX c.args) e)))))))
abbrev F8(a:NV):=PF a.s (nX a.params) a.q a.q.on (nR (nX a.args))
noncomputable abbrev wZ a:=lJ (Value.bool a)
abbrev uY(a:Nat->Option Obj)(b c:Nat)(d:dc)(e:MH->Prop):=GU (λx f=>aA (Ze a b (B7 x f 0)) (c<x.size) (∀(g:MH),iR a g b (splice x.toList c d) f->e g))
attribute [push_cast] xQ Pn A9 E3 PF F8 wZ uY
def Jr n m h K:=
  bF (λb o=>aH (aM n.args.a b o) ((0:Int)<=0) (0<aG n.args) (∃(y:Sl),aL m h b (o+0) (bH y)/\Pn m h (λz A=>∃(I:Nat×Nat×Nat×MH->Prop)(t:Nat×Nat×Nat×MH->Nat),(∃(x:Nat×Nat×Nat×MH),aA (I x) eJ (aA (bP y.len=bP x.2.1) (dK z (jP x.2)) (aA (aJ n.q.group) (bG n.q.group) (aA (bA x.1) (F8 n) (bO (A=iU x.2) h h)))))/\∀(x:Nat×Nat×Nat×MH),I x->aZ (↑x.1:Int) (aG n.q.group) (bF (λe f=>aH (aM n.q.group.a e f) (0<=(↑x.1:Int)) ((↑x.1:Int)<aG n.q.group) (∃(d:Int),aL (iU x.2) h e (bK f x.1 1) (bM d)/\aZ d 0 (mZ K x.2 h) (gQ d (↑x.2.1:Int) (mZ K x.2 h) (aA (cF d) (d<12) (∃(u:Bool),aL (iU x.2) h (jP x.2) (fF 0 d 1) (wZ u)/\branch u (mZ K x.2 h)
 (aA (cF d) (d<12) (uY (iU x.2) (jP x.2) (fF 0 d 1) (lJ Ck) (λj=>∃(c:Nat×Nat×Nat×MH),aA (I c) (t c<t x) (aA eJ (bV x.2.1 c.2.1) (aA (dK (jP x.2) (jP c.2)) (aJ n.q.group) (aA (bG n.q.group) (fU (bC x.1 1)=bP c.1) (aH (F8 n) (j=iU c.2) (h=h) True))))))))))))) (∃(I1:Nat×Nat×MH->Prop)(j:Nat×Nat×MH->Nat),PL (λc=>aA (I1 c) eJ (aA (bV x.2.1 (jP c)) (aJ n.q.order) (aA (bG n.q.order) (bA c.1) (aA (F8 n) (iU x.2=iU c) (bQ h h))))) (λc=>I1 c->aZ (↑c.1:Int) (aG n.q.order) (bF (λe f=>aH (aM n.q.order.a e f) (0<=(↑c.1:Int)) ((↑c.1:Int)<aG n.q.order) (∃(d:Int×Bool),aL (iU c) h e (bK f c.1 2) (Az d)/\aZ d.1 0 (mZ K c h)
 (gQ d.1 (↑(jP c):Int) (mZ K c h) (∃(g:Nat×Nat×MH),aA (I1 g) (j g<j c) (aA eJ (bV (jP c) (jP g)) (aA (aJ n.q.order) (bG n.q.order) (aA (fU (bC c.1 1)=bP g.1) (F8 n) (bO (iU c=iU g) h h))))))))) (EI (aG n.q.order) 12 (gQ n.q.limit 0 (K (yF (decide (n.q.limit<=100))) (iU c) h) (mZ K c h)) (mZ K c h)))))))
abbrev F5(a:jC->db->Query->(List db)->Prop):=Cp (λx c=>∃(d:Query)(e:List db),a x c d e)
abbrev Eh(a:du)(b:NV->Int->QV->du)(c:PH)(d:Int->Query->(List db)->Query->Bool->Prop):=∃(x:NV)(e:Int)(f:QV),F5 (λo t g j=>∃(n:Query),aH (a=b x e f) (Cw c o t g j x) (cY c n f) (∀(u:Bool),d e g j n u))
noncomputable abbrev jA(a:NV)(b:dc):=aU (sQ (kA a.q)) (eH (tD (kA a.q))) (aU (mS (kA a.q)) (lA (kA a.q)) (aU (i6 (pT a.q)) (sQ (pT a.q)) (aU (eH (tD (pT a.q))) (mS (pT a.q)) b)))
noncomputable abbrev zE(a:QV):=gP a.args
noncomputable abbrev gH(a:NV):=aU (lA (pT a.q)) (Aj a.q) (aU (AB a.q) (gP a.q.on) (aU (oE a.q) (oF a.q) (aU (eH a.q.limit) (zE a.q) (bH a.args))))
noncomputable abbrev uM a b:=aU a rU (aU rU dD b)
abbrev Eo(a:List db)(b:Int)(c d:Query):=(↑a.length:Int)=b/\c=Query.withOf d c
noncomputable abbrev mF(a:Nat×Sl×Sl×Nat×Nat×MH):=a.2.2.2
attribute [push_cast] F5 Eh jA zE gH uM Eo mF
def Js n m h K:=
  Eh (qK (aU (pS n.s) (pR n.s) (aU (gP n.params) (eH n.q.op) (aU (kS n.q) (lY n.q) (aU (eH (mA n.q)) (i6 (kA n.q)) (jA n (gH n))))))::aX (fI 2) (qK (IS (uN rU (uM (gP n.q.on) j5))))) (λd k u=>qK (aU (pS d.s) (pR d.s) (aU (gP d.params) (eH d.q.op) (aU (kS d.q) (lY d.q) (aU (eH (mA d.q)) (i6 (kA d.q)) (jA d (gH d))))))::aX (fI k) (dG u)) h (λk q L u r=>iB (gU r (Eo L k q u)) (!r) (K bB m h) (bF (λb o=>aH (aM n.args.a b o) ((0:Int)<=0) (0<aG n.args) (∃(y:Sl),aL m h b (o+0) (bH y)/\bF (λf g=>aH (aM n.args.a f g) ((0:Int)<=1) (1<aG n.args) (∃(j:Sl),aL m h f (g+1) (bH j)/\Pn m h (λM O=>Pn O h (λP Q=>∃(I:Nat×Sl×Sl×Nat×
 Nat×MH->Prop)(t:Nat×Sl×Sl×Nat×Nat×MH->Nat),(∃(x:Nat×Sl×Sl×Nat×Nat×MH),aA (I x) (aY y x.2.1) (aA (aY j x.2.2.1) (dK M (mF x).1) (aA (dK P (jP (mF x))) (aJ n.q.on) (aA (bG n.q.on) (bA x.1) (bO (Q=iU (mF x)) h h)))))/\∀(x:Nat×Sl×Sl×Nat×Nat×MH),I x->aZ (↑x.1:Int) (aG n.q.on) (bF (λz A=>aH (aM n.q.on.a z A) (0<=(↑x.1:Int)) ((↑x.1:Int)<aG n.q.on) (∃(c:Int×Int),aA (aL (iU (mF x)) h z (bK A x.1 2) (u7 c)) (cF 0) (aA CF rW (CG/\aZ c.1 0 (mZ K (mF x) h) (gQ c.1 (aG x.2.1) (mZ K (mF x) h) (aZ c.2 0 (mZ K (mF x) h) (gQ c.2 (aG x.2.2.1) (mZ K (mF x) h) (bF (λB C=>aH (aM x.2.1.a B C) (0<=c.1) (c.1<aG x.2.1) (∃(D:
 Int),aL (iU (mF x)) h B (fF C c.1 1) (bM D)/\bF (λE F=>aH (aM x.2.2.1.a E F) (0<=c.2) (c.2<aG x.2.2.1) (∃(G:Int),aL (iU (mF x)) h E (fF F c.2 1) (bM G)/\dH D G (K bB (iU (mF x)) h) (aA (cF c.1) (c.1<12) (∃(H:Bool),aL (iU (mF x)) h (mF x).1 (fF 0 c.1 1) (wZ H)/\branch H (mZ K (mF x) h) (aA (cF c.2) (c.2<12) (∃(J:Bool),aL (iU (mF x)) h (jP (mF x)) (fF 0 c.2 1) (wZ J)/\branch J (mZ K (mF x) h) (aA (cF c.1) (c.1<12) (uY (iU (mF x)) (mF x).1 (fF 0 c.1 1) (lJ Ck) (λR=>aA (cF c.2) (c.2<12) (uY R (jP (mF x)) (fF 0 c.2 1) (lJ Ck) (λS=>∃(e:Nat×Sl×Sl×Nat×Nat×MH),aA (I e) (t e<t x) (aA (aY
 x.2.1 e.2.1) (aY x.2.2.1 e.2.2.1) (aA (dK (mF x).1 (mF e).1) (dK (jP (mF x)) (jP (mF e))) (aA (aJ n.q.on) (bG n.q.on) (aH (fU (bC x.1 1)=bP e.1) (S=iU (mF e)) (h=h) True)))))))))))))))))))))))))) (K fM (iU (mF x)) h)))))))))
structure Arr(m:MH)(b:Nat)(seen:db):Prop where
 ex:∃bs:dt,m b=some (.cells ⟨bs.map Value.bool⟩ 280 (0,0))/\bs.length=12/\∀k:Nat,k<12->(bs[k]? =some true↔(k:Int)∈seen)
theorem Arr.zero(h:m b=some (.cells ⟨[.bool false,.bool false,.bool false,.bool false,.bool false,.bool false,.bool false,.bool false,.bool false,.bool false,.bool false,.bool false]⟩ 280 (0,0))):Arr m b []:=
 ⟨⟨replicate 12 false,h,rfl,λk c=>bo⟩⟩
theorem Arr.look{c}(x:Arr m b c){n}(f:0<=n)(g:n<12):∃y:Bool,aL m h b (0+n.toNat*1) [.bool y]/\(y=true↔n∈c):=by
 obtain⟨d,e,j,o⟩:=x.ex;have t:n.toNat<d.length:=by omega
 refine⟨d[n.toNat],.lent _ _ _ e ?_,?_⟩
 .simp only[Nat.zero_add,Nat.mul_one,cu,length_nil];rw[drop_eq_getElem_cons bo];simp
 grind
theorem Arr.store{c}(x:Arr m b c){n}(o:0<=n)(t:n<12):∃(cs:Array Value)(E:TypeId),Ze m b (.cells cs E (0,0))/\0+n.toNat*1<cs.size/\∀m',pO m m' b (.cells ⟨splice cs.toList (0+n.toNat*1) [.bool true]⟩ E (0,0))->Arr m' b (c++[n]):=by
 obtain⟨d,e,u,y⟩:=x.ex;have f:n.toNat<d.length:=by omega
 refine⟨_,_,⟨e⟩,bo,λm' g=>⟨d.set n.toNat true,?_,bo,λk j=>?_⟩⟩
 .rw[g.at_];congr 3;simp only[splice,Nat.zero_add,Nat.mul_one,cu,length_nil];rw[set_eq_take_append_cons_drop,if_pos f];simp[map_take,map_drop]
 grind
theorem Arr.other{f d}(x:Arr m b d)(g:b≠f)(t:∀c,c≠f->m' c=m c):Arr m' b d:=by
 obtain⟨j,e,n,o⟩:=x.ex;exact⟨j,bo,n,o⟩
theorem Cw.arg{q n}(x:Cw h s ps q ks n){j k}(c:ks[j]? =some k):∃b o sl,n.args.a=some ⟨b,o,none⟩/\bU h b (o+j*1) [.slice sl.a sl.len sl.cap]/\Ints h sl k/\k.length<=12/\j<n.args.len:=by
 obtain⟨b,o,sl,e,r,d⟩:=x.ks_.at c;have:=(bz c);exact⟨b,o,sl,e,r,d,x.len k (ce c),by rw[x.ks_.slen];exact this⟩
theorem cvZ{n}(c:K (aQ ⟨0,0,⟨0,0,fQ,fQ,⟨none,0,0⟩⟩,⟨none,0,0⟩,⟨none,0,0⟩,n.q.group,n.q.order,n.q.limit,⟨none,0,0⟩⟩) m h):TA n m h K:=c
theorem zK:cz 236 ET:=by
 refine gW func236 ?_;rintro C m h K ⟨n,k,u,s,ps,q,ks,D,rfl,c,E,B⟩;refine⟨cZ [(259,c5Q)] [] [] [] false,rfl,aE Z5 aI,TB n k u m h K,bh,?_⟩;dsimp only[TB,push_cast];have L:=c.ks_.slen;have F:=c.q_;have d:=c.q_;obtain⟨op,ta,w,co,on,gr,od,li,args⟩:=q;obtain⟨G,f,H,g,j,o,t,z,A⟩:=D;have x:=E.parts;have y:=F.parts;refine aC (λI=>⟨n.q,⟨n.q.op,u.table,u.where_,u.columns,u.on,u.group,u.order,u.limit,n.q.args⟩,_,.mk op f H g j o t z args,rfl,d,mL.rep ⟨y.op_,x.table_,x.where_,x.columns_,x.on_,x.group_,x.order_,x.limit_,y.args_⟩,λr J=>B r (J.trans ⟨λe=>⟨?_,e⟩,λe=>e.2⟩)⟩) (λI=>B false ⟨λe=>(by cases e),λe=>?_⟩)
 .grind
 grind
theorem Rp:cz 238 R7:=by
 refine gW func238 ?_;rintro c m h K ⟨n,s,ps,q,ks,rfl,e,d⟩;refine⟨cZ [] [] [] [] false,rfl,aI,TA n m h K,bh,?_⟩;exact cvZ d
theorem cvX{n op w on args}(u:Cw h s ps (.mk op ta w co on gr od li args) ks n)(ha:ks[0]? =some a)(W:∀r:Bool,(r=true↔mW a gr od li)->K (cB r) m h):Jr n m h (mK h K):=by
 dsimp only[Jr,push_cast];have x:=u.q_.parts;have gl:=x.group_.slen;have X:=x.group_.len;have ol:=x.order_.slen;have Y:=x.order_.len;have el:=x.limit_;obtain⟨b0,o0,Z,e0,r0,J,a',a0⟩:=u.arg ha;have L:=J.slen;have bad:∀f,Sub m f->¬mW a gr od li->mK h K (.val (.bool false)) f h:=λf hm u=>.sub hm (W false ⟨λe=>(by cases e),λe=>(u e).elim⟩);refine⟨b0,o0,e0,aD,aD,Z,.imm aD,λb m1 hb C=>?_⟩;refine⟨λ⟨i,D,b',f⟩=>D=a.length/\b'=b/\i<=gr.length/\Sub m f/\Arr f b (gr.take i)/\gG (He a) gr i,λ⟨i,_,_,_⟩=>gr.length-i,⟨(0,Z.len,b,m1),⟨L,rfl,aD,(Sub.refl m).upd hb.m_ C.other,.zero C.at_,.zero⟩,MT⟩,?_⟩;rintro⟨i,D,b,f⟩ ⟨rfl,rfl,hi,d,j,M⟩;dsimp only;refine aF (λo=>?_) (λF=>?_)
 .obtain⟨c,z⟩:=dW gl o;obtain⟨O,P,Q,R⟩:=x.group_.at' z;have t:¬He a (gr.take i) c->mK h K (.val (.bool false)) f h:=λu=>bad f d λg=>Good.not z u g.group_;refine⟨O,P,Q,aD,o,c,.imm R,aF (λG=>t λg=>?_) (λG=>aF (λB=>t λg=>?_) (λB=>?_))⟩
  .have:=eZ.1 g.1;omega
  .have:=eZ.1 g.1;omega
  obtain⟨y,hy,S⟩:=j.look (h:=h) (n:=c) aD aD;refine⟨aD,aD,y,hy,aC (λh3=>t λg=>g.2 (S.1 h3)) (λh3=>?_)⟩;obtain⟨cs,E,T,U,V⟩:=j.store (n:=c) aD aD;refine⟨aD,aD,cs,E,T,U,λm2 H=>⟨(i+1,a.length,b,m2),⟨rfl,rfl,aD,d.upd hb.m_ H.other,?_,M.succ z ⟨eZ.2 ⟨aD,aD⟩,λe=>?_⟩⟩,aD,MT⟩⟩
  .have:=V m2 H
   rwa [cq,z]
  grind
 have gg:=M.all aD;refine⟨λ⟨i,D,f⟩=>D=a.length/\i<=od.length/\Sub m f/\gG (Kr a) od i,λ⟨i,_,_⟩=>od.length-i,⟨(0,a.length,f),⟨rfl,aD,d,.zero⟩,MT⟩,?_⟩;clear hi M F d j f;rintro⟨i,D,f⟩ ⟨rfl,hi,d,I⟩;dsimp only;refine aF (λo=>?_) (λF=>?_)
 .obtain⟨c,z⟩:=dW ol o;obtain⟨O,P,Q,R⟩:=x.order_.at z;have A:¬Kr a (od.take i) c->mK h K (.val (.bool false)) f h:=λu=>bad f d λg=>Good.not z u g.order_;refine⟨O,P,Q,aD,o,c,.imm R,aF (λG=>A λg=>?_) (λG=>aF (λB=>A λg=>?_) (λB=>⟨(i+1,a.length,f),⟨rfl,aD,d,I.succ z (eZ.2 ⟨aD,aD⟩)⟩,aD,MT⟩))⟩
  .have:=eZ.1 (show DZ a c.1=true from g);omega
  .have:=eZ.1 (show DZ a c.1=true from g);omega
 have oo:=I.all aD;rw[el];refine aF (λG=>aF (λB=>?_) (λB=>bad f d λg=>?_)) (λG=>bad f d λg=>?_)
 .exact .sub d (W (decide (li<=100)) ⟨λe=>⟨gg,oo,aD,B,bx e⟩,λe=>decide_eq_true e.high⟩)
 .have:=g.low;omega
 .have:=g.len_;omega
theorem Ro:cz 239 R8:=by
 refine Hr func239 ?_;rintro c m h K ⟨n,s,ps,q,ks,a,rfl,d,f,g⟩;refine⟨bHJ n h,rfl,aI,Jr n m h (mK h K),bh,?_⟩;dsimp only[Jr,push_cast];obtain⟨op,ta,w,co,on,gr,od,li,args⟩:=q;refine cvX d f (λr j=>g r (j.trans ⟨λe=>⟨_,_,_,_,_,_,_,_,_,rfl,e⟩,?_⟩))
 grind
theorem Zn{on sl}(c:gS h sl on):cY h (.mk 0 0 fN [] on [] [] 0 []) ⟨0,0,⟨0,0,fQ,fQ,⟨none,0,0⟩⟩,⟨none,0,0⟩,sl,⟨none,0,0⟩,⟨none,0,0⟩,0,⟨none,0,0⟩⟩:=
 mL.rep ⟨rfl,rfl,FX h,⟨.nil _ _,bi⟩,c,⟨.nil _ _,bi⟩,⟨.nil _ _,bi⟩,rfl,.nil _ _ _ _⟩
theorem Rq:cz 237 Sd:=by
 refine Hr func237 ?_;rintro a7 m h K ⟨n,s,ps,q,ks,rfl,t,hK⟩;refine⟨bIQ n h,rfl,aE zK aI,Js n m h (mK h K),bh,?_⟩;dsimp only[Js,push_cast];obtain⟨op,ta,w,co,on,gr,od,li,args⟩:=q;show Js n m h (mK h K);dsimp only[Js,push_cast];have x:=t.q_.parts;have ol:=x.on_.slen;have a5:=x.on_.len;have bad:∀g,Sub m g->¬Pf ks (.mk op ta w co on gr od li args)->mK h K (.val (.bool false)) g h:=λg T t=>.sub T (hK false ⟨λe=>(by cases e),λe=>(t e).elim⟩);refine⟨n,2,⟨0,0,⟨0,0,fQ,fQ,⟨none,0,0⟩⟩,⟨none,0,0⟩,n.q.on,⟨none,0,0⟩,⟨none,0,0⟩,0,⟨none,0,0⟩⟩,s,ps,_,ks,.mk 0 0 fN [] on [] [] 0 [],rfl,t,Zn x.on_,λr hr=>aC (λh1=>bad m (Sub.refl m) λf=>?_) (λh1=>?_)⟩
 .have:r=true:=hr.2 ⟨by have:=f.1;omega,by obtain⟨_,rfl,rfl,rfl,rfl,rfl,rfl,_⟩:=f;rfl⟩
  grind
 obtain⟨U,G⟩:=hr.1 bo;simp only[Query.withOf,Query.mk.injEq]at G;obtain⟨_,rfl,rfl,rfl,_,rfl,rfl,rfl,_⟩:=G
 obtain⟨D,F,rfl⟩:∃D F,ks=[D,F]:=by
  match ks,U with
  |[D,F],_=>grind
  |[],h=>simp at h
  |[_],h=>simp at h
  |_::_::_::_,h=>grind
 obtain⟨b0,o0,H,e0,r0,i0,l0,j0⟩:=t.arg (j:=0) rfl;obtain⟨b1,o1,I,e1,r1,i1,l1,j1⟩:=t.arg (j:=1) rfl;have a8:=i0.slen;have a9:=i1.slen;have bad:∀g,Sub m g->¬Good (nH D F) on->mK h K (.val (.bool false)) g h:=λg T t=>bad g T λf=>t f.2.2.2.2.2.2.2;refine⟨b0,o0,e0,aD,aD,H,.imm aD,b1,o1,e1,aD,aD,I,.imm aD,λb m1 hb u c m2 hc A=>?_⟩;have B:b≠c:=λe=>by have:=hc.m_;rw[<-e,u.at_]at this;cases this
 have J:Sub m m1:=(Sub.refl m).upd hb.m_ u.other;have L:m c=none:=J.free hc.m_
 refine⟨λ⟨i,s',t',b',c',g⟩=>s'=H/\t'=I/\b'=b/\c'=c/\i<=on.length/\Sub m g/\Arr g b ((on.take i).map Prod.fst)/\Arr g c ((on.take i).map Prod.snd)/\gG (nH D F) on i,λ⟨i,_,_,_,_,_⟩=>on.length-i,
  ⟨(0,H,I,b,c,m2),⟨rfl,rfl,rfl,rfl,aD,J.upd L A.other,(Arr.zero u.at_).other B A.other,.zero A.at_,.zero⟩,MT⟩,?_⟩
 rintro⟨i,H,I,b,c,g⟩ ⟨rfl,rfl,rfl,rfl,hi,o,hA,hB,hg⟩;dsimp only;refine aF (λM=>?_) (λb4=>.sub o (hK true ⟨λ_=>⟨rfl,rfl,rfl,rfl,rfl,rfl,rfl,hg.all aD⟩,λ_=>rfl⟩));obtain⟨p,O⟩:=dW ol M;obtain⟨bp,V,ep,rp⟩:=x.on_.at O;have d:¬nH D F (on.take i) p->mK h K (.val (.bool false)) g h:=λt=>bad g o (Good.not O t);refine⟨bp,V,ep,aD,M,p,.imm rp,aD,aD,aD,aD,aF (λd1=>d λf=>?_) (λd1=>aF (λd2=>d λf=>?_) (λd2=>aF (λd3=>d λf=>?_) (λd3=>aF (λd4=>d λf=>?_) (λd4=>?_))))⟩
 .have:=eZ.1 f.1;omega
 .have:=eZ.1 f.1;omega
 .have:=eZ.1 f.2.1;omega
 .have:=eZ.1 f.2.1;omega
 obtain⟨b2,o2,e2,r2⟩:=i0.inb (n:=p.1) aD aD;obtain⟨b3,o3,e3,r3⟩:=i1.inb (n:=p.2) aD aD;obtain⟨y,hy,W⟩:=hA.look (h:=h) (n:=p.1) aD aD;obtain⟨z,hz,X⟩:=hB.look (h:=h) (n:=p.2) aD aD;obtain⟨cs,E,Y,Z,a'⟩:=hA.store (n:=p.1) aD aD;refine⟨b2,o2,e2,aD,aD,_,.imm r2,b3,o3,e3,aD,aD,_,.imm r3,aC (λd5=>d λf=>?_) (λd5=>⟨aD,aD,y,hy,aC (λd6=>d λf=>?_) (λd6=>⟨aD,aD,z,hz,aC (λd7=>d λf=>?_) (λd7=>⟨aD,aD,cs,E,Y,Z,λm3 C=>?_⟩)⟩)⟩)⟩
 .rw[f.2.2.1]at d5;simp at d5
 .obtain⟨q,S,e⟩:=mem_map.1 (W.1 d6);exact(f.2.2.2 q S).1 e
 .obtain⟨q,S,e⟩:=mem_map.1 (X.1 d7);exact(f.2.2.2 q S).2 e
 have a2:=a' m3 C;have a3:=hB.other B.symm C.other;obtain⟨a4,E2,P,Q,a6⟩:=a3.store (n:=p.2) aD aD;refine⟨aD,aD,a4,E2,P,Q,λm4 R=>⟨(i+1,H,I,b,c,m4),⟨rfl,rfl,rfl,rfl,aD,(o.upd hb.m_ C.other).upd L R.other,?_,?_,hg.succ O ⟨eZ.2 ⟨aD,aD⟩,eZ.2 ⟨aD,aD⟩,bo,λq S=>⟨λe=>?_,λe=>?_⟩⟩⟩,aD,MT⟩⟩
 .rw[jK O];exact a2.other B R.other
 .rw[jK O];grind
 .grind
 .grind
def fin(r:db×Int):=if r.2=0 then mT r.1 else eK r.2
def Query.op:Query->Int
 |.mk op .. =>op
noncomputable def CA(s:jC)(ps:db)(q:Query)(ks:List db):=if(ks.length:Int)=arity q.op then eV s ps q (ks.getD 0 []) (ks.getD 1 [])else eK 100
def CB(P:Int->Prop):=λc m h K=>∃n s ps q ks,c=[aN n]/\Cw h s ps q ks n/\nY s/\P q.op/\∀r,fin r=CA s ps q ks->KR K m h r
def cXZ h c ks:=bI h 1 eS (λk d=>Ints h d k) c ks
def MC:Vc.Spec:=λc m h K=>∃d ks,c=[cS d]/\cXZ h d ks/\ks.length<=10/\(∀k∈ks,k.length<=12)/\∀e h',PH.le h h'->Ints h' e ks.flatten->K (cS e) m h'
noncomputable def bJX(n:NV)(m:MH)(h:PH):=
 cZ [(236,ET)] [(5,{A:=Nat×db,st:=λ⟨i,l⟩=>bS 57 58 [(1,.at (.ptr 1 0)),(4,.at (.lst 25)),(28,sv n.q.columns),(29,iv n.q.columns.len),(30,iv i)] [(1,.cells 190 (n.enc.map .val)),(25,.lst 3 1 (l.map eI))] m h})] [] [] false
noncomputable abbrev PJ a b:=aU a b (aU dD dD (aU dD dD (aU dD dD (uN rU (uM rU j5)))))
attribute [push_cast] PJ
def JA n m h K:=
  Eh (qK (aU (pS n.s) (pR n.s) (aU (gP n.params) (eH n.q.op) (aU (kS n.q) (lY n.q) (aU (eH (mA n.q)) (i6 (kA n.q)) (jA n (gH n))))))::aX (fI 0) (qK (PJ dD (kS n.q)))) (λc k u=>qK (aU (pS c.s) (pR c.s) (aU (gP c.params) (eH c.q.op) (aU (kS c.q) (lY c.q) (aU (eH (mA c.q)) (i6 (kA c.q)) (jA c (gH c))))))::aX (fI k) (dG u)) h (λk q d u r=>iB (gU r (Eo d k q u)) (!r) (cJ K 100 m h) (aZ n.q.table 0 (cJ K 100 m h) (gQ n.q.table (kI n.s) (cJ K 100 m h) (CK (cA (cL n.s) n.q.table) h (λs e=>iP K s 0 m e)))))
def Jz n m h K:=
  Eh (qK (aU (pS n.s) (pR n.s) (aU (gP n.params) (eH n.q.op) (aU (kS n.q) (lY n.q) (aU (eH (mA n.q)) (i6 (kA n.q)) (jA n (gH n))))))::aX (fI 1) (qK (aU dD dD (aU (lY n.q) (eH (mA n.q)) (aU (i6 (kA n.q)) (sQ (kA n.q)) (aU (eH (tD (kA n.q))) (mS (kA n.q)) (aU (lA (kA n.q)) (i6 (pT n.q)) (aU (sQ (pT n.q)) (eH (tD (pT n.q))) (aU (mS (pT n.q)) (lA (pT n.q)) (aU (Aj n.q) rU (uM rU j5))))))))))) (λd k u=>qK (aU (pS d.s) (pR d.s) (aU (gP d.params) (eH d.q.op) (aU (kS d.q) (lY d.q) (aU (eH (mA d.q)) (i6 (kA d.q)) (jA d (gH d))))))::aX (fI k) (dG u)) h (λk q t u r=>iB (gU r (Eo t k q u)) (!r) (cJ K 100 m h) (bF (λb o=>aH (aM
 n.args.a b o) ((0:Int)<=0) (0<aG n.args) (∃(y:Sl),aL m h b (o+0) (bH y)/\Gf (cM y::aX (cM n.params) (AJ n.q)) h (λc p e=>dH (gY c p e) 0 (cJ K (gY c p e) m h) (bF (λf g=>aH (aM n.args.a f g) ((0:Int)<=0) (0<aG n.args) (∃(j:Sl),aL m h f (g+0) (bH j)/\iP K j 0 m h))))))))
noncomputable abbrev Bq(a:NV):=a.q.columns
abbrev LL(a:(Nat×db->Prop)->(Nat×db)->Prop)(b:(Nat×db->Prop)->(Nat×db->Nat)->(Nat×db)->Prop):=∃(x:Nat×db->Prop)(d:Nat×db->Nat),(∃(c:Nat×db),a x c)/\∀(c:Nat×db),b x d c
attribute [push_cast] Bq LL
def Jy n m h K:=
  Eh (qK (aU (pS n.s) (pR n.s) (aU (gP n.params) (eH n.q.op) (aU (kS n.q) (lY n.q) (aU (eH (mA n.q)) (i6 (kA n.q)) (jA n (gH n))))))::aX (fI 1) (qK (IS (uN (AB n.q) (uM rU j5))))) (λc k u=>qK (aU (pS c.s) (pR c.s) (aU (gP c.params) (eH c.q.op) (aU (kS c.q) (lY c.q) (aU (eH (mA c.q)) (i6 (kA c.q)) (jA c (gH c))))))::aX (fI k) (dG u)) h (λk q E u r=>gU r (Eo E k q u)->cW (!r) (cJ K 100 m h) (aG n.q.columns==0) (cJ K 100 m h) (aA (cF 0) (cF (aG n.q.columns)) (aA (tQ (Bq n) 8) (tR (Bq n)) (LL (λI x=>aA (I x) eJ (aA (eL 25) (aJ (Bq n)) (aA (bG (Bq n)) (bA x.1) (aA (F8 n) (tN x.2) (bO (m=m) h h))))) (λI f x=>I x->
 aZ (↑x.1:Int) (aG (Bq n)) (bF (λb o=>aH (aM (Bq n).a b o) (0<=(↑x.1:Int)) ((↑x.1:Int)<aG (Bq n)) (∃(y:Int),aL m h b (bK o x.1 1) (bM y)/\aZ y 0 (cJ K 100 m h) (bF (λg j=>aH (aM n.args.a g j) ((0:Int)<=0) (0<aG n.args) (∃(t:Sl),aL m h g (j+0) (bH t)/\gQ y (aG t) (cJ K 100 m h) (bF (λz A=>aH (aM n.args.a z A) ((0:Int)<=0) (0<aG n.args) (∃(e:Sl),aL m h z (A+0) (bH e)/\bF (λB C=>aH (aM e.a B C) (0<=y) (y<aG e) (∃(D:Int),aH (aL m h B (fF C y 1) (bM D)) (iK (mO (fS x.2) 1*8)) (mR (fS x.2)) (∃(d:Nat×db),aA (I d) (f d<f x) (aA eJ (eL 25) (aA (aJ (Bq n)) (bG (Bq n)) (aA (fU (bC x.1 1)=bP d.1) (F8 n) (aH
 (uZ x.2 D d.2) (m=m) (h=h) True)))))))))))))))) (bN h 1 (fS x.2) (λs F=>iP K s 0 m F)))))))
noncomputable abbrev lM(a:NV)(b:dc):=pN (qK (aU (pS a.s) (pR a.s) (aU (gP a.params) (eH a.q.op) (aU (kS a.q) (lY a.q) (aU (eH (mA a.q)) (i6 (kA a.q)) b)))))
abbrev dN a b c d e:=bU a b (c+d) e
attribute [push_cast] lM dN
def Jx n m h K:=
  ∃(c:NV),F5 (λs p q k=>aA (lM n (jA n (gH n))=lM c (jA c (gH c))) (Cw h s p q k c) (∀(r:Bool),iB (gU r (Pf k q)) (!r) (cJ K 100 m h) (bF (λb o=>aH (aM n.args.a b o) ((0:Int)<=0) (0<aG n.args) (∃(y:Sl),aL m h b (o+0) (bH y)/\bF (λe f=>aH (aM n.args.a e f) ((0:Int)<=1) (1<aG n.args) (∃(g:Sl),aH (aL m h e (f+1) (bH g)) (dN h b o 0 (bH y)) (dN h e f 1 (bH g)) (bN h 1 (bH y::vV g) (λA t=>∃(u:Sl)(d:List db),aA (gK A=gK u) (cXZ t u d) (aA (d.length<=10) (∀(x:db),List.Mem x d->IK x) (fB (λz j=>bY t j (Ints j z d.flatten) (iP K z 0 m j)))))))))))))
def Jw n m h K:=
  ∃(c:NV),F5 (λs p q k=>aA (lM n (jA n (gH n))=lM c (jA c (gH c))) (Cw h s p q k c) (∀(r:Bool),iB (gU r (Pf k q)) (!r) (cJ K 100 m h) (bF (λb o=>aH (aM n.args.a b o) ((0:Int)<=0) (0<aG n.args) (∃(y:Sl),aL m h b (o+0) (bH y)/\iP K y 0 m h)))))
def Nx n m h K:=
  Eh (qK (aU (pS n.s) (pR n.s) (aU (gP n.params) (eH n.q.op) (aU (kS n.q) (lY n.q) (aU (eH (mA n.q)) (i6 (kA n.q)) (jA n (gH n))))))::aX (fI 2) (qK zV)) (λc k u=>qK (aU (pS c.s) (pR c.s) (aU (gP c.params) (eH c.q.op) (aU (kS c.q) (lY c.q) (aU (eH (mA c.q)) (i6 (kA c.q)) (jA c (gH c))))))::aX (fI k) (dG u)) h (λk q z u r=>iB (gU r (Eo z k q u)) (!r) (cJ K 100 m h) (bF (λb o=>aH (aM n.args.a b o) ((0:Int)<=0) (0<aG n.args) (∃(y:Sl),aL m h b (o+0) (bH y)/\bF (λd e=>aH (aM n.args.a d e) ((0:Int)<=1) (1<aG n.args) (∃(f:Sl),aL m h d (e+1) (bH f)/\Bs y f h (λa A g=>iB (gU g (a=A)) (!g) (cJ K 100 m h) (bF (λj t=>aH (aM n.args.a
 j t) ((0:Int)<=0) (0<aG n.args) (∃(x:Sl),aL m h j (t+0) (bH x)/\iP K x 0 m h))))))))))
abbrev HQ(a:Int->Int->Prop):=∃(x c:Int),a x c
abbrev Vx(a:db->dh->Prop):=∃(x:db)(c:dh),a x c
abbrev Ex(a:Int->Int->Pred->db->dh->db->di->Int->dl->Prop):=HQ (λx c=>∃(d:Pred),Vx (λe f=>∃(g:db)(j:di)(n:Int)(o:dl),a x c d e f g j n o))
attribute [push_cast] HQ Vx Ex
def Jv n m h K:=
  ∃(e:NV),F5 (λs p q k=>aA (lM n (jA n (gH n))=lM e (jA e (gH e))) (Cw h s p q k e) (Eh (qK (aU (pS n.s) (pR n.s) (aU (gP n.params) (eH n.q.op) (aU (kS n.q) (lY n.q) (aU (eH (mA n.q)) (i6 (kA n.q)) (jA n (gH n))))))::aX (fI 1) (qK (IS (uN rU (aU rU (oE e.q) (aU (oF e.q) (y7 e.q) j5)))))) (λd f u=>qK (aU (pS d.s) (pR d.s) (aU (gP d.params) (eH d.q.op) (aU (kS d.q) (lY d.q) (aU (eH (mA d.q)) (i6 (kA d.q)) (jA d (gH d))))))::aX (fI f) (dG u)) h (λf B C u r=>iB (gU r (Eo C f B u)) (!r) (cJ K 100 m h) (∃(d:NV),F5 (λD E j x=>∃(a:db),aH (lM n (jA n (gH n))=lM d (jA d (gH d))) (Cw h D E j
 x d) (x[0]? =Option.some a) (∀(z:Bool),iB (gU z (Ex (λo t w c F g A l G=>j=Query.mk o t w c F g A l G/\mW a g A l))) (!z) (cJ K 100 m h) (bF (λb o=>aH (aM n.args.a b o) ((0:Int)<=0) (0<aG n.args) (∃(y:Sl),aL m h b (o+0) (bH y)/\iP K y 0 m h)))))))))
def Ju n m h K:=
  ∃(e:NV),F5 (λs p q k=>aA (lM n (jA n (gH n))=lM e (jA e (gH e))) (Cw h s p q k e) (Eh (qK (aU (pS n.s) (pR n.s) (aU (gP n.params) (eH n.q.op) (aU (kS n.q) (lY n.q) (aU (eH (mA n.q)) (i6 (kA n.q)) (jA n (gH n))))))::aX (fI 2) (qK (IS (uN rU (aU rU (oE e.q) (aU (oF e.q) (y7 e.q) j5)))))) (λd A u=>qK (aU (pS d.s) (pR d.s) (aU (gP d.params) (eH d.q.op) (aU (kS d.q) (lY d.q) (aU (eH (mA d.q)) (i6 (kA d.q)) (jA d (gH d))))))::aX (fI A) (dG u)) h (λA J L u r=>iB (gU r (Eo L A J u)) (!r) (cJ K 100 m h) (bF (λb o=>aH (aM n.args.a b o) ((0:Int)<=0) (0<aG n.args) (∃(y:Sl),aL m h b (o+0) (bH y)/\bF (λf j=>aH
 (aM n.args.a f j) ((0:Int)<=1) (1<aG n.args) (∃(x:Sl),aL m h f (j+1) (bH x)/\Bs y x h (λa M B=>iB (gU B (a=M)) (!B) (aA (dN h b o 0 (bH y)) (dN h f j 1 (bH x)) (cJ K 100 m h)) (aA (dN h b o 0 (bH y)) (dN h f j 1 (bH x)) (∃(d:NV),F5 (λO P C D=>∃(E:db),aH (lM n (jA n (gH n))=lM d (jA d (gH d))) (Cw h O P C D d) (D[0]? =Option.some E) (∀(F:Bool),iB (gU F (Ex (λz t w c Q g G l R=>C=Query.mk z t w c Q g G l R/\mW E g G l))) (!F) (cJ K 100 m h) (bF (λH z=>aH (aM n.args.a H z) ((0:Int)<=0) (0<aG n.args) (∃(I:Sl),aL m h H (z+0) (bH I)/\iP K I 0 m h))))))))))))))))
theorem VQ{e}(h:e≠0):fin (eK e)=eK e:=by unfold fin;rw[if_neg (by simpa[eK]using h)];rfl
theorem aJQ l:fin (l,0)=mT l:=by unfold fin;grind
structure Tst(K:da)(m:MH)(h:PH)(full:db×Int):Prop where
 all:∀r,fin r=full->KR K m h r
theorem Tst.err{f e}(x:Tst K m h f)(d:f=eK e)(g:e≠0)(c:PH.le h h'):K (.tup [.val (.slice none 0 0),.val (.int .i64 e)]) m h':=
 (x.all (eK e) (by rw[d,VQ g])).err c rfl
theorem Tst.ok{f sl}(x:Tst K m h f)(d:f=mT l)(c:PH.le h h')(e:Ints h' sl l):K (.tup [.val (.slice sl.a sl.len sl.cap),.val (.int .i64 0)]) m h':=
 x.all (l,0) (by rw[d,aJQ]) sl h' c e
theorem AO{q}(h:¬((ks.length:Int)=arity q.op/\dC q)):CA s ps q ks=eK 100:=by
 unfold CA;by_cases c:(ks.length:Int)=arity q.op
 .rw[if_pos c];unfold eV;rw[if_pos (.inr λe=>h ⟨c,e⟩)]
 grind
theorem uJ{s:jC}{ps op ta w co on gr od li args ks}(c:(ks.length:Int)=arity op)(d:dC (.mk op ta w co on gr od li args))(e:0<=arity op):
 CA s ps (.mk op ta w co on gr od li args) ks=eV s ps (.mk op ta w co on gr od li args) (ks.getD 0 []) (ks.getD 1 [])/\¬(arity op<0\/¬dC (.mk op ta w co on gr od li args)):=by
 unfold CA;rw[if_pos (show(ks.length:Int)=arity (Query.op (.mk op ta w co on gr od li args))from c)]
 grind
section
variable{n:NV}{s:jC}{ps:db}{ta:Int}{w:Pred}{co:db}{on:dh}{gr:db}{od:di}{li:Int}{args:dl}{ks:List db}{m:MH}{h:PH}{K:da}
theorem ZA(c:(ks.length:Int)=1):∃a,ks=[a]:=by
 match ks,c with
 |[a],_=>grind
 |[],h=>simp at h
 |_::_::_,h=>grind
theorem Ve(c:(ks.length:Int)=2):∃a b,ks=[a,b]:=by
 match ks,c with
 |[a,b],_=>grind
 |[],h=>simp at h
 |[_],h=>simp at h
 |_::_::_::_,h=>grind
theorem cyZ(f:Cw h s ps (.mk 1 ta w co on gr od li args) ks n)(u:nY s)(c:Tst K m h (CA s ps (.mk 1 ta w co on gr od li args) ks)):JA n m h K:=by
 dsimp only[JA,push_cast];have x:=f.q_.parts;have j:=x.table_;have y:=f.s_.tables.slen;refine⟨n,0,⟨0,n.q.table,⟨0,0,fQ,fQ,⟨none,0,0⟩⟩,⟨none,0,0⟩,⟨none,0,0⟩,⟨none,0,0⟩,⟨none,0,0⟩,0,⟨none,0,0⟩⟩,s,ps,_,ks,.mk 0 ta fN [] [] [] [] 0 [],rfl,f,mL.rep ⟨rfl,j,FX h,⟨.nil _ _,bi⟩,⟨.nil _ _,bi⟩,⟨.nil _ _,bi⟩,⟨.nil _ _,bi⟩,rfl,.nil _ _ _ _⟩,λr o=>aC (λz=>c.err (AO λe=>?_) aD (.refl _)) (λz=>?_)⟩
 .have:r=true:=o.2 ⟨e.1,by have:=e.2;simp[dC]at this;obtain⟨rfl,rfl,rfl,rfl,rfl,rfl⟩:=this;rfl⟩
  grind
 obtain⟨A,d⟩:=o.1 bo;simp only[Query.withOf,Query.mk.injEq]at d;obtain⟨_,_,rfl,rfl,rfl,rfl,rfl,rfl,_⟩:=d;obtain⟨B,C⟩:=uJ (s:=s) (ps:=ps) (op:=1) (ta:=ta) (w:=fN) (co:=[]) (on:=[]) (gr:=[]) (od:=[]) (li:=0) (args:=args) (ks:=ks) A (by simp[dC]) bj;rw[B]at c;unfold eV at c;rw[if_neg C]at c;dsimp only at c;rw[if_pos rfl]at c;refine aF (λD=>c.err (if_neg aD) aD (.refl _)) (λD=>aF (λE=>c.err (if_neg aD) aD (.refl _)) (λE=>⟨n.s,s,n.q.table,rfl,f.s_,u,λy h' g t=>?_⟩));rw[j]at t;exact c.ok (if_pos aD) g t
theorem cyX(f:Cw h s ps (.mk 2 ta w co on gr od li args) ks n)(c:Tst K m h (CA s ps (.mk 2 ta w co on gr od li args) ks)):Jz n m h K:=by
 dsimp only[Jz,push_cast];have x:=f.q_.parts;refine⟨n,1,⟨0,0,n.q.where_,⟨none,0,0⟩,⟨none,0,0⟩,⟨none,0,0⟩,⟨none,0,0⟩,0,⟨none,0,0⟩⟩,s,ps,_,ks,.mk 0 0 w [] [] [] [] 0 [],rfl,f,mL.rep ⟨rfl,rfl,x.where_,⟨.nil _ _,bi⟩,⟨.nil _ _,bi⟩,⟨.nil _ _,bi⟩,⟨.nil _ _,bi⟩,rfl,.nil _ _ _ _⟩,λr o=>aC (λB=>c.err (AO λe=>?_) aD (.refl _)) (λB=>?_)⟩
 .have:r=true:=o.2 ⟨e.1,by have:=e.2;simp[dC]at this;obtain⟨rfl,rfl,rfl,rfl,rfl,rfl⟩:=this;rfl⟩
  grind
 obtain⟨t,d⟩:=o.1 bo;simp only[Query.withOf,Query.mk.injEq]at d;obtain⟨_,rfl,_,rfl,rfl,rfl,rfl,rfl,_⟩:=d;obtain⟨C,D⟩:=uJ (s:=s) (ps:=ps) (op:=2) (ta:=0) (w:=w) (co:=[]) (on:=[]) (gr:=[]) (od:=[]) (li:=0) (args:=args) (ks:=ks) t (by simp[dC]) bj;rw[C]at c;unfold eV at c;rw[if_neg D]at c;dsimp only at c;rw[if_neg bj,if_pos rfl]at c;obtain⟨a,rfl⟩:=ZA t;obtain⟨u,y,g,z,F,A,G,H⟩:=f.arg (j:=0) rfl;simp only[getD_cons_zero]at c;refine⟨u,y,z,aD,aD,g,.imm aD,g,n.params,n.q.where_,a,ps,w,rfl,A,f.ps_,x.where_,aC (λE=>c.err (if_neg bo) bo (.refl _)) (λE=>⟨u,y,z,aD,aD,g,.imm aD,c.ok (if_pos bo) (.refl _) A⟩)⟩
theorem cxX(t:Cw h s ps (.mk 5 ta w co on gr od li args) ks n)(d:Tst K m h (CA s ps (.mk 5 ta w co on gr od li args) ks)):Jw n m h K:=by
 dsimp only[Jw,push_cast];refine⟨n,s,ps,_,ks,rfl,t,λr u=>aC (λx=>d.err ?_ aD (.refl _)) (λx=>?_)⟩
 .by_cases f:((ks.length:Int)=arity 5/\dC (.mk 5 ta w co on gr od li args))
  .obtain⟨g,o⟩:=uJ (s:=s) (ps:=ps) f.1 f.2 bj;rw[g];unfold eV;rw[if_neg o];dsimp only;rw[if_neg bj,if_neg bj,if_neg bj,if_neg bj,if_pos rfl,if_neg];intro c;have e:=f.2;simp[dC]at e;have:r=true:=u.2 ⟨by have:=f.1;simp[arity]at this;omega,e.1,e.2.1,e.2.2.1,e.2.2.2.1,e.2.2.2.2.1,e.2.2.2.2.2,c⟩
   grind
  .exact AO f
 obtain⟨y,rfl,rfl,rfl,rfl,rfl,rfl,c⟩:=u.1 bo;obtain⟨g,o⟩:=uJ (s:=s) (ps:=ps) (op:=5) (ta:=0) (w:=fN) (co:=[]) (on:=on) (gr:=[]) (od:=[]) (li:=0) (args:=args) (ks:=ks) (by rw[y];rfl) (by simp[dC]) bj;rw[g]at d;unfold eV at d;rw[if_neg o]at d;dsimp only at d;rw[if_neg bj,if_neg bj,if_neg bj,if_neg bj,if_pos rfl,if_pos c]at d;obtain⟨a,b,rfl⟩:=Ve (ks:=ks) aD;obtain⟨z,A,B,C,E,D,F,G⟩:=t.arg (j:=0) rfl;exact⟨z,A,C,aD,aD,B,.imm aD,d.ok rfl (.refl _) D⟩
theorem cxZ(x:Cw h s ps (.mk 4 ta w co on gr od li args) ks n)(f:Tst K m h (CA s ps (.mk 4 ta w co on gr od li args) ks)):Jx n m h K:=by
 dsimp only[Jx,push_cast];refine⟨n,s,ps,_,ks,rfl,x,λr C=>aC (λD=>f.err ?_ aD (.refl _)) (λD=>?_)⟩
 .by_cases o:((ks.length:Int)=arity 4/\dC (.mk 4 ta w co on gr od li args))
  .obtain⟨y,z⟩:=uJ (s:=s) (ps:=ps) o.1 o.2 bj;rw[y];unfold eV;rw[if_neg z];dsimp only;rw[if_neg bj,if_neg bj,if_neg bj,if_pos rfl,if_neg];intro c;have e:=o.2;simp[dC]at e;have:r=true:=C.2 ⟨by have:=o.1;simp[arity]at this;omega,e.1,e.2.1,e.2.2.1,e.2.2.2.1,e.2.2.2.2.1,e.2.2.2.2.2,c⟩
   grind
  .exact AO o
 obtain⟨d,rfl,rfl,rfl,rfl,rfl,rfl,c⟩:=C.1 bo;obtain⟨y,z⟩:=uJ (s:=s) (ps:=ps) (op:=4) (ta:=0) (w:=fN) (co:=[]) (on:=on) (gr:=[]) (od:=[]) (li:=0) (args:=args) (ks:=ks) (by rw[d];rfl) (by simp[dC]) bj;rw[y]at f;unfold eV at f;rw[if_neg z]at f;dsimp only at f;rw[if_neg bj,if_neg bj,if_neg bj,if_pos rfl,if_pos c]at f;obtain⟨a,b,rfl⟩:=Ve (ks:=ks) aD;obtain⟨E,F,A,G,R,H,S,T⟩:=x.arg (j:=0) rfl;obtain⟨I,J,B,L,U,M,V,W⟩:=x.arg (j:=1) rfl;refine⟨E,F,G,aD,aD,A,.imm aD,I,J,L,aD,aD,B,.imm aD,aD,aD,λO h' g t=>⟨O,[a,b],rfl,⟨⟨[A,B],t,rfl,λj k d=>?_⟩,bi⟩,bi,λk d=>x.len k d,λP e u Q=>f.ok (l:=a++b) bi (g.trans u) bo⟩⟩
 match j,d with
 |0,d=>simp at d;subst d;exact⟨A,rfl,H.mono g⟩
 |1,d=>simp at d;subst d;exact⟨B,rfl,M.mono g⟩
 |_+2,d=>simp at d
theorem cxQ{op}(t:op=6\/op=7\/op=8)(o:Cw h s ps (.mk op ta w co on gr od li args) ks n)(d:Tst K m h (CA s ps (.mk op ta w co on gr od li args) ks)):Nx n m h K:=by
 dsimp only[Nx,push_cast];have x:=o.q_.parts;have P:arity op=2:=by rcases t with rfl|rfl|rfl<;>rfl
 have c:op≠1/\op≠2/\op≠3/\op≠4/\op≠5/\op≠9/\op≠10:=by omega
 refine⟨n,2,⟨0,0,⟨0,0,fQ,fQ,⟨none,0,0⟩⟩,⟨none,0,0⟩,⟨none,0,0⟩,⟨none,0,0⟩,⟨none,0,0⟩,0,⟨none,0,0⟩⟩,s,ps,_,ks,.mk 0 0 fN [] [] [] [] 0 [],rfl,o,mL.rep ⟨rfl,rfl,FX h,⟨.nil _ _,bi⟩,⟨.nil _ _,bi⟩,⟨.nil _ _,bi⟩,⟨.nil _ _,bi⟩,rfl,.nil _ _ _ _⟩,λr z=>aC (λG=>d.err (AO λe=>?_) aD (.refl _)) (λG=>?_)⟩
 .have A:(ks.length:Int)=arity op:=e.1;have:r=true:=z.2 ⟨aD,by have:=e.2;simp[dC,c]at this;obtain⟨rfl,rfl,rfl,rfl,rfl,rfl,rfl⟩:=this;rfl⟩
  grind
 obtain⟨H,f⟩:=z.1 bo;simp only[Query.withOf,Query.mk.injEq]at f;obtain⟨_,rfl,rfl,rfl,rfl,rfl,rfl,rfl,_⟩:=f;obtain⟨I,J⟩:=uJ (s:=s) (ps:=ps) (op:=op) (ta:=0) (w:=fN) (co:=[]) (on:=[]) (gr:=[]) (od:=[]) (li:=0) (args:=args) (ks:=ks) aD (by simp[dC]) aD;rw[I]at d;unfold eV at d;rw[if_neg J]at d;dsimp only at d;rw[if_neg c.1,if_neg c.2.1,if_neg c.2.2.1,if_neg c.2.2.2.1,if_neg c.2.2.2.2.1,if_neg c.2.2.2.2.2.1,if_neg c.2.2.2.2.2.2]at d;obtain⟨a,b,rfl⟩:=Ve H;obtain⟨B,C,u,D,Q,E,R,S⟩:=o.arg (j:=0) rfl;obtain⟨L,M,F,A,T,O,U,V⟩:=o.arg (j:=1) rfl;refine⟨B,C,D,aD,aD,u,.imm aD,L,M,A,aD,aD,F,.imm aD,u,F,a,b,rfl,E,O,λW g=>aC (λy=>d.err (if_neg λe=>?_) aD (.refl _)) (λy=>⟨B,C,D,aD,aD,u,.imm aD,d.ok (if_pos (g.1 bo)) (.refl _) E⟩)⟩;have e:a=b:=e;rw[g.2 e]at y;cases y
theorem cyQ(z:Cw h s ps (.mk 3 ta w co on gr od li args) ks n)(d:Tst K m h (CA s ps (.mk 3 ta w co on gr od li args) ks)):Jy n m h K:=by
 dsimp only[Jy,push_cast];have x:=z.q_.parts;have E:=x.columns_.slen;have F:=x.columns_.len;refine⟨n,1,⟨0,0,⟨0,0,fQ,fQ,⟨none,0,0⟩⟩,n.q.columns,⟨none,0,0⟩,⟨none,0,0⟩,⟨none,0,0⟩,0,⟨none,0,0⟩⟩,s,ps,_,ks,.mk 0 0 fN co [] [] [] 0 [],rfl,z,mL.rep ⟨rfl,rfl,FX h,x.columns_,⟨.nil _ _,bi⟩,⟨.nil _ _,bi⟩,⟨.nil _ _,bi⟩,rfl,.nil _ _ _ _⟩,λr G=>aC (λQ=>d.err (AO λe=>?_) aD (.refl _)) (λQ=>?_)⟩
 .have:r=true:=G.2 ⟨e.1,by have:=e.2;simp[dC]at this;obtain⟨rfl,rfl,rfl,rfl,rfl,rfl⟩:=this;rfl⟩
  grind
 obtain⟨H,o⟩:=G.1 bo;simp only[Query.withOf,Query.mk.injEq]at o;obtain⟨_,rfl,rfl,_,rfl,rfl,rfl,rfl,_⟩:=o;obtain⟨R,S⟩:=uJ (s:=s) (ps:=ps) (op:=3) (ta:=0) (w:=fN) (co:=co) (on:=[]) (gr:=[]) (od:=[]) (li:=0) (args:=args) (ks:=ks) H (by simp[dC]) bj;rw[R]at d;unfold eV at d;rw[if_neg S]at d;dsimp only at d;rw[if_neg bj,if_neg bj,if_pos rfl]at d;obtain⟨a,rfl⟩:=ZA H;obtain⟨I,J,L,M,r0,O,l0,j0⟩:=z.arg (j:=0) rfl;have T:=O.slen;simp only[getD_cons_zero]at d;refine aC (λP=>d.err (if_neg λe=>e.1 ((Ft E).1 P)) aD (.refl _)) (λP=>?_);have A:co≠[]:=λe=>bo
 refine⟨aD,aD,aD,aD,λ⟨i,l⟩=>i<=co.length/\l=(co.take i).map (λc=>a.getD c.toNat 0)/\gG (λ_ c=>DZ a c=true) co i,λ⟨i,_⟩=>co.length-i,⟨(0,[]),⟨aD,bi,.zero⟩,MT⟩,?_⟩;rintro⟨i,_⟩ ⟨hi,rfl,t⟩;dsimp only;refine aF (λu=>?_) (λU sl h' B f=>?_)
 .obtain⟨c,y⟩:=dW E u;obtain⟨V,W,C,X⟩:=x.columns_.at' y;have g:¬DZ a c=true->K (.tup [.val (.slice none 0 0),.val (.int .i64 100)]) m h:=λY=>d.err (if_neg λe=>Y (e.2 i c y)) aD (.refl _);refine⟨V,W,C,aD,u,c,.imm X,aF (λZ=>g λe=>?_) (λZ=>⟨I,J,M,aD,aD,L,.imm aD,aF (λd3=>g λe=>?_) (λd3=>?_)⟩)⟩
  .have:=eZ.1 e;omega
  .have:=eZ.1 e;omega
  obtain⟨b2,o2,D,r2⟩:=O.inb (n:=c) aD aD;refine⟨I,J,M,aD,aD,L,.imm aD,b2,o2,D,aD,aD,_,.imm r2,?_,?_,(i+1,(co.take (i+1)).map (λc=>a.getD c.toNat 0)),⟨aD,rfl,t.succ y (eZ.2 ⟨aD,aD⟩)⟩,aD,?_⟩
  .simp;omega
  .simp;omega
  .rw[jK y,cj];exact MT
 .rw[ci aD]at f;exact d.ok (if_pos ⟨A,t.all aD⟩) B ⟨f,bn⟩
theorem cwJ(d:Cw h s ps (.mk 9 ta w co on gr od li args) ks n)(c:Tst K m h (CA s ps (.mk 9 ta w co on gr od li args) ks)):Jv n m h K:=by
 dsimp only[Jv,push_cast];have x:=d.q_.parts;refine⟨n,s,ps,_,ks,rfl,d,n,1,⟨0,0,⟨0,0,fQ,fQ,⟨none,0,0⟩⟩,⟨none,0,0⟩,⟨none,0,0⟩,n.q.group,n.q.order,n.q.limit,⟨none,0,0⟩⟩,s,ps,_,ks,.mk 0 0 fN [] [] gr od li [],rfl,d,mL.rep ⟨rfl,rfl,FX h,⟨.nil _ _,bi⟩,⟨.nil _ _,bi⟩,x.group_,x.order_,x.limit_,.nil _ _ _ _⟩,λr g=>aC (λt=>c.err (AO λe=>?_) aD (.refl _)) (λt=>?_)⟩
 .have:r=true:=g.2 ⟨e.1,by have:=e.2;simp[dC]at this;obtain⟨rfl,rfl,rfl,rfl⟩:=this;rfl⟩
  grind
 obtain⟨o,f⟩:=g.1 bo;simp only[Query.withOf,Query.mk.injEq]at f;obtain⟨_,rfl,rfl,rfl,rfl,_,_,_,_⟩:=f;obtain⟨u,y⟩:=uJ (s:=s) (ps:=ps) (op:=9) (ta:=0) (w:=fN) (co:=[]) (on:=[]) (gr:=gr) (od:=od) (li:=li) (args:=args) (ks:=ks) o (by simp[dC]) bj;rw[u]at c;unfold eV at c;rw[if_neg y]at c;dsimp only at c;rw[if_neg bj,if_neg bj,if_neg bj,if_neg bj,if_neg bj,if_pos rfl]at c;obtain⟨a,rfl⟩:=ZA o;obtain⟨z,A,B,C,G,D,H,I⟩:=d.arg (j:=0) rfl;refine⟨n,s,ps,_,[a],a,rfl,d,rfl,λJ E=>aC (λF=>c.err (if_neg λe=>?_) aD (.refl _)) (λF=>⟨z,A,C,aD,aD,B,.imm aD,c.ok (if_pos ?_) (.refl _) D⟩)⟩
 .grind
 grind
theorem cwZ(d:Cw h s ps (.mk 10 ta w co on gr od li args) ks n)(c:Tst K m h (CA s ps (.mk 10 ta w co on gr od li args) ks)):Ju n m h K:=by
 dsimp only[Ju,push_cast];have x:=d.q_.parts;refine⟨n,s,ps,_,ks,rfl,d,n,2,⟨0,0,⟨0,0,fQ,fQ,⟨none,0,0⟩⟩,⟨none,0,0⟩,⟨none,0,0⟩,n.q.group,n.q.order,n.q.limit,⟨none,0,0⟩⟩,s,ps,_,ks,.mk 0 0 fN [] [] gr od li [],rfl,d,mL.rep ⟨rfl,rfl,FX h,⟨.nil _ _,bi⟩,⟨.nil _ _,bi⟩,x.group_,x.order_,x.limit_,.nil _ _ _ _⟩,λr t=>aC (λD=>c.err (AO λe=>?_) aD (.refl _)) (λD=>?_)⟩
 .have:r=true:=t.2 ⟨e.1,by have:=e.2;simp[dC]at this;obtain⟨rfl,rfl,rfl,rfl⟩:=this;rfl⟩
  grind
 obtain⟨u,f⟩:=t.1 bo;simp only[Query.withOf,Query.mk.injEq]at f;obtain⟨_,rfl,rfl,rfl,rfl,_,_,_,_⟩:=f;obtain⟨E,F⟩:=uJ (s:=s) (ps:=ps) (op:=10) (ta:=0) (w:=fN) (co:=[]) (on:=[]) (gr:=gr) (od:=od) (li:=li) (args:=args) (ks:=ks) u (by simp[dC]) bj;rw[E]at c;unfold eV at c;rw[if_neg F]at c;dsimp only at c;rw[if_neg bj,if_neg bj,if_neg bj,if_neg bj,if_neg bj,if_neg bj,if_pos rfl]at c;obtain⟨a,b,rfl⟩:=Ve u;obtain⟨y,z,g,A,P,B,Q,R⟩:=d.arg (j:=0) rfl;obtain⟨G,H,C,I,S,J,T,U⟩:=d.arg (j:=1) rfl;refine⟨y,z,A,aD,aD,g,.imm aD,G,H,I,aD,aD,C,.imm aD,g,C,a,b,rfl,B,J,λV o=>aC (λL=>⟨aD,aD,c.err (if_neg λe=>?_) aD (.refl _)⟩) (λL=>⟨aD,aD,n,s,ps,_,[a,b],a,rfl,d,rfl,λW M=>aC (λO=>c.err (if_neg λe=>?_) aD (.refl _)) (λO=>⟨y,z,A,aD,aD,g,.imm aD,c.ok (if_pos ⟨o.1 bo,?_⟩) (.refl _) B⟩)⟩)⟩
 .grind
 .grind
 .grind
end
def fv(f:Nat):CV:=.val (.func (.func f) #[] #[])
def UY:Vc.Spec:=λc m h K=>∃op,c=[cI op]/\
 branch (op==1) (K (fv 187) m h) (branch (op==2) (K (fv 188) m h) (branch (op==3) (K (fv 189) m h) (branch (op==4) (K (fv 190) m h) (branch (op==5) (K (fv 191) m h) (branch (op==6) (K (fv 192) m h) (branch (op==7) (K (fv 192) m h) (branch (op==8) (K (fv 192) m h) (branch (op==9) (K (fv 193) m h) (branch (op==10) (K (fv 194) m h) (K (.val .nilFunc) m h))))))))))
noncomputable def cnJ(N:Nat)(sc:cK)(p:Sl)(v:QV)(m:MH):=
 cZ [(75,Hd N),(141,UY),(187,CB (· =1)),(188,CB (· =2)),(189,CB (· =3)),(190,CB (· =4)),(191,CB (· =5)),(192,CB (λop=>op=6\/op=7\/op=8)),(193,CB (· =9)),(194,CB (· =10))] [(3,{A:=Nat×dg×PH,st:=λ⟨i,c,h⟩=>bS 62 65 [(1,sv p),(3,.at (.ptr 3 0)),(5,.at (.ptr 5 0)),(8,.at (.ptr 8 0)),(21,sv v.args),(22,iv v.args.len),(23,iv i)] [(3,.cells 27 (sc.enc.map .val)),(5,.cells 41 (v.enc.map .val)),(8,.cells 190 ((sc.enc++eS p++v.enc).map .val++[.lst 41])),(41,.lst 36 1 (c.map eS))] m h})] [] [] false
noncomputable abbrev qS a:=Value.func (Fn.func a) tE tE
attribute [push_cast] qS
def ND(op:Int)(m:MH)(h:PH)(K:da):=
  lG m h (λb e=>iR m e b (aU Value.nilFunc Value.nilFunc (aU Value.nilFunc Value.nilFunc (aU Value.nilFunc Value.nilFunc (aU Value.nilFunc Value.nilFunc (aU Value.nilFunc Value.nilFunc (lJ Value.nilFunc)))))) 241) (λb e=>GU (λc E=>aA (Ze e b (B7 c E 0)) (11<=c.size) (∀(d:MH),iR e d b (aU Value.nilFunc (qS 187) (aU (qS 188) (qS 189) (aU (qS 190) (qS 191) (aU (qS 192) (qS 192) (aU (qS 192) (qS 193) (xP (qS 194) 11 c.toList)))))) E->aZ op 0 (K (CV.val Value.nilFunc) d h) (gQ op 11 (K (CV.val Value.nilFunc) d h) (aA (cF op) (op<11) (∃(y:Option Nat),aL d h b (fF 0 op 1) (lJ (bXX y))/\K (CV.val (bXX y)) d h))))))
abbrev Am(a:Nat×dg×PH)(b:Nat)(c:Sl->CV)(d:NV->du)(e:Query->Prop)(g:(db×Int)->Sl->PH->Prop):=bN (jH a) b (List.map eS (j7 a)) (λx u=>∃(y:NV),F5 (λf z j A=>aA (pN (c x)=d y) (Cw u f z j A y) (aA (nY f) (e j) (∀(o:db×Int),fin o=CA f z j A->fB (λB t=>bY u t (Ints t B o.1) (g o B t))))))
noncomputable abbrev Au a b:=aU (sQ (kA a)) (eH (tD (kA a))) (aU (mS (kA a)) (lA (kA a)) (aU (i6 (pT a)) (sQ (pT a)) (aU (eH (tD (pT a))) (mS (pT a)) b)))
attribute [push_cast] Am Au
def XL N sc p v m h K:=
  Ja (λI x=>aA (I x) (aJ p) (aA cH dU (aA fP (aJ v.args) (aA (qY v) (bA x.1) (aA (cT sc) (cV v) (aA (PF sc (nX p) v v.on (nR (At.lst 41))) (oH 36 1 (bW 36 1 (List.map eS (j7 x)))) (bO (m=m) h (jH x)))))))) (λI e x=>yS (I x) x.1 v (bF (λb o=>aH (aM (gJ v) b o) (0<=(↑x.1:Int)) ((↑x.1:Int)<aG v.args) (∃(y:QV),aL m (jH x) b (bK o x.1 21) y.enc/\La sc p y (jH x) N (λs f q g c=>dH (aK s f q).2 0 (K (CV.tup (aX Dn (CV.val (eH (aK s f q).2)))) m c) (aA (uP (j7 x) 1) (Cj (j7 x)) (∃(d:Nat×dg×PH),aA (I d) (e d<e x) (aA (aJ p) cH (aA dU fP (aA (aJ v.args) (qY v) (aA (fU (bC x.1 1)=bP d.1) (cT sc) (aA (cV v) (PF sc (nX p) v v.on
 (nR (At.lst 41))) (aH (bW 36 1 (vU (j7 x) (vV g))=bW 36 1 (List.map eS (j7 d))) (m=m) (c=jH d) True)))))))))))) (∃(o:Int),vI v.op o (cW (o==1) (Am x 1 (λs=>qK (aU (pS sc) (pR sc) (aU (gP p) (eH v.op) (aU (kS v) (lY v) (aU (eH (mA v)) (i6 (kA v)) (Au v (aU (lA (pT v)) (Aj v) (aU (AB v) (gP v.on) (aU (oE v) (oF v) (aU (eH v.limit) (zE v) (bH s))))))))))) (λn=>lM n (jA n (gH n))) (λq=>q.op=1) (λr s c=>qE (r.2 !=0) (cJ K r.2 m c) (aG s) 12 (cJ K 2 m c) (iP K s 0 m c))) (o==2) (Am x 1 (λs=>qK (aU (pS sc) (pR sc) (aU (gP p) (eH v.op) (aU (kS v) (lY v) (aU (eH (mA v)) (i6 (kA v)) (Au v (aU (lA (pT v)) (Aj v) (aU (AB v) (gP
 v.on) (aU (oE v) (oF v) (aU (eH v.limit) (zE v) (bH s))))))))))) (λn=>lM n (jA n (gH n))) (λq=>q.op=2) (λr s c=>qE (r.2 !=0) (cJ K r.2 m c) (aG s) 12 (cJ K 2 m c) (iP K s 0 m c))) (cW (o==3) (Am x 1 (λs=>qK (aU (pS sc) (pR sc) (aU (gP p) (eH v.op) (aU (kS v) (lY v) (aU (eH (mA v)) (i6 (kA v)) (Au v (aU (lA (pT v)) (Aj v) (aU (AB v) (gP v.on) (aU (oE v) (oF v) (aU (eH v.limit) (zE v) (bH s))))))))))) (λn=>lM n (jA n (gH n))) (λq=>q.op=3) (λr s c=>qE (r.2 !=0) (cJ K r.2 m c) (aG s) 12 (cJ K 2 m c) (iP K s 0 m c))) (o==4) (Am x 1 (λs=>qK (aU (pS sc) (pR sc) (aU (gP p) (eH v.op) (aU (kS v) (lY v) (aU (eH (mA v)) (i6 (kA
 v)) (Au v (aU (lA (pT v)) (Aj v) (aU (AB v) (gP v.on) (aU (oE v) (oF v) (aU (eH v.limit) (zE v) (bH s))))))))))) (λn=>lM n (jA n (gH n))) (λq=>q.op=4) (λr s c=>qE (r.2 !=0) (cJ K r.2 m c) (aG s) 12 (cJ K 2 m c) (iP K s 0 m c))) (cW (o==5) (Am x 1 (λs=>qK (aU (pS sc) (pR sc) (aU (gP p) (eH v.op) (aU (kS v) (lY v) (aU (eH (mA v)) (i6 (kA v)) (Au v (aU (lA (pT v)) (Aj v) (aU (AB v) (gP v.on) (aU (oE v) (oF v) (aU (eH v.limit) (zE v) (bH s))))))))))) (λn=>lM n (jA n (gH n))) (λq=>q.op=5) (λr s c=>qE (r.2 !=0) (cJ K r.2 m c) (aG s) 12 (cJ K 2 m c) (iP K s 0 m c))) (o==6) (Am x 1 (λs=>qK (aU (pS sc) (pR sc) (aU (gP p) (eH
 v.op) (aU (kS v) (lY v) (aU (eH (mA v)) (i6 (kA v)) (Au v (aU (lA (pT v)) (Aj v) (aU (AB v) (gP v.on) (aU (oE v) (oF v) (aU (eH v.limit) (zE v) (bH s))))))))))) (λn=>lM n (jA n (gH n))) (λq=>q.op=6\/q.op=7\/q.op=8) (λr s c=>qE (r.2 !=0) (cJ K r.2 m c) (aG s) 12 (cJ K 2 m c) (iP K s 0 m c))) (cW (o==7) (Am x 1 (λs=>qK (aU (pS sc) (pR sc) (aU (gP p) (eH v.op) (aU (kS v) (lY v) (aU (eH (mA v)) (i6 (kA v)) (Au v (aU (lA (pT v)) (Aj v) (aU (AB v) (gP v.on) (aU (oE v) (oF v) (aU (eH v.limit) (zE v) (bH s))))))))))) (λn=>lM n (jA n (gH n))) (λq=>q.op=6\/q.op=7\/q.op=8) (λr s c=>qE (r.2 !=0) (cJ K r.2 m c) (aG s) 12 (cJ
 K 2 m c) (iP K s 0 m c))) (o==8) (Am x 1 (λs=>qK (aU (pS sc) (pR sc) (aU (gP p) (eH v.op) (aU (kS v) (lY v) (aU (eH (mA v)) (i6 (kA v)) (Au v (aU (lA (pT v)) (Aj v) (aU (AB v) (gP v.on) (aU (oE v) (oF v) (aU (eH v.limit) (zE v) (bH s))))))))))) (λn=>lM n (jA n (gH n))) (λq=>q.op=6\/q.op=7\/q.op=8) (λr s c=>qE (r.2 !=0) (cJ K r.2 m c) (aG s) 12 (cJ K 2 m c) (iP K s 0 m c))) (cW (o==9) (Am x 1 (λs=>qK (aU (pS sc) (pR sc) (aU (gP p) (eH v.op) (aU (kS v) (lY v) (aU (eH (mA v)) (i6 (kA v)) (Au v (aU (lA (pT v)) (Aj v) (aU (AB v) (gP v.on) (aU (oE v) (oF v) (aU (eH v.limit) (zE v) (bH s))))))))))) (λn=>lM n (jA n (gH n)))
 (λq=>q.op=9) (λr s c=>qE (r.2 !=0) (cJ K r.2 m c) (aG s) 12 (cJ K 2 m c) (iP K s 0 m c))) (o==10) (Am x 1 (λs=>qK (aU (pS sc) (pR sc) (aU (gP p) (eH v.op) (aU (kS v) (lY v) (aU (eH (mA v)) (i6 (kA v)) (Au v (aU (lA (pT v)) (Aj v) (aU (AB v) (gP v.on) (aU (oE v) (oF v) (aU (eH v.limit) (zE v) (bH s))))))))))) (λn=>lM n (jA n (gH n))) (λq=>q.op=10) (λr s c=>qE (r.2 !=0) (cJ K r.2 m c) (aG s) 12 (cJ K 2 m c) (iP K s 0 m c))) (cJ K 100 m (jH x)))))))))
theorem apQ:cz 141 UY:=by
 refine Hr func141 ?_;rintro u m h K ⟨op,rfl,f⟩;refine⟨vO [] [] [] [] [241] [] false,rfl,aI,ND op m h (mK h K),bh,?_⟩;show ND op m h (mK h K);dsimp only[ND,push_cast];intro b J t g;refine⟨_,_,⟨g.at_⟩,bj,λx j=>?_⟩;have c:Sub m x:=((Sub.refl m).upd t.m_ g.other).upd t.m_ j.other;have e:=j.at_
 have d:∀k,¬(1<=op/\op<=10)->op=k->K (.val .nilFunc) m h:=λk L _=>by
  have:(op==1)=false/\(op==2)=false/\(op==3)=false/\(op==4)=false/\(op==5)=false/\(op==6)=false/\(op==7)=false/\(op==8)=false/\(op==9)=false/\(op==10)=false:=by
   grind
  obtain⟨y,z,A,B,C,D,E,F,G,o⟩:=this;rw[y,z,A,B,C,D,E,F,G,o]at f;exact f
 refine aF (λH=>.sub c (d _ aD rfl)) (λH=>aF (λI=>.sub c (d _ aD rfl)) (λI=>⟨aD,aD,?_⟩));have:op=0\/op=1\/op=2\/op=3\/op=4\/op=5\/op=6\/op=7\/op=8\/op=9\/op=10:=by omega
 rcases this with rfl|rfl|rfl|rfl|rfl|rfl|rfl|rfl|rfl|rfl|rfl
 .exact⟨none,.lent _ _ _ e rfl,.sub c (d 0 aD rfl)⟩
 .exact⟨some 187,.lent _ _ _ e rfl,.sub c f⟩
 .exact⟨some 188,.lent _ _ _ e rfl,.sub c f⟩
 .exact⟨some 189,.lent _ _ _ e rfl,.sub c f⟩
 .exact⟨some 190,.lent _ _ _ e rfl,.sub c f⟩
 .exact⟨some 191,.lent _ _ _ e rfl,.sub c f⟩
 .exact⟨some 192,.lent _ _ _ e rfl,.sub c f⟩
 .exact⟨some 192,.lent _ _ _ e rfl,.sub c f⟩
 .exact⟨some 192,.lent _ _ _ e rfl,.sub c f⟩
 .exact⟨some 193,.lent _ _ _ e rfl,.sub c f⟩
 .exact⟨some 194,.lent _ _ _ e rfl,.sub c f⟩
theorem ahX:cz 187 (CB (· =1)):=by
 refine gW func187 ?_;rintro d m h K ⟨n,s,ps,q,ks,rfl,e,f,c,g⟩;obtain⟨op,ta,w,co,on,gr,od,li,args⟩:=q;refine⟨cZ [(236,ET),(69,yG)] [] [] [] false,rfl,(aE zK (aE Jo aI)),JA n m h K,bh,?_⟩;dsimp only[JA,push_cast];cases (show op=1 from c);exact cyZ e f ⟨g⟩
theorem ahQ:cz 188 (CB (· =2)):=by
 refine gW func188 ?_;rintro d m h K ⟨n,s,ps,q,ks,rfl,e,g,c,f⟩;obtain⟨op,ta,w,co,on,gr,od,li,args⟩:=q;refine⟨cZ [(236,ET),(138,v7)] [] [] [] false,rfl,(aE zK (aE Ki aI)),Jz n m h K,bh,?_⟩;dsimp only[Jz,push_cast];cases (show op=2 from c);exact cyX e ⟨f⟩
theorem agJ:cz 189 (CB (· =3)):=by
 refine gW func189 ?_;rintro d m h K ⟨n,s,ps,q,ks,rfl,e,g,c,f⟩;obtain⟨op,ta,w,co,on,gr,od,li,args⟩:=q;refine⟨bJX n m h,rfl,(aE zK aI),Jy n m h K,bh,?_⟩;dsimp only[Jy,push_cast];cases (show op=3 from c);exact cyQ e ⟨f⟩
theorem agX(c:cz 154 MC):cz 190 (CB (· =4)):=by
 refine gW func190 ?_;rintro e m h K ⟨n,s,ps,q,ks,rfl,f,j,d,g⟩;obtain⟨op,ta,w,co,on,gr,od,li,args⟩:=q;refine⟨cZ [(237,Sd),(154,MC)] [] [] [] false,rfl,(aE Rq (aE c aI)),Jx n m h K,bh,?_⟩;dsimp only[Jx,push_cast];cases (show op=4 from d);exact cxZ f ⟨g⟩
theorem agQ:cz 191 (CB (· =5)):=by
 refine gW func191 ?_;rintro d m h K ⟨n,s,ps,q,ks,rfl,e,g,c,f⟩;obtain⟨op,ta,w,co,on,gr,od,li,args⟩:=q;refine⟨cZ [(237,Sd)] [] [] [] false,rfl,(aE Rq aI),Jw n m h K,bh,?_⟩;dsimp only[Jw,push_cast];cases (show op=5 from c);exact cxX e ⟨f⟩
theorem afJ:cz 192 (CB (λop=>op=6\/op=7\/op=8)):=by
 refine gW func192 ?_;rintro d m h K ⟨n,s,ps,q,ks,rfl,e,g,c,f⟩;obtain⟨op,ta,w,co,on,gr,od,li,args⟩:=q;refine⟨cZ [(236,ET),(152,DW)] [] [] [] false,rfl,(aE zK (aE G5 aI)),Nx n m h K,bh,?_⟩;exact cxQ c e ⟨f⟩
theorem afZ:cz 193 (CB (· =9)):=by
 refine gW func193 ?_;rintro d m h K ⟨n,s,ps,q,ks,rfl,e,g,c,f⟩;obtain⟨op,ta,w,co,on,gr,od,li,args⟩:=q;refine⟨cZ [(236,ET),(238,R7),(239,R8)] [] [] [] false,rfl,(aE zK (aE Rp (aE Ro aI))),Jv n m h K,bh,?_⟩;dsimp only[Jv,push_cast];cases (show op=9 from c);exact cwJ e ⟨f⟩
theorem afX:cz 194 (CB (· =10)):=by
 refine gW func194 ?_;rintro d m h K ⟨n,s,ps,q,ks,rfl,e,g,c,f⟩;obtain⟨op,ta,w,co,on,gr,od,li,args⟩:=q;refine⟨cZ [(236,ET),(152,DW),(238,R7),(239,R8)] [] [] [] false,rfl,(aE zK (aE G5 (aE Rp (aE Ro aI)))),Ju n m h K,bh,?_⟩;dsimp only[Ju,push_cast];cases (show op=10 from c);exact cwZ e ⟨f⟩
theorem aKQ(F:cz 154 MC):∀N,cz 75 (Hd N)
 |0=>by
  refine eG (fn:=Tryz.f75) (c:=dQ Tryz.f75) func75 rfl bj ?_;rintro S m h K ⟨sc,p,v,s,ps,q,rfl,_,_,_,_,hN,_⟩;omega
 |N+1=>by
  refine gW func75 ?_;rintro S m h K ⟨sc,p,v,s,ps,q,rfl,hs,C,hp,hq,hN,B⟩;refine⟨cnJ N sc p v m,rfl,(aE (aKQ F N) (aE apQ (aE ahX (aE ahQ (aE agJ (aE (agX F) (aE agQ (aE afJ (aE afZ (aE afX aI)))))))))),XL N sc p v m h K,bh,?_⟩;dsimp only[XL,push_cast];have T:=@vR q;have U:=hq;obtain⟨op,ta,w,co,on,gr,od,li,args⟩:=q;have x:=hq.parts;have D:=x.op_;have hl:=x.args_.slen;have a':=x.args_.len;simp only[Query.args]at T;simp only[aK]at B;refine⟨λ⟨i,G,L⟩=>i<=args.length/\PH.le h L/\∃ks,Slices L G ks/\(args.take i).map (aK s ps)=ks.map (λk=>(k,0)),λ⟨i,_,_⟩=>args.length-i,⟨(0,[],h),⟨aD,.refl _,[],⟨rfl,λj s k V=>by simp at V⟩,bi⟩,MT⟩,?_⟩;rintro⟨i,G,L⟩ ⟨hi,y,ks,P,A⟩;have W:ks.length=i:=by have:=congrArg List.length A;grind
  have X:G.length=i:=by rw[P.1,W]
  dsimp only;refine aF (λH=>?_) (λa0=>?_)
  .obtain⟨Q,I⟩:=dW hl H;obtain⟨b1,o1,u,Y,r1,Z⟩:=(x.args_.mono y).at I;refine⟨b1,o1,Y,aD,H,u,.imm r1,sc,p,u,s,ps,Q,rfl,hs.mono y,C,hp.mono y,Z,?_,λg h' d E=>aC (λV=>?_) (λV=>?_)⟩
   .grind
   .have he:(aK s ps Q).2≠0:=bo
    rw[HV he A I rfl]at B;exact B.err (y.trans d) (if_neg he)
   .have he:(aK s ps Q).2=0:=bo
    refine⟨bn,bn,(i+1,G++[g],h'),⟨aD,y.trans d,ks++[(aK s ps Q).1],(P.mono d).snoc E,?_⟩,aD,?_⟩
    .rw[jK I,A,cj]
     grind
    .rw[cj];exact MT
  .rw[ci aD]at A;rw[vX A]at B;simp only[if_true]at B;have B:KR K m h (CA s ps (.mk op ta w co on gr od li args) ks):=B
   have o:∀(g:Sl)(h':PH),PH.le L h'->cO h' g 1 (G.map eS)->Cw h' s ps (.mk op ta w co on gr od li args) ks ⟨sc,p,v,g⟩:=λg h' d f=>by
    refine⟨(hs.mono y).mono d,(hp.mono y).mono d,(U.mono y).mono d,⟨⟨G,f,P.1.symm,λj k hk=>?_⟩,aD⟩,λk hk=>?_⟩
    .have hj:j<G.length:=bo
     exact⟨G[j],cd hj,(P.2 j _ _ (cd hj) hk).mono d⟩
    .obtain⟨j,hj⟩:=mem_iff_getElem?.1 hk;have:=Na A j
     grind
   have t:∀(h':PH),PH.le L h'->∀r,fin r=CA s ps (.mk op ta w co on gr od li args) ks->∀(g:Sl)(z:PH),PH.le h' z->Ints z g r.1->
    branch (r.2 !=0) (K (.tup [.val (.slice none 0 0),.val (.int .i64 r.2)]) m z) (branch (decide ((g.len:Int)>12)) (K (.tup [.val (.slice none 0 0),.val (.int .i64 2)]) m z) (K (.tup [.val (.slice g.a g.len g.cap),.val (.int .i64 0)]) m z)):=by
    intro h' d r hr g z M E;have J:PH.le h z:=(y.trans d).trans M;rw[<-hr]at B;have X:=E.slen;refine aC (λR=>?_) (λR=>aF (λd2=>?_) (λd2=>?_))
    .have R:r.2≠0:=bo
     exact B.err J (by unfold fin;grind)
    .have R:r.2=0:=bo
     exact B.big (l:=r.1) J (by unfold fin;grind) aD
    .have R:r.2=0:=bo
     exact B.ok (l:=r.1) J (by unfold fin;grind) aD E.row
   refine⟨v.op,rfl,?_⟩;rw[D];refine aC (λc1 g h' d f=>⟨⟨sc,p,v,g⟩,s,ps,_,ks,by rw[<-D],o g h' d f,C,beq_iff_eq.1 c1,t h' d⟩) (λc1=>?_);refine aC (λc2 g h' d f=>⟨⟨sc,p,v,g⟩,s,ps,_,ks,by rw[<-D],o g h' d f,C,beq_iff_eq.1 c2,t h' d⟩) (λc2=>?_);refine aC (λc3 g h' d f=>⟨⟨sc,p,v,g⟩,s,ps,_,ks,by rw[<-D],o g h' d f,C,beq_iff_eq.1 c3,t h' d⟩) (λc3=>?_);refine aC (λc4 g h' d f=>⟨⟨sc,p,v,g⟩,s,ps,_,ks,by rw[<-D],o g h' d f,C,beq_iff_eq.1 c4,t h' d⟩) (λc4=>?_);refine aC (λc5 g h' d f=>⟨⟨sc,p,v,g⟩,s,ps,_,ks,by rw[<-D],o g h' d f,C,beq_iff_eq.1 c5,t h' d⟩) (λc5=>?_);refine aC (λc6 g h' d f=>⟨⟨sc,p,v,g⟩,s,ps,_,ks,by rw[<-D],o g h' d f,C,.inl (beq_iff_eq.1 c6),t h' d⟩) (λc6=>?_);refine aC (λc7 g h' d f=>⟨⟨sc,p,v,g⟩,s,ps,_,ks,by rw[<-D],o g h' d f,C,.inr (.inl (beq_iff_eq.1 c7)),t h' d⟩) (λc7=>?_);refine aC (λc8 g h' d f=>⟨⟨sc,p,v,g⟩,s,ps,_,ks,by rw[<-D],o g h' d f,C,.inr (.inr (beq_iff_eq.1 c8)),t h' d⟩) (λc8=>?_);refine aC (λc9 g h' d f=>⟨⟨sc,p,v,g⟩,s,ps,_,ks,by rw[<-D],o g h' d f,C,beq_iff_eq.1 c9,t h' d⟩) (λc9=>?_);refine aC (λO g h' d f=>⟨⟨sc,p,v,g⟩,s,ps,_,ks,by rw[<-D],o g h' d f,C,beq_iff_eq.1 O,t h' d⟩) (λO=>B.err y ?_);refine AO λe=>?_;have:arity op= -1:=by simp only[arity];grind
   have:=e.1;simp only[Query.op]at this;omega
def iO:PV:=⟨0,0,fQ,fQ,⟨none,0,0⟩⟩
theorem FW(l:dh):eU 2 (l.map pA):=by
 constructor
 .intro e c;obtain⟨x,_,rfl⟩:=mem_map.1 c;rfl
 .intro e c u d;obtain⟨x,_,rfl⟩:=mem_map.1 c;simp[pA]at d;rcases d with rfl|rfl<;>rfl
theorem FV(l:di):eU 2 (l.map Aa):=by
 constructor
 .intro e c;obtain⟨x,_,rfl⟩:=mem_map.1 c;rfl
 .intro e c u d;obtain⟨x,_,rfl⟩:=mem_map.1 c;simp[Aa]at d;rcases d with rfl|rfl<;>rfl
theorem Ql{n c α}{enc:α->dc}{l}(r:cO h ⟨none,n,c⟩ sz (l.map enc)):l=[]:=by
 rcases r.row with e|⟨b,o,e,_⟩
 .simpa using e
 .cases e
end Go.Ps
