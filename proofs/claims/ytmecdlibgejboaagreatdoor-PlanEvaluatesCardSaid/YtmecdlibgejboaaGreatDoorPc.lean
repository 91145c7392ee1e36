/-
  Part 3 of a proof that a law of the given program returns true: a condition generator that is proved sound, and contracts of functions. No condition of its own. Own work, joined by a program (pack2.py).
-/
import Derived.Test.YtmecdlibgejboaaGreatDoorPb
set_option linter.unusedVariables false
set_option linter.unusedSimpArgs false
namespace Go.Ps
open Go Go.Vc Go.Proofs List Tryz
variable{K:bo}{m:MH}{h:PH}{ps:br}{cb:Nat}{sc:bY}{v:QV}{q:Query}{p:Pred}{l:br}{i:Nat}{N:Nat}{m':MH}{h':PH}{co:br}{gr:br}{od:bz}{w:Pred}{ta:Int}{li:Int}{xs:List bm}{sz:Nat}{k:Nat}{ks:List br}{rs:br}{r:Sl}{a:br}{b:Nat}
structure Ref where
 columns:br
 table:Int
structure Ay where
 name:ByteArray
 columns:List nZ
 key:Int
 refs:List Ref
 checks:cm
structure mI where
 version:Int
 tables:List Ay
variable{s:mI}
structure TK(h:PH)(r:Ref)(v:E3):Prop where
 columns:Ints h v.columns r.columns
 table:v.table=r.table
def E5(h:PH)(s:Sl)(l:List nZ):Prop:=bN h 2 nZ.enc Eq s l
structure Ll(h:PH)(t:Ay)(v:cK):Prop where
 name:v.name=t.name
 columns:E5 h v.columns t.columns
 key:v.key=t.key
 refs:bN h 2 E3.enc (TK h) v.references t.refs
 checks:FO h v.checks t.checks
structure gO(h:PH)(s:mI)(v:bY):Prop where
 version:v.version=s.version
 tables:bN h 5 cK.enc (Ll h) v.tables s.tables
theorem TK.mono{r:Ref}{v:E3}(x:TK h r v)(le:PH.le h h'):TK h' r v:=⟨x.columns.mono le,x.table⟩
theorem Ll.mono{t:Ay}{v:cK}(x:Ll h t v)(le:PH.le h h'):Ll h' t v:=
 ⟨x.name,bN.mono x.columns le λ_ _ e=>e,x.key,x.refs.mono le λ_ _ e=>e.mono le,x.checks.mono le⟩
theorem gO.mono{v:bY}(x:gO h s v)(le:PH.le h h'):gO h' s v:=⟨x.version,x.tables.mono le λ_ _ e=>e.mono le⟩
def lower(c:Nat):Bool:=97<=c&&c<=122
def xQ(c:Nat):Bool:=lower c||(48<=c&&c<=57)||c==95
def pI(s:ByteArray):ck:=s.data.toList.map UInt8.toNat
def nM(s:ByteArray):Bool:=1<=s.size&&s.size<=32&&lower ((pI s).headD 0)&&(pI s).all xQ
theorem Sb(s:ByteArray):(pI s).length=s.size:=by simp[pI]
theorem aBQ{s:ByteArray}{c:Nat}(h:(pI s)[i]? =some c):(s.get! i).toNat=c/\c<256:=by
 simp only[pI,getElem?_map,Option.map_eq_some_iff]at h;obtain⟨b,d,rfl⟩:=h;refine⟨?_,b.toNat_lt⟩
 have f:i<s.data.size:=by
  have:=(List.getElem?_eq_some_iff.1 d).1;simpa using this
 have:s.data[i]? =some b:=bj d
 cases s with
 |mk e=>
  show(e[i]!).toNat=b.toNat;rw[getElem!_def,this]
theorem La{s:ByteArray}(h:(s.get! i).toNat<128):Utf8.decode s i=((s.get! i).toNat,1):=by
 simp only[Utf8.decode,Nat.add_zero];rw[if_pos h]
theorem aAJ{s:ByteArray}(h:¬(s.get! i).toNat<128):128<=(Utf8.decode s i).1:=by
 simp only[Utf8.decode,Nat.add_zero];rw[if_neg h]
 repeat' split
 all_goals simp_all [Utf8.runeError]
 all_goals omega
def P3(s:ByteArray):CV:=.val (.string s)
def aaJ:Vc.Spec:=λc m h K=>∃s,c=[P3 s]/\K (cB (nM s)) m h
noncomputable def aXX(s:ByteArray)(m:MH)(h:PH):Ctx:=
 ctx [] [(4,{A:=Nat×Nat×MH,st:=λx=>bO 44 45 [(15,vv (.pointer (some ⟨x.2.1,0,none⟩)))] [] x.2.2 h,inv:=λx=>x.1<=s.size/\bW m h x.2.1/\gG m x.2.2 x.2.1 (.stringIter s x.1)/\(x.1=0\/lower ((pI s).headD 0)=true)/\((pI s).take x.1).all xQ=true,mu:=λx=>s.size-x.1})] [] [] false
noncomputable def aYX(s:ByteArray)(m:MH)(h:PH):Ctx:=
 ctx [] [Fu 4 (λi=>bO 50 51 [(0,vv (.string s)),(3,iv i)] [] m h) (λi=>i<=s.size/\((pI s).take i).all xQ=true) (λi=>s.size-i)] [] [] false
abbrev M8(a b:(Nat×Nat×MH)->Prop):Prop:=(∃(x:Nat×Nat×MH),a x)/\∀(x:Nat×Nat×MH),b x
noncomputable abbrev iP(a:Nat×Nat×MH):Nat:=a.2.1
noncomputable abbrev gT(a:Nat×Nat×MH):Nat->Option Obj:=a.2.2
abbrev Ce(a:Nat×Nat×MH)(b:ByteArray)(c:MH)(d:PH):Prop:=aA (a.1<=b.size) (bW c d (iP a)) (aA (gG c (gT a) (iP a) (Obj.stringIter b a.1)) (a.1=0\/fS (lower (headD (pI b) 0))) (fS (List.all (List.take a.1 (pI b)) xQ)))
abbrev cH(a b:Nat):Prop:=Uk a 0=Uk b 0
noncomputable abbrev DM(a:ByteArray)(b:Nat):Nat:=(Utf8.decode a b).1
abbrev Bh(a:ByteArray)(b c:Nat):Prop:=a.size-b<a.size-c
abbrev Ga(a:(Nat×Nat×MH)->Prop)(b:ByteArray)(c:Nat×Nat×MH)(d:MH)(e:PH):Prop:=∃(x:Nat×Nat×MH),aA (a x) (Bh b x.1 c.1) (aA (cH (iP c) (iP x)) (d=gT x) (bX e e))
attribute [push_cast] M8 iP gT Ce cH DM Bh Ga
def K1(s:ByteArray)(m:MH)(h:PH)(K:bo):Prop:=
  aZ (↑s.size:Int) 1 (K aX m h) (dZ (↑s.size:Int) 32 (K aX m h) (fR (λb e=>aY (bW m h b) (gG m e b (Obj.stringIter s 0)) (M8 (λx=>aA (Ce x s m h) (cH b (iP x)) (aA (e=gT x) (h=h) True)) (λx=>Ce x s m h->∃(c:ByteArray)(p:Nat),aA (Lo (gT x) (iP x) (Obj.stringIter c p)) (c.size<=p->K gL (gT x) h) (p<c.size->∀(d:MH),gG (gT x) d (iP x) (Obj.stringIter c (p+(Utf8.decode c p).2))->dN (decide ((↑(DM c p):Int)>=97)) (mA (decide ((↑(DM c p):Int)<=122)) (dN ((↑p:Int)==0) (K aX d h) ((↑(DM c p):Int) !=95) (aZ (↑(DM c p):Int) 48 (K aX d h) (dZ (↑(DM c p):Int) 57 (K aX d h) (Ga (λy=>Ce y s m h) s x d h))) (Ga (λy=>Ce y s m h) s x d h)) (Ga (λy=>
 Ce y s m h) s x d h)) ((↑p:Int)==0) (K aX d h) (cO (↑(DM c p):Int) 95 (aZ (↑(DM c p):Int) 48 (K aX d h) (dZ (↑(DM c p):Int) 57 (K aX d h) (Ga (λy=>Ce y s m h) s x d h))) (Ga (λy=>Ce y s m h) s x d h))))))))
abbrev mR(a:Bool)(b:Prop)(c d:Int)(e g:Prop):Prop:=dN a b (decide (c>d)) e g
abbrev MD(a:Int)(b:ByteArray)(c:Nat)(d:UInt8->UInt8)(e:UInt8->Prop):Prop:=cF a/\∃(x:UInt8),b.data.toList[c]? =Option.some (d x)/\e x
noncomputable abbrev wZ(a:UInt8):Int:=(↑a.toNat:Int)
abbrev yY(a:Nat)(b:ByteArray):Prop:=a<=b.size/\fS (List.all (List.take a (pI b)) xQ)
noncomputable abbrev lK(a:Nat):Nat:=(↑a:Int).toNat
attribute [push_cast] mR MD wZ yY lK
def RD(s:ByteArray)(m:MH)(h:PH)(K:bo):Prop:=
  mR ((↑s.size:Int)==0) (K aX m h) (↑s.size:Int) 32 (K aX m h) (MD 0 s 0 (λb=>b) (λb=>aZ (↑b.toNat:Int) 97 (K aX m h) (MD 0 s 0 (λd=>d) (λd=>dZ (wZ d) 122 (K aX m h) (jP (∃(x:Nat),aA (yY x s) (eQ (SV.at (TD s))) (aA (bC x) (m=m) (bX h h))) (λx=>yY x s->aZ (↑x:Int) (↑s.size:Int) (MD (↑x:Int) s (lK x) (λc=>c) (λc=>aZ (↑c.toNat:Int) 97 (aZ (↑c.toNat:Int) 48 (cO (wZ c) 95 (K aX m h) (∃(y:Nat),aA (yY y s) (Bh s y x) (aA (eQ (SV.at (TD s))) (bD (fP (bE x 1)) y) (dW m m h h)))) (dZ (wZ c) 57 (cO (wZ c) 95 (K aX m h) (∃(y:Nat),aA (yY y s) (Bh s y x) (aA (eQ (SV.at (TD s))) (bD (fP (bE x 1)) y) (dW m m h h)))) (∃(y:Nat),aA (yY y s) (Bh s
 y x) (aA (eQ (SV.at (TD s))) (bD (fP (bE x 1)) y) (dW m m h h))))) (dZ (wZ c) 122 (aZ (↑c.toNat:Int) 48 (cO (wZ c) 95 (K aX m h) (∃(y:Nat),aA (yY y s) (Bh s y x) (aA (eQ (SV.at (TD s))) (bD (fP (bE x 1)) y) (dW m m h h)))) (dZ (wZ c) 57 (cO (wZ c) 95 (K aX m h) (∃(y:Nat),aA (yY y s) (Bh s y x) (aA (eQ (SV.at (TD s))) (bD (fP (bE x 1)) y) (dW m m h h)))) (∃(y:Nat),aA (yY y s) (Bh s y x) (aA (eQ (SV.at (TD s))) (bD (fP (bE x 1)) y) (dW m m h h))))) (∃(y:Nat),aA (yY y s) (Bh s y x) (aA (eQ (SV.at (TD s))) (bD (fP (bE x 1)) y) (dW m m h h)))))) (K gL m h)))))))
def kA(h:PH)(K:bo):CV->MH->PH->Prop:=λr m' h'=>∃d c,(∀b o,d b=some o->m' b=some o)/\PH.le h c/\PH.le c h'/\K r d c
theorem kA.here{r:CV}(c:K r m h):kA h K r m h:=⟨m,h,λ_ _ e=>e,.refl _,.refl _,c⟩
theorem kA.sub{r:CV}(c:∀b o,m b=some o->m' b=some o)(d:K r m h):kA h K r m' h:=⟨m,h,c,.refl _,.refl _,d⟩
theorem gG.keeps{o:Obj}(f:bW m h b)(g:gG m m' b o):∀b o,m b=some o->m' b=some o:=λd n e=>by
 have c:d≠b:=λj=>by rw[j,f.m_]at e;cases e
 rw[g.other d c,e]
theorem Yc:bk 152 aaJ:=by
 refine ED func152 ?_;rintro Q m h K ⟨s,rfl,B⟩;refine⟨aXX s m h,rfl,aF,K1 s m h (kA h K),bf,?_⟩;show K1 s m h (kA h K);dsimp only[K1,push_cast];have Y:=Sb s;refine aE (λR=>?_) (λR=>aE (λS=>?_) (λS b T A C=>?_))
 .refine .here (iV B ?_);have:¬1<=s.size:=by omega
  simp[nM,this]
 .refine .here (iV B ?_);have:¬s.size<=32:=by omega
  simp[nM,this]
 refine⟨⟨(0,b,T),⟨bg,A,C,.inl rfl,bg⟩,MT⟩,?_⟩;rintro⟨d,b,Z⟩ ⟨U,A,n,f,g⟩;simp only at U A n f g;refine⟨s,d,⟨n.at_⟩,λV=>?_,λW H D=>?_⟩
 .refine .sub (gG.keeps A n) (iV B ?_);rw[take_of_length_le aC]at g
  have X:lower ((pI s).headD 0)=true:=by
   rcases f with e|e
   .omega
   .exact e
  have I:1<=s.size:=by omega
  have J:s.size<=32:=by omega
  simp only[nM,g,X,decide_eq_true I,decide_eq_true J];rfl
 .have o:=n.trans D;obtain⟨c,t⟩:∃c,(pI s)[d]? =some c:=⟨(pI s)[d]'(by omega),getElem?_eq_getElem _⟩
  obtain⟨P,L⟩:=aBQ t
  have u:d=0->(pI s).headD 0=c:=λe=>by
   subst e;cases E:pI s with
   |nil=>rw[E]at t;simp at t
   |cons x l=>rw[E]at t;simp at t;simpa using t
  have F:¬((97<=(Utf8.decode s d).1/\(Utf8.decode s d).1<=122)\/(d≠0/\((Utf8.decode s d).1=95\/(48<=(Utf8.decode s d).1/\(Utf8.decode s d).1<=57))))->kA h K (.val (.bool false)) H h:=by
   intro M;refine .sub (gG.keeps A o) (iV B ?_);by_cases j:(s.get! d).toNat<128
   .rw[La j,P]at M;by_cases O:d=0
    .have:lower c=false:=by
      simp only[lower,Bool.and_eq_false_iff,decide_eq_false_iff_not];simp only at M;omega
     simp only[nM,u O,this,Bool.and_false,Bool.false_and]
    .have:xQ c=false:=by
      simp only[xQ,lower,Bool.or_eq_false_iff,Bool.and_eq_false_iff,decide_eq_false_iff_not,beq_eq_false_iff_ne];simp only at M;omega
     simp[nM,Bm t this]
   .have:xQ c=false:=by
     simp only[xQ,lower,Bool.or_eq_false_iff,Bool.and_eq_false_iff,decide_eq_false_iff_not,beq_eq_false_iff_ne];omega
    simp[nM,Bm t this]
  have G:((97<=(Utf8.decode s d).1/\(Utf8.decode s d).1<=122)\/(d≠0/\((Utf8.decode s d).1=95\/(48<=(Utf8.decode s d).1/\(Utf8.decode s d).1<=57))))->d+1<=s.size/\gG m H b (.stringIter s (d+1))/\lower ((pI s).headD 0)=true/\((pI s).take (d+1)).all xQ=true:=by
   intro z
   have j:(s.get! d).toNat<128:=by
    refine Decidable.byContradiction λj=>?_;have:=aAJ j;omega
   rw[La j]at o;rw[La j,P]at z;simp only at z;refine⟨aC,o,?_,?_⟩
   .rcases f with e|e
    .rw[u e];simp only[lower,Bool.and_eq_true,decide_eq_true_eq];omega
    .exact e
   .rw[xL t,g];simp only[xQ,lower,Bool.true_and,Bool.or_eq_true,Bool.and_eq_true,decide_eq_true_eq,beq_iff_eq];omega
  have next:((97<=(Utf8.decode s d).1/\(Utf8.decode s d).1<=122)\/(d≠0/\((Utf8.decode s d).1=95\/(48<=(Utf8.decode s d).1/\(Utf8.decode s d).1<=57))))->_:=λz=>(⟨(d+1,b,H),⟨(G z).1,A,(G z).2.1,.inr (G z).2.2.1,(G z).2.2.2⟩,by show s.size-(d+1)<s.size-d;omega,MT⟩:∃(y:Nat×Nat×MH),(y.fst<=s.size/\bW m h y.snd.fst/\gG m y.snd.2 y.snd.fst (Obj.stringIter s y.fst)/\(y.fst=0\/lower ((pI s).headD 0)=true)/\(List.take y.fst (pI s)).all xQ=true)/\s.size-y.fst<s.size-d/\SV.at (At.val (Value.pointer (some (Addr.mk b 0 none))))=SV.at (At.val (Value.pointer (some (Addr.mk y.snd.fst 0 none))))/\H=y.snd.2/\h=h/\True)
  clear G o D g f u n C B
  repeat' (first|(refine aB (λ_=>?_) (λ_=>?_))|exact F (by simp only[decide_eq_true_eq,decide_eq_false_iff_not,bne_iff_ne,ne_eq,beq_iff_eq,beq_eq_false_iff_ne,bne_eq_false_iff_eq,Bool.not_eq_true',Bool.not_eq_false']at*;omega)|exact next (by simp only[decide_eq_true_eq,decide_eq_false_iff_not,bne_iff_ne,ne_eq,beq_iff_eq,beq_eq_false_iff_ne,bne_eq_false_iff_eq,Bool.not_eq_true',Bool.not_eq_false']at*;omega))
theorem Yh:bk 147 aaJ:=by
 refine iB func147 ?_;rintro F m h K ⟨s,rfl,j⟩;refine⟨aYX s m h,rfl,aF,RD s m h K,bf,?_⟩;dsimp only[RD,push_cast];have O:=Sb s;refine aB (λt=>iV j ?_) (λt=>aE (λG=>iV j ?_) (λG=>?_))
 .have:¬1<=s.size:=by have:(s.size:Int)=0:=(bj t);omega
  simp[nM,this]
 .have:¬s.size<=32:=by omega
  simp[nM,this]
 have t:s.size≠0:=by intro e;rw[e]at t;simp at t
 obtain⟨o,d⟩:∃c,s.data.toList[0]? =some c:=⟨s.data.toList[0]'(by simpa using(by omega:0<s.size)),getElem?_eq_getElem _⟩
 have g:(pI s).headD 0=o.toNat:=by
  unfold pI;cases u:s.data.toList with
  |nil=>rw[u]at d;simp at d
  |cons x l=>rw[u]at d;simp at d;simp[d]
 refine⟨aC,o,d,aE (λH=>iV j ?_) (λH=>⟨aC,o,d,aE (λI=>iV j ?_) (λI=>?_)⟩)⟩
 .have:lower o.toNat=false:=by simp only[lower,Bool.and_eq_false_iff,decide_eq_false_iff_not];omega
  simp only[nM,g,this,Bool.and_false,Bool.false_and]
 .have:lower o.toNat=false:=by simp only[lower,Bool.and_eq_false_iff,decide_eq_false_iff_not];omega
  simp only[nM,g,this,Bool.and_false,Bool.false_and]
 refine⟨⟨0,⟨aC,bg⟩,MT⟩,λi A=>aE (λJ=>?_) (λL=>iV j ?_)⟩
 .obtain⟨c,E⟩:∃c,s.data.toList[i]? =some c:=⟨s.data.toList[i]'(by simpa using(by omega:i<s.size)),getElem?_eq_getElem _⟩
  have n:(pI s)[i]? =some c.toNat:=by simp[pI,E]
  have f:xQ c.toNat=false->K (.val (.bool false)) m h:=λe=>iV j (by simp[nM,Bm n e]);have next:xQ c.toNat=true->∃(y:Nat),(y<=s.size/\(List.take y (pI s)).all xQ=true)/\s.size-y<s.size-i/\SV.at (At.val (Value.string s))=SV.at (At.val (Value.string s))/\SV.at (At.val (Value.int IntKind.i64 (IntKind.i64.wrap ((i:Int)+1))))=SV.at (At.val (Value.int IntKind.i64 (y:Int)))/\m=m/\h=h/\True:=λe=>⟨i+1,⟨aC,by rw[xL n,A.2,e];rfl⟩,aC,MT⟩
  have z:xQ c.toNat=true↔(97<=c.toNat/\c.toNat<=122)\/(48<=c.toNat/\c.toNat<=57)\/c.toNat=95:=by
   simp only[xQ,lower,Bool.or_eq_true,Bool.and_eq_true,decide_eq_true_eq,beq_iff_eq];omega
  have B:xQ c.toNat=false↔¬((97<=c.toNat/\c.toNat<=122)\/(48<=c.toNat/\c.toNat<=57)\/c.toNat=95):=by
   rw[<-z];simp
  refine⟨aC,c,bj E,?_⟩;clear j A g n B;rw[z]at next
  have f:=λe=>f (by rw[<-Bool.not_eq_true,z];exact e);clear z
  repeat' (first|(refine aB (λ_=>?_) (λ_=>?_))|exact f (by simp only[decide_eq_true_eq,decide_eq_false_iff_not,bne_iff_ne,ne_eq,beq_iff_eq,beq_eq_false_iff_ne,bne_eq_false_iff_eq,Bool.not_eq_true',Bool.not_eq_false']at*;omega)|exact next (by simp only[decide_eq_true_eq,decide_eq_false_iff_not,bne_iff_ne,ne_eq,beq_iff_eq,beq_eq_false_iff_ne,bne_eq_false_iff_eq,Bool.not_eq_true',Bool.not_eq_false']at*;omega))
 .have:=A.2;rw[take_of_length_le aC]at this;have M:lower o.toNat=true:=by simp only[lower,Bool.and_eq_true,decide_eq_true_eq];omega
  have C:1<=s.size:=by omega
  have D:s.size<=32:=by omega
  simp only[nM,this,g,M,decide_eq_true C,decide_eq_true D];rfl
theorem SF:Tryz.prog.underlying 9=some .string:=bf
theorem Dy:KeyLaw Tryz.prog 9 (λv=>∃s,v= .string s):=by
 refine⟨⟨_,SF⟩,?_,?_,?_⟩
 .rintro _ w b ⟨s,rfl⟩
  have e:∀n:Nat,(Instr.checkKey b (n+1) 9 (.string s)).run Tryz.prog w= .ok () w:=λn=>by
   unfold Instr.checkKey;simp only[Sem.run_bind,run_underlying SF,Result.andThen];simp
  exact e 9999
 .rintro _ _ w ⟨s,rfl⟩ ⟨t,rfl⟩;refine⟨_,run_equalIn_string w 9999 9 s t SF,?_⟩;rw[beq_iff_eq];exact⟨λe=>by rw[o9 e],λe=>by injection e with e;rw[e]⟩
 .rintro d _ _ r c ⟨s,rfl⟩ ⟨t,rfl⟩ h;rw[SF]at c;cases c;simp only[Instr.sameNow,Option.some.injEq]at h;subst h;rw[beq_toListBytes,beq_iff_eq];exact⟨λe=>by rw[o9 e],λe=>by injection e with e;rw[e]⟩
def fC{α:Type}(T:List α->α->Prop)(l:List α)(i:Nat):Prop:=∀j x,j<i->l[j]? =some x->T (l.take j) x
def Good{α:Type}(T:List α->α->Prop)(l:List α):Prop:=∀(j:Nat) x,l[j]? =some x->T (l.take j) x
theorem fC.zero{α:Type}{T:List α->α->Prop}{l:List α}:fC T l 0:=λ_ _ h=>by omega
theorem fC.succ{α:Type}{T:List α->α->Prop}{l:List α}{x:α}(h:fC T l i)(hx:l[i]? =some x)(t:T (l.take i) x):fC T l (i+1):=by
 intro j y d c;by_cases e:j=i
 .subst e;rw[hx]at c;cases c;exact t
 .exact h j y aC c
theorem fC.all{α:Type}{T:List α->α->Prop}{l:List α}(h:fC T l i)(d:l.length<=i):Good T l:=λj x c=>h j x (by have:=(List.getElem?_eq_some_iff.1 c).1;omega) c
theorem Good.not{α:Type}{T:List α->α->Prop}{l:List α}{x:α}(hx:l[i]? =some x)(t:¬T (l.take i) x):¬Good T l:=λh=>t (h i x hx)
def Wx(d:List nZ)(c:nZ):Prop:=nM c.name=true/\dC c.kind=true/\c.name∉d.map nZ.name
def Dr(c:List Ay)(t:Ay):Prop:=nM t.name=true/\1<=t.key/\t.key<=t.columns.length/\t.name∉c.map Ay.name/\Good Wx t.columns
def jY(s:mI)(t:Int):br:=if t<0 then[]else match s.tables[t.toNat]? with|none=>[]|some t=>t.columns.map nZ.kind
def yN(s:mI)(t:Int):Bool:=decide (0<=t)&&decide (t<s.tables.length)
def aS(v:bY):CV:=.val (.agg ⟨v.enc⟩)
def nK(s:mI):Prop:=∀t∈s.tables,t.columns.length<=8
def bTX:Vc.Spec:=λc m h K=>∃v s t,c=[aS v,cI t]/\gO h s v/\K (cB (yN s t)) m h
def xO:Vc.Spec:=λc m h K=>∃v s t,c=[aS v,cI t]/\gO h s v/\nK s/\∀d h',PH.le h h'->Ints h' d (jY s t)->K (cS d) m h'
noncomputable def f59_ctx(m:MH)(h:PH):Ctx:=
 dG [] [(5,{A:=Nat×Sl×br,st:=λx=>bO 35 37 [(5,.at (.lst 32)),(22,sv x.2.1),(23,iv x.2.1.len),(24,iv x.1)] [(32,.lst 3 1 (x.2.2.map eI))] m h})] [] [] false
noncomputable def bpX(m:MH)(h:PH):Ctx:=
 dG [(143,bTX)] [(5,{A:=Nat×Sl×br,st:=λx=>bO 38 40 [(5,.at (.lst 19)),(25,sv x.2.1),(26,iv x.2.1.len),(27,iv x.1)] [(19,.lst 3 1 (x.2.2.map eI))] m h})] [] [] false
noncomputable abbrev iX(a:bY):Int:=aG a.tables
attribute [push_cast] iX
def RE(v:bY)(t:Int)(m:MH)(h:PH)(K:bo):Prop:=
  fO t 0 (K (Ah (decide (t<iX v))) m h) (K aX m h)
noncomputable abbrev tS(a:bY):Option Addr:=a.tables.a
noncomputable abbrev aM(a:Sl):bm:=jD (dT a)
abbrev MK(a:bY)(b c:Int)(d:MH)(e:PH)(g i:Nat->Nat)(j:Nat)(k:Sl->Sl)(l:Sl->(Nat×Sl×br->Prop)->(Nat×Sl×br)->Prop)(n:(Nat×Sl×br->Prop)->(Nat×Sl×br->Nat)->(Nat×Sl×br)->Prop):Prop:=aK (λx o=>aA (aL (tS a) x o) (b<=c) (c<aG a.tables/\∃(t:Sl),aJ d e (g x) (fX (i o) c j+1) (aM (k t))/\∃(u:Nat×Sl×br->Prop)(y:Nat×Sl×br->Nat),(∃(f:Nat×Sl×br),l t u f)/\∀(f:Nat×Sl×br),n u y f))
abbrev bB(a b:Sl):Prop:=sQs a=sQs b
noncomputable abbrev mN(a:Nat×Sl×br):Sl:=a.2.1
abbrev bQ(a b:Sl):Prop:=bD (fP (↑a.len:Int)) b.len
abbrev rB(a b:Nat)(c:List bm):Prop:=Option.some (Own.lst a b [])=Option.some (Own.lst a b c)
abbrev wE(a:List bm):Prop:=rB 3 1 a
noncomputable abbrev oW(a:br):List bm:=List.map eI a
noncomputable abbrev u0(a:Nat×Sl×br):List bm:=oW a.2.2
abbrev lN(a:Nat):Prop:=a<=140737488355328
abbrev iY(a b:Nat):Prop:=lN (a*b)
noncomputable abbrev jA(a:List bm)(b:Nat):Nat:=a.length+b
abbrev Cf(a:List bm):Prop:=iY (jA a 1) 8
abbrev dO(a:List bm):Prop:=a.length<140737488355328
abbrev MJ(a:Prop)(b:Nat×Sl×br)(c:Int)(d:Nat->Nat->nZ->Prop)(e:nZ->(Nat×Sl×br)->Prop)(g:Prop):Prop:=a->aZ (↑b.1:Int) (aG (mN b)) (aK (λx f=>aA (aL (mN b).a x f) (c<=(↑b.1:Int)) ((↑b.1:Int)<aG (mN b)/\∃(j:nZ),aA (d x f j) (Cf (u0 b)) (dO (u0 b)/\∃(n:Nat×Sl×br),e j n)))) g
noncomputable abbrev vA(a:nZ):Value:=Value.string a.name
noncomputable abbrev iA(a:bm):List bm:=[a]
noncomputable abbrev jW(a:List bm)(b:bm):List bm:=a++iA b
abbrev wF(a:List bm)(b:Int)(c:List bm):Prop:=Option.some (Own.lst 3 1 (jW a (bL b)))=Option.some (Own.lst 3 1 c)
abbrev dA(a b:PH)(c d:Prop):Prop:=aY (PH.le a b) c d
abbrev bZ(a:Nat->Nat->Option Value)(b:Nat)(c:List bm)(d:Sl->PH->Prop):Prop:=∀(x:Sl)(e:PH),dA a e (cZ e x b c) (d x e)
abbrev uM(a:Nat->Nat->Option Value)(b:List bm)(c:bo)(d:Nat->Option Obj):Prop:=bZ a 1 b (λx e=>c (rC x) d e)
attribute [push_cast] tS aM MK bB mN bQ rB wE oW u0 lN iY jA Cf dO MJ vA iA jW wF dA bZ uM
def an(v:bY)(t:Int)(m:MH)(h:PH)(K:bo):Prop:=
  aZ t 0 (K jG m h) (fO t (iX v) (K jG m h) (MK v 0 t m h (λb=>b) (λo=>o) 5 (λy=>y) (λy I x=>aA (I x) (eL 32) (aA (bB y (mN x)) (bQ y (mN x)) (aA (bC x.1) (wE (u0 x)) (aA (m=m) (h=h) True)))) (λI d x=>MJ (I x) x 0 (λb o y=>aJ m h b (bK o x.1 2) (gV (vA y) (fD y.kind))) (λy c=>aA (I c) (d c<d x) (aA (eL 32) (bB (mN x) (mN c)) (aA (bQ (mN x) (mN c)) (bD (fP (bE x.1 1)) c.1) (aA (wF (u0 x) y.kind (u0 c)) (m=m) (bX h h))))) (uM h (u0 x) K m))))
abbrev nV(a:bY->mI->Prop):Prop:=∃(x:bY)(c:mI),a x c
noncomputable abbrev xU(a:bY):Value:=fD a.version
noncomputable abbrev xT(a:bY):Value:=dT a.tables
noncomputable abbrev bR(a:bY):bm:=gV (xU a) (xT a)
abbrev yJ(a:Int):Prop:=a<=281474976710656
abbrev z8(a:Sl)(b:Int):Prop:=yJ (aG a*b)
attribute [push_cast] nV xU xT bR yJ z8
def Vd(v:bY)(t:Int)(m:MH)(h:PH)(K:bo):Prop:=
  nV (λg s=>∃(j:Int),aA (aW (jR (bR v)) t=aW (jR (bR g)) j) (gO h s g) (mA (yN s j) (K jG m h) (aK (λb o=>aA (aL (tS v) b o) (0<=t) (t<aG v.tables/\∃(y:Sl),aA (aJ m h b (fX o t 5+1) (aM y)) (cF 0) (aA (cF (aG y)) (z8 y 8) (yJ (aG y)/\MK v 0 t m h (λe=>e) (λf=>f) 5 (λc=>c) (λc I x=>aA (I x) (eL 19) (aA (bB c (mN x)) (bQ c (mN x)) (aA (bC x.1) (wE (u0 x)) (aA (m=m) (h=h) True)))) (λI n x=>MJ (I x) x 0 (λe f c=>aJ m h e (bK f x.1 2) (gV (vA c) (fD c.kind))) (λc d=>aA (I d) (n d<n x) (aA (eL 19) (bB (mN x) (mN d)) (aA (bQ (mN x) (mN d)) (bD (fP (bE x.1 1)) d.1) (aA (wF (u0 x) c.kind (u0 d)) (m=m)
 (bX h h))))) (uM h (u0 x) K m)))))))))
theorem bT.part{o:Nat}{l:bm}(r:bT h b o l)(k n:Nat):bT h b (o+k) ((l.drop k).take n):=
 ⟨λi v e=>by
  have:l[k+i]? =some v:=by
   rw[getElem?_take]at e;split at e
   .rwa [getElem?_drop]at e
   .cases e
  have:=r.rd (k+i) v this
  rwa [<-Nat.add_assoc]at this⟩
theorem E5.at{s:Sl}{l:List nZ}(r:E5 h s l){x:nZ}(c:l[i]? =some x):∃b o,s.a=some ⟨b,o,none⟩/\bT h b (o+i*2) (nZ.enc x):=by
 obtain⟨b,o,v,e,k,rfl⟩:=bN.at r c;exact⟨b,o,e,k⟩
theorem Fw{t:Int}(h:¬(0<=t/\t<s.tables.length)):jY s t=[]:=by
 unfold jY;split
 .rfl
 .rw[getElem?_eq_none aC]
theorem LQ{t:Int}{x:Ay}(h:0<=t)(hx:s.tables[t.toNat]? =some x):jY s t=x.columns.map nZ.kind:=by
 unfold jY;rw[if_neg aC,hx]
theorem gO.table{v:bY}(c:gO h s v){t:Int}(f:0<=t)(g:t<(v.tables.len:Int)):∃x b o w,s.tables[t.toNat]? =some x/\v.tables.a=some ⟨b,o,none⟩/\bT h b (o+t.toNat*5) (cK.enc w)/\Ll h x w:=by
 have j:=c.tables.slen;have d:s.tables[t.toNat]? =some (s.tables[t.toNat]'(by omega)):=getElem?_eq_getElem _;obtain⟨b,o,w,e,r,k⟩:=c.tables.at d;exact⟨_,b,o,w,d,e,r,k⟩
theorem iI{α β:Type}{f:α->β}{l:List α}{x:α}(hx:l[i]? =some x):(l.take (i+1)).map f=(l.take i).map f++[f x]:=by
 rw[take_add_one,hx];simp
theorem OX:bk 143 bTX:=by
 refine iB func143 ?_;rintro e m h K ⟨v,s,t,rfl,f,d⟩;refine⟨dG [] [] [] [] false,rfl,aF,RE v t m h K,bf,?_⟩;dsimp only[RE,push_cast];have g:=f.tables.slen;refine aE (λc=>iV d ?_) (λc=>iV d ?_)
 .have c:0<=t:=c;simp only[yN,g,decide_eq_true c,Bool.true_and]
 .have c:¬0<=t:=by omega
  simp only[yN,decide_eq_false c,Bool.false_and]
theorem ab:bk 59 xO:=by
 refine iB func59 ?_;rintro D m h K ⟨v,s,t,rfl,A,E,n⟩;refine⟨f59_ctx m h,rfl,aF,an v t m h K,bf,?_⟩;dsimp only[an,push_cast];have M:=A.tables.slen;have d:jY s t=[]->K (.val (.slice none 0 0)) m h:=λe=>n ⟨none,0,0⟩ h (.refl _) (by rw[e];exact⟨.nil _ _,bg⟩);refine aE (λF=>d (Fw aC)) (λF=>aE (λG=>d (Fw aC)) (λG=>?_));obtain⟨x,b,o,w,B,H,I,f⟩:=A.table (t:=t) aC aC;have J:=E x (mem_of_getElem? B);have u:=bN.slen f.columns;rw[LQ aC B]at n;refine⟨b,o,H,aC,aC,w.columns,.imm (bT.part I 1 1),λ⟨i,y,l⟩=>y=w.columns/\i<=x.columns.length/\l=(x.columns.take i).map nZ.kind,λ⟨i,_,_⟩=>x.columns.length-i,⟨(0,w.columns,[]),⟨rfl,bg,bg⟩,MT⟩,?_⟩;rintro⟨i,_,_⟩ ⟨rfl,O,rfl⟩;dsimp only;refine aE (λj=>?_) (λL y h' z g=>?_)
 .obtain⟨c,C⟩:=eN u j;obtain⟨b,o,e,r⟩:=E5.at f.columns C;refine⟨b,o,e,aC,j,c,.imm r,?_,?_,(i+1,w.columns,(x.columns.take (i+1)).map nZ.kind),⟨rfl,aC,rfl⟩,by show x.columns.length-(i+1)<x.columns.length-i;omega,?_⟩
  .simp;omega
  .simp;omega
  .rw[iI C,map_append];exact MT
 .rw[take_of_length_le aC]at g;exact n y h' z ⟨g,by simp;omega⟩
theorem KA:bk 81 xO:=by
 refine iB func81 ?_;rintro G m h K ⟨v,s,t,rfl,n,H,u⟩;refine⟨bpX m h,rfl,aD OX aF,Vd v t m h K,bf,?_⟩;dsimp only[Vd,push_cast];have L:=n.tables.slen;have g:jY s t=[]->K (.val (.slice none 0 0)) m h:=λe=>u ⟨none,0,0⟩ h (.refl _) (by rw[e];exact⟨.nil _ _,bg⟩);refine⟨v,s,t,rfl,n,aB (λy=>g (Fw ?_)) (λy=>?_)⟩
 .simp only[yN,Bool.not_eq_true',Bool.and_eq_false_iff,decide_eq_false_iff_not]at y;omega
 simp only[yN,Bool.not_eq_false',Bool.and_eq_true,decide_eq_true_eq]at y;obtain⟨x,b,o,w,C,D,E,d⟩:=n.table (t:=t) aC aC;have I:=H x (mem_of_getElem? C);have z:=bN.slen d.columns;rw[LQ aC C]at u;refine⟨b,o,D,aC,aC,w.columns,.imm (bT.part E 1 1),aC,aC,aC,aC,b,o,D,aC,aC,w.columns,.imm (bT.part E 1 1),λ⟨i,A,l⟩=>A=w.columns/\i<=x.columns.length/\l=(x.columns.take i).map nZ.kind,λ⟨i,_,_⟩=>x.columns.length-i,⟨(0,w.columns,[]),⟨rfl,bg,bg⟩,MT⟩,?_⟩;rintro⟨i,_,_⟩ ⟨rfl,M,rfl⟩;dsimp only;refine aE (λj=>?_) (λJ A h' B f=>?_)
 .obtain⟨c,F⟩:=eN z j;obtain⟨b,o,e,r⟩:=E5.at d.columns F;refine⟨b,o,e,aC,j,c,.imm r,?_,?_,(i+1,w.columns,(x.columns.take (i+1)).map nZ.kind),⟨rfl,aC,rfl⟩,by show x.columns.length-(i+1)<x.columns.length-i;omega,?_⟩
  .simp;omega
  .simp;omega
  .rw[iI F,map_append];exact MT
 .rw[take_of_length_le aC]at f;exact u A h' B ⟨f,by simp;omega⟩
def Sub(m m':MH):Prop:=∀b o,m b=some o->m' b=some o
theorem Sub.refl(m:MH):Sub m m:=λ_ _ e=>e
theorem Sub.free(h:Sub m m')(c:m' b=none):m b=none:=by
 cases e:m b with
 |none=>rfl
 |some o=>rw[h b o e]at c;cases c
theorem Sub.upd{f:MH}(h:Sub m f)(g:m b=none)(j:∀c,c≠b->m' c=f c):Sub m m':=λc o e=>by
 have d:c≠b:=λn=>by rw[n,g]at e;cases e
 rw[j c d,h c o e]
def Ln(m:MH)(b:Nat)(c:dc):Prop:=mJ m b (c.map λn=>(.string n,.bool true))
theorem Ln.other{e:Nat}{f:dc}(h:Ln m b f)(d:b≠e)(g:∀c,c≠e->m' c=m c):Ln m' b f:=by
 obtain⟨j,n,o,t⟩:=h.ex;exact⟨j,n,by rw[g b d,o],t⟩
def bdZ:Vc.Spec:=λc m h K=>∃v s,c=[aS v]/\gO h s v/\∀r:Bool,(r=true↔Good Dr s.tables)->K (cB r) m h
def a9Q:Vc.Spec:=λc m h K=>∃v s t,∃i:Nat,c=[aS v,cI i]/\gO h s v/\s.tables[i]? =some t/\∀r:Bool,(r=true↔Dr (s.tables.take i) t)->K (cB r) m h
noncomputable def bnJ(v:bY)(h:PH):Ctx:=
 dG [(152,aaJ)] [(3,{A:=Nat×Nat×MH,st:=λ⟨i,c,d⟩=>bO 79 80 [(3,vv (.map (some c))),(11,sv v.tables),(12,iv v.tables.len),(13,iv i)] [] d h}),
  (10,{A:=Nat×Nat×Nat×Nat×Sl×MH,st:=λ⟨i,k,c,f,e,d⟩=>bO 79 80 [(3,vv (.map (some c))),(6,vv (.map (some f))),(11,sv v.tables),(12,iv v.tables.len),(13,iv i),(45,sv e),(46,iv e.len),(47,iv k)] [] d h})] [] [] false
noncomputable def boZ(v:bY)(i:Nat)(m:MH)(h:PH):Ctx:=
 dG [(147,aaJ),(93,beQ)] [(5,{A:=Nat×cK,st:=λ⟨k,w⟩=>bO 94 96 [(1,iv i),(2,.at (.ptr 2 0)),(5,.at (.ptr 5 0)),(6,iv k)] [(2,.cells 40 (v.enc.map .val)),(5,.cells 82 (w.enc.map .val))] m h}),
  (10,{A:=Nat×cK,st:=λ⟨k,w⟩=>bO 94 96 [(5,.at (.ptr 5 0)),(53,iv w.columns.len),(54,iv k)] [(5,.cells 82 (w.enc.map .val))] m h}),
  (15,{A:=Nat×Nat×cK,st:=λ⟨k,j,w⟩=>bO 94 96 [(5,.at (.ptr 5 0)),(7,iv k),(8,iv j),(53,iv w.columns.len),(54,iv k)] [(5,.cells 82 (w.enc.map .val))] m h})] [] [] false
abbrev uL(a:MH)(b:PH)(c:Nat->MH->Prop):Prop:=fR (λx d=>aY (bW a b x) (gG a d x (Obj.map (Array.mk []) 0)) (c x d))
noncomputable abbrev BE(a:Nat):Value:=Value.map (Option.some a)
abbrev jE(a b:Nat):Prop:=SV.at (At.val (BE a))=SV.at (At.val (BE b))
abbrev qZ(a:bY):Prop:=aH a.tables
abbrev iU(a:bY):Prop:=bG a.tables
abbrev F5(a:Prop)(b:Nat)(c:bY)(d:Nat->Nat->cK->Prop)(e:Prop):Prop:=a->aZ (↑b:Int) (aG c.tables) (aK (λx f=>aA (aL (tS c) x f) (0<=(↑b:Int)) ((↑b:Int)<aG c.tables/\∃(g:cK),d x f g))) e
noncomputable abbrev BB(a:cK):Value:=Value.string a.name
noncomputable abbrev zS(a:cK):bm:=bA (BB a) (dT a.columns) (bA (fD a.key) (dT a.references) (aM a.checks))
noncomputable abbrev oX(a:ByteArray):CV:=CV.val (Value.string a)
abbrev nO(a:bo)(b:Nat×Nat×MH)(c:PH):Prop:=a aX (gT b) c
abbrev Cd(a:Nat)(b:Value->Prop):Prop:=KeyLaw Proofs.Tryz.prog a b
abbrev Ek(a:Value×Bool)(b:de)(c:Value):Prop:=aY (List.Mem a b) (a.1=c) False
noncomputable abbrev Aa(a:cK):Int:=aG a.columns
abbrev Ko(a:cd->(Value->Prop)->Prop):Prop:=∃(x:cd)(c:Value->Prop),a x c
abbrev Kk(a:Value×Value)(b:cd)(c:Value):Prop:=aY (List.Mem a b) (a.1=c) False
noncomputable abbrev fK(a:cd)(b c:Value)(d:cd):cd:=a++(b,c)::d
noncomputable abbrev BF:Value:=Value.bool true
noncomputable abbrev Ev(a:cd)(b:Value):cd:=fK a b BF []
noncomputable abbrev C1(a:Nat×Nat×Nat×Nat×Sl×MH):Nat:=a.2.2.2.1
abbrev cG(a b:Nat):Prop:=bD (fP (↑a:Int)) b
noncomputable abbrev vD(a:Nat×Nat×Nat×Nat×Sl×MH):Sl:=a.2.2.2.2.1
noncomputable abbrev tQ(a:Nat×Nat×Nat×Nat×Sl×MH):Nat->Option Obj:=a.2.2.2.2.2
abbrev Is(a:Nat×Nat×Nat×Nat×Sl×MH)(b:nZ)(c:MH->Prop):Prop:=Ko (λx e=>aA (mJ (tQ a) (C1 a) x) (Cd 9 e) (aA (e (vA b)) (∀(d:Value×Value),List.Mem d x->e d.1) ((∀(d:Value×Value),Kk d x (vA b))/\∀(d:MH),aY (iH (tQ a) d (C1 a)) (mJ d (C1 a) (Ev x (vA b))) (c d))))
abbrev sQ(a:nZ)(b:Int)(c:Prop)(d:Nat×Nat×Nat×Nat×Sl×MH->Prop)(e:Nat×Nat×Nat×Nat×Sl×MH->Nat)(g:Nat×Nat×Nat×Nat×Sl×MH)(i:bY)(j:(Nat×Nat×Nat×Nat×Sl×MH)->Prop):Prop:=branch (a.kind !=b) c (∃(x:Nat×Nat×Nat×Nat×Sl×MH),aA (d x) (e x<e g) (aA (jE g.2.2.1 x.2.2.1) (jE (C1 g) (C1 x)) (aA (aH i.tables) (iU i) (aA (cG g.1 x.1) (bB (vD g) (vD x)) (j x)))))
abbrev sU(a b:Nat×Nat×Nat×Nat×Sl×MH)(c:MH)(d:PH):Prop:=aA (bQ (vD a) (vD b)) (bD (fP (bE a.2.1 1)) b.2.1) (aA (c=tQ b) (d=d) True)
attribute [push_cast] uL BE jE qZ iU F5 BB zS oX nO Cd Ek Aa Ko Kk fK BF Ev C1 cG vD tQ Is sQ sU
def Ow(v:bY)(m:MH)(h:PH)(K:bo):Prop:=
  uL m h (λb H=>∃(I:Nat×Nat×MH->Prop)(D:Nat×Nat×MH->Nat),M8 (λx=>aA (I x) (jE b (iP x)) (aA (qZ v) (iU v) (dK (bC x.1) H (gT x) h h))) (λx=>F5 (I x) x.1 v (λJ o y=>aJ (gT x) h J (bK o x.1 5) (zS y)/\∃(s:ByteArray),gK (tT (oX y.name)=tT (oX s)) (!(nM s)) (nO K x h) (∃(k:de)(O:Value->Prop),aA (mJ (gT x) (iP x) (List.map (fun(p:Value×Bool)=>(p.1,Value.bool p.2)) k)) (Cd 9 O) (aA (O (BB y)) (∀(e:Value×Bool),List.Mem e k->O e.1) (((∀(e:Value×Bool),Ek e k (BB y))->aZ y.key 1 (nO K x h) (dZ y.key (Aa y) (nO K x h) (Ko (λt O1=>aA (mJ (gT x) (iP x) t) (Cd 9 O1) (aA (O1 (BB y)) (∀(e:Value×Value),List.Mem e t->O1 e.1) ((∀(e:
 Value×Value),Kk e t (BB y))/\∀(z:MH),aY (iH (gT x) z (iP x)) (mJ z (iP x) (Ev t (BB y))) (uL z h (λE F=>∃(I1:Nat×Nat×Nat×Nat×Sl×MH->Prop)(n:Nat×Nat×Nat×Nat×Sl×MH->Nat),(∃(c:Nat×Nat×Nat×Nat×Sl×MH),aA (I1 c) (jE (iP x) c.2.2.1) (aA (jE E (C1 c)) (qZ v) (aA (iU v) (cG x.1 c.1) (aA (bB y.columns (vD c)) (bQ y.columns (vD c)) (dK (bC c.2.1) F (tQ c) h h)))))/\∀(c:Nat×Nat×Nat×Nat×Sl×MH),I1 c->aZ (↑c.2.1:Int) (aG (vD c)) (aK (λA B=>aA (aL (vD c).a A B) (0<=(↑c.2.1:Int)) ((↑c.2.1:Int)<aG (vD c)/\∃(g:nZ),aJ (tQ c) h A (bK B c.2.1 2) (gV (vA g) (fD g.kind))/\∃(C:ByteArray),gK (tT (oX g.name)=
 tT (oX C)) (!(nM C)) (K aX (tQ c) h) (∃(u:de)(O2:Value->Prop),aA (mJ (tQ c) (C1 c) (List.map (fun(p:Value×Bool)=>(p.1,Value.bool p.2)) u)) (Cd 9 O2) (aA (O2 (vA g)) (∀(e:Value×Bool),List.Mem e u->O2 e.1) (((∀(e:Value×Bool),Ek e u (vA g))->Is c g (λf=>sQ g 3 (sQ g 4 (sQ g 5 (K aX f h) I1 n c v (λd=>sU c d f h)) I1 n c v (λd=>sU c d f h)) I1 n c v (λd=>sU c d f h)))/\∀(j:Bool),fA (List.Mem (vA g,j) u) j (K aX (tQ c) h) (Is c g (λf=>sQ g 3 (sQ g 4 (sQ g 5 (K aX f h) I1 n c v (λd=>sU c d f h)) I1 n c v (λd=>sU c d f h)) I1 n c v (λd=>sU c d f h))))))))) (∃(d:Nat×Nat×MH),aA (I d) (D
 d<D x) (aA (jE c.2.2.1 (iP d)) (qZ v) (aA (iU v) (bD (fP (bE c.1 1)) d.1) (aA (tQ c=gT d) (h=h) True))))))))))))/\∀(g:Bool),fA (List.Mem (BB y,g) k) g (nO K x h) (aZ y.key 1 (nO K x h) (dZ y.key (Aa y) (nO K x h) (Ko (λt O1=>aA (mJ (gT x) (iP x) t) (Cd 9 O1) (aA (O1 (BB y)) (∀(e:Value×Value),List.Mem e t->O1 e.1) ((∀(e:Value×Value),Kk e t (BB y))/\∀(z:MH),aY (iH (gT x) z (iP x)) (mJ z (iP x) (Ev t (BB y))) (uL z h (λE F=>∃(I1:Nat×Nat×Nat×Nat×Sl×MH->Prop)(n:Nat×Nat×Nat×Nat×Sl×MH->Nat),(∃(c:Nat×Nat×Nat×Nat×Sl×MH),aA (I1 c) (jE (iP x) c.2.2.1) (aA (jE E (C1 c)) (qZ v) (aA (iU v) (cG x.1 c.1) (aA (bB
 y.columns (vD c)) (bQ y.columns (vD c)) (dK (bC c.2.1) F (tQ c) h h)))))/\∀(c:Nat×Nat×Nat×Nat×Sl×MH),I1 c->aZ (↑c.2.1:Int) (aG (vD c)) (aK (λA B=>aA (aL (vD c).a A B) (0<=(↑c.2.1:Int)) ((↑c.2.1:Int)<aG (vD c)/\∃(j:nZ),aJ (tQ c) h A (bK B c.2.1 2) (gV (vA j) (fD j.kind))/\∃(C:ByteArray),gK (tT (oX j.name)=tT (oX C)) (!(nM C)) (K aX (tQ c) h) (∃(u:de)(O2:Value->Prop),aA (mJ (tQ c) (C1 c) (List.map (fun(p:Value×Bool)=>(p.1,Value.bool p.2)) u)) (Cd 9 O2) (aA (O2 (vA j)) (∀(e:Value×Bool),List.Mem e u->O2 e.1) (((∀(e:Value×Bool),Ek e u (vA j))->Is c j (λf=>sQ j 3 (sQ j 4 (sQ j 5 (K aX f h) I1 n c v
 (λd=>sU c d f h)) I1 n c v (λd=>sU c d f h)) I1 n c v (λd=>sU c d f h)))/\∀(G:Bool),fA (List.Mem (vA j,G) u) G (K aX (tQ c) h) (Is c j (λf=>sQ j 3 (sQ j 4 (sQ j 5 (K aX f h) I1 n c v (λd=>sU c d f h)) I1 n c v (λd=>sU c d f h)) I1 n c v (λd=>sU c d f h))))))))) (∃(d:Nat×Nat×MH),aA (I d) (D d<D x) (aA (jE c.2.2.1 (iP d)) (qZ v) (aA (iU v) (bD (fP (bE c.1 1)) d.1) (aA (tQ c=gT d) (h=h) True)))))))))))))))) (K gL (gT x) h)))
abbrev ME(a:(Nat×cK->Prop)->(Nat×cK)->Prop)(b:(Nat×cK->Prop)->(Nat×cK->Nat)->(Nat×cK)->Prop):Prop:=∃(x:Nat×cK->Prop)(d:Nat×cK->Nat),(∃(c:Nat×cK),a x c)/\∀(c:Nat×cK),b x d c
noncomputable abbrev Iq(a:bY):At:=jI a.version
noncomputable abbrev Ip(a:bY):At:=qK a.tables
abbrev bM(a:bY):Prop:=eQ (oQ 40 (lX (Iq a) (Ip a)))
noncomputable abbrev rG(a:At):cr:=[a]
noncomputable abbrev gP(a:cK):cr:=eZ (TD a.name) (qK a.columns) (eZ (jI a.key) (qK a.references) (rG (qK a.checks)))
abbrev D9(a:cK)(b:Nat×cK):Prop:=oQ 82 (gP a)=oQ 82 (gP b.2)
abbrev M7(a:Option Addr)(b:Int)(c:Nat)(d:Sl)(e:Nat->Nat->ByteArray->Prop):Prop:=aK (λx f=>aA (aL a x f) (b<=(↑c:Int)) ((↑c:Int)<aG d/\∃(g:ByteArray),e x f g))
noncomputable abbrev rN(a:Nat×Nat×cK):Nat:=a.2.1
noncomputable abbrev lL(a:Nat×Nat×cK):cK:=a.2.2
attribute [push_cast] ME Iq Ip bM rG gP D9 M7 rN lL
def Vb(v:bY)(i:Nat)(m:MH)(h:PH)(K:bo):Prop:=
  aK (λb o=>aA (aL (tS v) b o) (0<=(↑i:Int)) ((↑i:Int)<aG v.tables/\∃(y:cK),aJ m h b (bK o i 5) (zS y)/\∃(s:ByteArray),tT (oX y.name)=tT (oX s)/\dN (!(nM s)) (K aX m h) (Aa y==0) (K aX m h) (aZ y.key 1 (K aX m h) (dZ y.key (Aa y) (K aX m h) (ME (λI x=>aA (I x) (qW i) (aA (eP 2) dY (aA (bC x.1) (bM v) (aA (D9 y x) (m=m) (bX h h))))) (λI n x=>I x->aZ (↑x.1:Int) (↑i:Int) (M7 (tS v) 0 x.1 v.tables (λg j f=>aJ m h g (bK j x.1 5+0) (jD (Value.string f))/\branch (f.toList==x.2.name.toList) (K aX m h) (∃(c:Nat×cK),aA (I c) (n c<n x) (aA (qW i) gI (aA dY (bD (fP (bE x.1 1)) c.1) (aA (bM v) (D9 x.2 c) (dW m m h h))))))) (ME (λI1 c=>
 aA (I1 c) dY (aA (bQ x.2.columns c.2.columns) (bC c.1) (dK (D9 x.2 c) m m h h))) (λI1 t c=>I1 c->aZ (↑c.1:Int) (aG c.2.columns) (aK (λg j=>aA (aL c.2.columns.a g j) (0<=(↑c.1:Int)) ((↑c.1:Int)<aG c.2.columns/\∃(f:ByteArray),aJ m h g (bK j c.1 2+0) (jD (Value.string f))/\∃(u:ByteArray),gK (tT (oX f)=tT (oX u)) (!(nM u)) (K aX m h) (aK (λz A=>aA (aL c.2.columns.a z A) (0<=(↑c.1:Int)) ((↑c.1:Int)<aG c.2.columns/\∃(B:Int),aJ m h z (bK A c.1 2+1) (bL B)/\∃(k:Int),gK (nT B=nT k) (!(dC k)) (K aX m h) (∃(I2:Nat×Nat×cK->Prop)(C:Nat×Nat×cK->Nat),(∃(d:Nat×Nat×cK),aA (I2 d) dY (aA (cG c.1 d.1) (bC (rN d)) (aA (bQ
 c.2.columns (lL d).columns) (cG c.1 d.1) (aA (oQ 82 (gP c.2)=oQ 82 (gP (lL d))) (m=m) (bX h h)))))/\∀(d:Nat×Nat×cK),I2 d->aZ (↑(rN d):Int) (↑d.1:Int) (M7 (lL d).columns.a 0 (rN d) (lL d).columns (λF G D=>aJ m h F (bK G (rN d) 2+0) (jD (Value.string D))/\M7 (lL d).columns.a 0 d.1 (lL d).columns (λH J E=>aJ m h H (bK J d.1 2+0) (jD (Value.string E))/\branch (D.toList==E.toList) (K aX m h) (∃(e:Nat×Nat×cK),aA (I2 e) (C e<C d) (aA dY (cG d.1 e.1) (aA (bD (fP (bE (rN d) 1)) (rN e)) (bQ (lL d).columns (lL e).columns) (aA (cG d.1 e.1) (oQ 82 (gP (lL d))=oQ 82 (gP (lL e))) (dW m m h h)))))))) (∃(e:Nat×cK),aA (I1 e) (t e<t
 c) (aA dY (bQ (lL d).columns e.2.columns) (aA (bD (fP (bE d.1 1)) e.1) (D9 (lL d) e) (aA (m=m) (h=h) True))))))))))) (K gL m h)))))))))
theorem Ln.snoc{c:dc}{n:ByteArray}(h:mJ m b ((c.map λn=>(Value.string n,Value.bool true))++[(.string n,.bool true)])):Ln m b (c++[n]):=by
 unfold Ln;rw[map_append];exact h
theorem Ln.look{c:dc}(h:Ln m b c):mJ m b (List.map (λp:Value×Bool=>(p.fst,Value.bool p.snd)) (c.map λn=>(Value.string n,true))):=by
 rw[map_map];exact h
theorem Io{β:Type}{c:dc}{x:β}:∀e:Value×β,e∈(c.map λn=>(Value.string n,x))->∃s,e.fst= .string s:=λe d=>by
 obtain⟨n,_,rfl⟩:=mem_map.1 d;exact⟨n,rfl⟩
theorem UL{β:Type}{c:dc}{x:β}{n:ByteArray}(h:n∉c):∀e:Value×β,e∈(c.map λn=>(Value.string n,x))->e.fst= .string n->False:=λe d h'=>by
 obtain⟨f,g,rfl⟩:=mem_map.1 d;exact h (by have:f=n:=(by injection h');rwa [<-this])
theorem F4{β:Type}{c:dc}{x:β}{n:ByteArray}(h:∀e:Value×β,e∈(c.map λn=>(Value.string n,x))->e.fst= .string n->False):n∉c:=λd=>h (.string n,x) (mem_map.2 ⟨n,d,rfl⟩) rfl
theorem UM{β:Type}{c:dc}{x y:β}{n:ByteArray}(h:(Value.string n,y)∈(c.map λn=>(Value.string n,x))):n∈c/\y=x:=by
 obtain⟨d,f,e⟩:=mem_map.1 h;injection e with e1 e2;injection e1 with e1;exact⟨by rwa [<-e1],e2.symm⟩
theorem alX:bk 96 bdZ:=by
 refine ED func96 ?_;rintro b3 m h K ⟨v,s,rfl,hs,hK⟩;refine⟨bnJ v h,rfl,aD Yc aF,Ow v m h (kA h K),bf,?_⟩;show Ow v m h (kA h K);dsimp only[Ow,push_cast];have hl:=hs.tables.slen;have b':=hs.tables.len;have hf:¬Good Dr s.tables->K (cB false) m h:=λh=>hK false ⟨λe=>(by cases e),λe=>(h e).elim⟩;intro b m1 hb V;refine⟨λ⟨i,D,mx⟩=>i<=s.tables.length/\Sub m mx/\m D=none/\Ln mx D ((s.tables.take i).map Ay.name)/\fC Dr s.tables i,λ⟨i,_,_⟩=>s.tables.length-i,⟨(0,b,m1),⟨aC,(Sub.refl m).upd hb.m_ V.other,hb.m_,⟨_,_,V.at_,rfl⟩,.zero⟩,MT⟩,?_⟩;rintro⟨i,D,mx⟩ ⟨hi,n,W,F,u⟩;dsimp only;refine aE (λX=>?_) (λb4=>.sub n (hK true ⟨λ_=>u.all aC,λ_=>rfl⟩));obtain⟨t,Y⟩:=eN hl X;obtain⟨bb,o,w,ea,hr,f⟩:=hs.tables.at Y;have a5:=bN.slen f.columns;have b5:=bN.len f.columns;have z:=f.name;have Z:=f.key;have bad:¬Dr (s.tables.take i) t->kA h K (.val (.bool false)) mx h:=λhn=>.sub n (hf (Good.not Y hn));have a':t.name∉(s.tables.take i).map Ay.name->nM w.name=true->1<=w.key->w.key<=w.columns.len->Good Wx t.columns->Dr (s.tables.take i) t:=λT h2 h3 h4 h5=>⟨by rw[<-z];exact h2,by rw[<-Z];exact h3,by rw[<-Z];omega,T,h5⟩
 refine⟨bb,o,ea,aC,X,w,.imm hr,w.name,rfl,aB (λT=>bad λg=>?_) (λT=>⟨_,_,F.look,Dy,⟨_,rfl⟩,Io,λa0=>aE (λh2=>bad λg=>?_) (λh2=>aE (λh3=>bad λg=>?_) (λh3=>⟨_,_,F,Dy,⟨_,rfl⟩,Io,UL (F4 a0),λm2 a6 A U m3 L M=>?_⟩)),λy hy=>?_⟩)⟩
 .have:=g.1;rw[<-z]at this;rw[this]at T;cases T
 .have:=g.2.1;omega
 .have:=g.2.2.1;omega
 .have A:=Ln.snoc A;have j:Sub m m2:=n.upd W a6.other;have O:Sub m m3:=j.upd (j.free L.m_) M.other
  have a1:D≠U:=λe=>by
   obtain⟨es,cl,e1,_⟩:=A.ex;rw[e,L.m_]at e1;cases e1
  have a2:t.name∉(s.tables.take i).map Ay.name:=by rw[<-z];exact F4 a0
  rw[z, <-iI Y]at A
  refine⟨λ⟨i',k,a7,a8,sl,P⟩=>i'=i/\a7=D/\a8=U/\sl=w.columns/\k<=t.columns.length/\Sub m P/\Ln P D ((s.tables.take (i+1)).map Ay.name)/\Ln P U ((t.columns.take k).map nZ.name)/\fC Wx t.columns k,λ⟨_,k,_,_,_,_⟩=>t.columns.length-k,
   ⟨(i,0,D,U,w.columns,m3),⟨rfl,rfl,rfl,rfl,aC,O,A.other a1 M.other,⟨_,_,M.at_,rfl⟩,.zero⟩,MT⟩,?_⟩
  rintro⟨i,k,D,U,_,P⟩ ⟨rfl,rfl,rfl,rfl,hk,d,G,H,a3⟩;dsimp only;refine aE (λI=>?_) (λb0=>?_)
  .obtain⟨c,hc⟩:=eN a5 I;obtain⟨bc,oc,ec,rc⟩:=E5.at f.columns hc;have B:∀mz,Sub m mz->¬Wx (t.columns.take k) c->kA h K (.val (.bool false)) mz h:=λmz hz hn=>.sub hz (hf (Good.not Y (λg=>Good.not hc hn g.2.2.2.2)));refine⟨bc,oc,ec,aC,I,c,.imm rc,c.name,rfl,aB (λh4=>B P d λg=>?_) (λh4=>⟨_,_,H.look,Dy,⟨_,rfl⟩,Io,λJ=>⟨_,_,H,Dy,⟨_,rfl⟩,Io,UL (F4 J),λm4 a4 E=>?_⟩,λy hy=>?_⟩)⟩
   .rw[g.1]at h4;cases h4
   .have E:=Ln.snoc E;rw[<-iI hc]at E;have C:Sub m m4:=d.upd (j.free L.m_) a4.other;have Q:dC c.kind=true->Wx (t.columns.take k) c:=λe=>⟨bj h4,e,F4 J⟩
    have R:dC c.kind=false->¬Wx (t.columns.take k) c:=λe g=>by rw[g.2.1]at e;cases e
    have a9:=G.other a1 a4.other
    repeat' (first|(refine aB (λ_=>?_) (λ_=>?_))|(refine B m4 C (R ?_);simp_all [dC];done)|exact⟨(i,k+1,D,U,w.columns,m4),⟨rfl,rfl,rfl,rfl,by show k+1<=t.columns.length;omega,C,a9,E,a3.succ hc (Q (by simp_all [dC]))⟩,by show t.columns.length-(k+1)<t.columns.length-k;omega,MT⟩)
   .obtain⟨S,rfl⟩:=UM hy;exact aB (λ_=>B P d λg=>g.2.2 S) (λe=>by cases e)
  .refine⟨(i+1,D,P),⟨aC,d,W,G,u.succ Y (a' a2 (bj T) aC aC (a3.all aC))⟩,?_,MT⟩;show s.tables.length-(i+1)<s.tables.length-i;omega
 .obtain⟨S,rfl⟩:=UM hy;exact aB (λ_=>bad λg=>g.2.2.2.1 (by rw[<-z];exact S)) (λe=>by cases e)
theorem N1{α:Type}{f:α->ByteArray}{l:List α}{x:α}{n:ByteArray}(hx:l[i]? =some x)(h:n∉(l.take i).map f)(c:f x≠n):n∉(l.take (i+1)).map f:=by
 rw[iI hx,mem_append];rintro(e|e)
 .exact h e
 .simp at e;exact c e.symm
theorem bFQ{α:Type}{f:α->ByteArray}{l:List α}{x:α}{n:ByteArray}(hx:l[i]? =some x)(c:i<k)(d:f x=n):n∈(l.take k).map f:=
 mem_map.2 ⟨x,mem_of_getElem? (i:=i) (by rw[getElem?_take,if_pos c,hx]),d⟩
theorem amQ:bk 91 a9Q:=by
 refine iB func91 ?_;rintro a2 m h K ⟨v,s,t,i,rfl,F,W,X⟩;refine⟨boZ v i m h,rfl,aD Yh (aD QL aF),Vb v i m h K,bf,?_⟩;dsimp only[Vb,push_cast];have hl:=F.tables.slen;have Y:=F.tables.len;have a3:i<s.tables.length:=(List.getElem?_eq_some_iff.1 W).1;have bad:¬Dr (s.tables.take i) t->K (.val (.bool false)) m h:=λh=>X false ⟨λe=>(by cases e),λe=>(h e).elim⟩;obtain⟨bb,o,w,ea,hr,d⟩:=F.tables.at W;have L:=bN.slen d.columns;have a4:=bN.len d.columns;have z:=d.name;have a5:=d.key;refine⟨bb,o,ea,aC,aC,w,.imm hr,w.name,rfl,aB (λG=>bad λf=>?_) (λG=>aB (λZ=>bad λf=>?_) (λZ=>aE (λh3=>bad λf=>?_) (λh3=>aE (λh4=>bad λf=>?_) (λh4=>?_))))⟩
 .have:=f.1;rw[<-z]at this;rw[this]at G;cases G
 .have:=f.2.1;have:=f.2.2.1;have:(w.columns.len:Int)=0:=(bj Z);omega
 .have:=f.2.1;omega
 .have:=f.2.2.1;omega
 refine⟨λ⟨k,B⟩=>B=w/\k<=i/\t.name∉(s.tables.take k).map Ay.name,λ⟨k,_⟩=>i-k,⟨(0,w),⟨rfl,aC,bg⟩,MT⟩,?_⟩;rintro⟨k,w⟩ ⟨rfl,hk,E⟩;dsimp only;refine aE (λg=>?_) (λa6=>?_)
 .obtain⟨t',C⟩:∃t',s.tables[k]? =some t':=⟨s.tables[k]'(by omega),getElem?_eq_getElem _⟩
  obtain⟨b',o',B,M,O,n⟩:=F.tables.at C;refine⟨b',o',M,aC,aC,B.name,.imm (bT.part O 0 1),aB (λe=>bad λf=>?_) (λe=>?_)⟩
  .refine f.2.2.2.1 (bFQ C aC ?_);rw[<-n.name, <-z];exact o9 (bj e)
  .refine⟨(k+1,w),⟨rfl,aC,N1 C E λH=>?_⟩,by show i-(k+1)<i-k;omega,MT⟩;rw[<-n.name, <-z]at H;rw[H]at e;simp at e
 .have P:k=i:=by omega
  subst P;refine⟨λ⟨k,B⟩=>B=w/\k<=t.columns.length/\fC Wx t.columns k,λ⟨k,_⟩=>t.columns.length-k,⟨(0,w),⟨rfl,aC,.zero⟩,MT⟩,?_⟩;rintro⟨c,w⟩ ⟨rfl,hc,hg⟩;dsimp only;refine aE (λg=>?_) (λa'=>X true ⟨λ_=>⟨by rw[<-z];simpa using G,aC,aC,E,hg.all aC⟩,λ_=>rfl⟩);obtain⟨x,D⟩:=eN L g;obtain⟨Q,R,S,T⟩:=E5.at d.columns D;have u:¬Wx (t.columns.take c) x->K (.val (.bool false)) m h:=λhn=>bad λf=>Good.not D hn f.2.2.2.2;refine⟨Q,R,S,aC,g,x.name,.imm (bT.part T 0 1),x.name,rfl,aB (λI=>u λf=>?_) (λI=>⟨Q,R,S,aC,g,x.kind,.imm (bT.part T 1 1),x.kind,rfl,aB (λJ=>u λf=>?_) (λJ=>?_)⟩)⟩
  .rw[f.1]at I;cases I
  .rw[f.2.1]at J;cases J
  refine⟨λ⟨c',j,B⟩=>B=w/\c'=c/\j<=c/\x.name∉(t.columns.take j).map nZ.name,λ⟨_,j,_⟩=>c-j,⟨(c,0,w),⟨rfl,rfl,aC,bg⟩,MT⟩,?_⟩;rintro⟨c,j,w⟩ ⟨rfl,rfl,hj,A⟩;dsimp only;refine aE (λa0=>?_) (λa1=>?_)
  .obtain⟨y,U⟩:∃y,t.columns[j]? =some y:=⟨t.columns[j]'(by omega),getElem?_eq_getElem _⟩
   obtain⟨V,oy,ey,ry⟩:=E5.at d.columns U;refine⟨V,oy,ey,aC,aC,y.name,.imm (bT.part ry 0 1),Q,R,S,aC,g,x.name,.imm (bT.part T 0 1),aB (λe=>u λf=>?_) (λe=>?_)⟩
   .exact f.2.2 (bFQ U aC (o9 (bj e)))
   .refine⟨(c,j+1,w),⟨rfl,rfl,by show j+1<=c;omega,N1 U A λH=>?_⟩,by show c-(j+1)<c-j;omega,MT⟩;rw[H]at e;simp at e
  .have:j=c:=by omega
   subst this;exact⟨(j+1,w),⟨rfl,aC,hg.succ D ⟨bj I,bj J,A⟩⟩,by show t.columns.length-(j+1)<t.columns.length-j;omega,MT⟩
def HR(t g:Ay)(k:Nat)(c:Int):Prop:=0<=c/\c<t.columns.length/\∃x y,t.columns[c.toNat]? =some x/\g.columns[k]? =some y/\x.kind=y.kind
def bcX(tabs:List Ay)(t:Ay)(_:List Ref)(r:Ref):Prop:=0<=r.table/\r.table<tabs.length/\∃g,tabs[r.table.toNat]? =some g/\(r.columns.length:Int)=g.key/\Good (λd c=>HR t g d.length c) r.columns
def EY(tabs:List Ay)(_:List Ay)(t:Ay):Prop:=Good (bcX tabs t) t.refs
def bcQ:Vc.Spec:=λc m h K=>∃v s,c=[aS v]/\gO h s v/\Good Dr s.tables/\∀r:Bool,(r=true↔Good (EY s.tables) s.tables)->K (cB r) m h
def Z7:Vc.Spec:=λc m h K=>∃v s t,∃i:Nat,c=[aS v,cI i]/\gO h s v/\Good Dr s.tables/\s.tables[i]? =some t/\∀r:Bool,(r=true↔EY s.tables [] t)->K (cB r) m h
noncomputable def bnZ(v:bY)(m:MH)(h:PH):Ctx:=
 dG [] [(2,{A:=Nat,st:=λi=>bO 82 83 [(1,.at (.ptr 1 0)),(11,sv v.tables),(12,iv v.tables.len),(13,iv i)] [(1,.cells 40 (v.enc.map .val))] m h}),
  (5,{A:=Nat×Nat×cK,st:=λ⟨i,k,w⟩=>bO 82 83 [(1,.at (.ptr 1 0)),(4,.at (.ptr 4 0)),(11,sv v.tables),(12,iv v.tables.len),(13,iv i),(18,sv w.references),(19,iv w.references.len),(20,iv k)] [(1,.cells 40 (v.enc.map .val)),(4,.cells 82 (w.enc.map .val))] m h}),
  (13,{A:=Nat×Nat×Nat×cK×cK×Sl,st:=λ⟨i,k,j,w,g,c⟩=>bO 82 83 [(1,.at (.ptr 1 0)),(4,.at (.ptr 4 0)),(7,.at (.ptr 7 0)),(11,sv v.tables),(12,iv v.tables.len),(13,iv i),(18,sv w.references),(19,iv w.references.len),(20,iv k),(48,sv c),(49,iv c.len),(50,iv j)] [(1,.cells 40 (v.enc.map .val)),(4,.cells 82 (w.enc.map .val)),(7,.cells 82 (g.enc.map .val))] m h})] [] [] false
noncomputable def boX(v:bY)(m:MH)(h:PH):Ctx:=
 dG [] [(3,{A:=Nat×cK,st:=λ⟨k,w⟩=>bO 85 87 [(2,.at (.ptr 2 0)),(5,.at (.ptr 5 0)),(16,sv w.references),(17,iv w.references.len),(18,iv k)] [(2,.cells 40 (v.enc.map .val)),(5,.cells 82 (w.enc.map .val))] m h}),
  (8,{A:=Nat×Nat×cK×E3,st:=λ⟨k,j,w,r⟩=>bO 85 87 [(2,.at (.ptr 2 0)),(5,.at (.ptr 5 0)),(7,.at (.ptr 7 0)),(16,sv w.references),(17,iv w.references.len),(18,iv k),(47,sv r.columns),(48,iv r.columns.len),(49,iv j)] [(2,.cells 40 (v.enc.map .val)),(5,.cells 82 (w.enc.map .val)),(7,.cells 138 (r.enc.map .val))] m h})] [] [] false
abbrev nR(a:(Nat->Prop)->Nat->Prop)(b:(Nat->Prop)->(Nat->Nat)->Nat->Prop):Prop:=∃(x:Nat->Prop)(d:Nat->Nat),jP (∃(c:Nat),a x c) (λc=>b x d c)
abbrev dX:Prop:=eP 1
abbrev DI(a b:cK):Prop:=bB a.references b.references
abbrev DJ(a b:cK):Prop:=bQ a.references b.references
abbrev F9(a:bY)(b:Int)(c:Nat->Nat->Prop):Prop:=aK (λx d=>aA (aL (tS a) x d) (0<=b) (b<aG a.tables/\c x d))
noncomputable abbrev tO(a:Nat×Nat×Nat×cK×cK×Sl):cK:=a.2.2.2.1
noncomputable abbrev yZ(a:Nat×Nat×Nat×cK×cK×Sl):Sl:=a.2.2.2.2.2
noncomputable abbrev wI(a:Nat×Nat×Nat×cK×cK×Sl):Nat:=a.2.2.1
noncomputable abbrev GF(a:Nat×Nat×Nat×cK×cK×Sl):cK:=a.2.2.2.2.1
attribute [push_cast] nR dX DI DJ F9 tO yZ wI GF
def Ov(v:bY)(m:MH)(h:PH)(K:bo):Prop:=
  nR (λI x=>aA (I x) dX (aA (qZ v) (iU v) (aA (bC x) (bM v) (aA (m=m) (h=h) True)))) (λI n x=>F5 (I x) x v (λb o y=>aJ m h b (bK o x 5) (zS y)/\∃(I1:Nat×Nat×cK->Prop)(t:Nat×Nat×cK->Nat),(∃(d:Nat×Nat×cK),aA (I1 d) dX (aA (eP 4) (qZ v) (aA (iU v) (cG x d.1) (aA (DI y (lL d)) (DJ y (lL d)) (aA (bC (rN d)) (bM v) (aA (oQ 82 (gP y)=oQ 82 (gP (lL d))) (m=m) (bX h h)))))))/\∀(d:Nat×Nat×cK),I1 d->aZ (↑(rN d):Int) (aG (lL d).references) (aK (λu z=>aA (aL (lL d).references.a u z) (0<=(↑(rN d):Int)) ((↑(rN d):Int)<aG (lL d).references/\∃(f:E3),aJ m h u (bK z (rN d) 2) (gV (dT f.columns) (fD f.table))/\
 aZ f.table 0 (K aX m h) (fO f.table (iX v) (K aX m h) (F9 v f.table (λL M=>∃(j:cK),aJ m h L (fX M f.table 5) (zS j)/\cO (aG f.columns) j.key (K aX m h) (∃(I2:Nat×Nat×Nat×cK×cK×Sl->Prop)(A:Nat×Nat×Nat×cK×cK×Sl->Nat),(∃(c:Nat×Nat×Nat×cK×cK×Sl),aA (I2 c) dX (aA (eP 4) (eP 7) (aA (qZ v) (iU v) (aA (cG d.1 c.1) (DI (lL d) (tO c)) (aA (DJ (lL d) (tO c)) (cG (rN d) c.2.1) (aA (bB f.columns (yZ c)) (bQ f.columns (yZ c)) (aA (bC (wI c)) (bM v) (aA (oQ 82 (gP (lL d))=oQ 82 (gP (tO c))) (oQ 82 (gP j)=oQ 82 (gP (GF c))) (dW m m h h)))))))))/\∀(c:Nat×Nat×Nat×cK×cK×Sl),I2 c->aZ (↑(wI c):Int) (aG
 (yZ c)) (aK (λB C=>aA (aL (yZ c).a B C) (0<=(↑(wI c):Int)) ((↑(wI c):Int)<aG (yZ c)/\∃(g:Int),aJ m h B (bK C (wI c) 1) (bL g)/\aZ g 0 (K aX m h) (fO g (Aa (tO c)) (K aX m h) (aK (λD E=>aA (aL (tO c).columns.a D E) (0<=g) (g<aG (tO c).columns/\∃(F:Int),aJ m h D (fX E g 2+1) (bL F)/\aK (λG H=>aA (aL (GF c).columns.a G H) (0<=(↑(wI c):Int)) ((↑(wI c):Int)<aG (GF c).columns/\∃(J:Int),aJ m h G (bK H (wI c) 2+1) (bL J)/\cO F J (K aX m h) (∃(e:Nat×Nat×Nat×cK×cK×Sl),aA (I2 e) (A e<A c) (aA dX (eP 4) (aA (eP 7) (qZ v) (aA (iU v) (cG c.1 e.1) (aA (DI (tO c) (tO e)) (DJ
 (tO c) (tO e)) (aA (cG c.2.1 e.2.1) (bB (yZ c) (yZ e)) (aA (bQ (yZ c) (yZ e)) (bD (fP (bE (wI c) 1)) (wI e)) (aA (bM v) (oQ 82 (gP (tO c))=oQ 82 (gP (tO e))) (dK (oQ 82 (gP (GF c))=oQ 82 (gP (GF e))) m m h h)))))))))))))))))) (∃(e:Nat×Nat×cK),aA (I1 e) (t e<t d) (aA dX (eP 4) (aA (aH v.tables) (iU v) (aA (cG c.1 e.1) (DI (tO c) (lL e)) (aA (DJ (tO c) (lL e)) (bD (fP (bE c.2.1 1)) (rN e)) (aA (bM v) (oQ 82 (gP (tO c))=oQ 82 (gP (lL e))) (dW m m h h)))))))))))))) (∃(c:Nat),aA (I c) (n c<n x) (aA dX (qZ v) (aA (iU v) (bD (fP (bE d.1 1)) c) (aA (bM v) (m=m) (bX h h)))))) (K gL m h))
noncomputable abbrev tP(a:Nat×Nat×cK×E3):cK:=a.2.2.1
noncomputable abbrev sV(a:Nat×Nat×cK×E3):Sl:=a.2.2.2.columns
noncomputable abbrev D8(a:Nat×Nat×cK×E3):Int:=a.2.2.2.table
attribute [push_cast] tP sV D8
def Oy(v:bY)(i:Nat)(m:MH)(h:PH)(K:bo):Prop:=
  aK (λb o=>aA (aL (tS v) b o) (0<=(↑i:Int)) ((↑i:Int)<aG v.tables/\∃(y:cK),aJ m h b (bK o i 5) (zS y)/\ME (λI x=>aA (I x) gI (aA (eP 5) (DI y x.2) (aA (DJ y x.2) (bC x.1) (aA (bM v) (D9 y x) (dW m m h h))))) (λI j x=>I x->aZ (↑x.1:Int) (aG x.2.references) (aK (λn t=>aA (aL x.2.references.a n t) (0<=(↑x.1:Int)) ((↑x.1:Int)<aG x.2.references/\∃(e:E3),aJ m h n (bK t x.1 2) (gV (dT e.columns) (fD e.table))/\aZ e.table 0 (K aX m h) (fO e.table (iX v) (K aX m h) (aK (λu z=>aA (aL (tS v) u z) (0<=e.table) (e.table<aG v.tables/\∃(A:Int),aJ m h u (fX z e.table 5+2) (bL A)/\cO (aG e.columns) A (K aX m h) (∃(I1:Nat×Nat×cK×E3->Prop)(B:
 Nat×Nat×cK×E3->Nat),(∃(c:Nat×Nat×cK×E3),aA (I1 c) gI (aA (eP 5) (eP 7) (aA (DI x.2 (tP c)) (DJ x.2 (tP c)) (aA (cG x.1 c.1) (bB e.columns (sV c)) (aA (bQ e.columns (sV c)) (bC c.2.1) (aA (bM v) (oQ 82 (gP x.2)=oQ 82 (gP (tP c))) (dK (oQ 138 (lX (qK e.columns) (jI e.table))=oQ 138 (lX (qK (sV c)) (jI (D8 c)))) m m h h)))))))/\∀(c:Nat×Nat×cK×E3),I1 c->aZ (↑c.2.1:Int) (aG (sV c)) (aK (λC D=>aA (aL (sV c).a C D) (0<=(↑c.2.1:Int)) ((↑c.2.1:Int)<aG (sV c)/\∃(f:Int),aJ m h C (bK D c.2.1 1) (bL f)/\aZ f 0 (K aX m h) (fO f (Aa (tP c)) (K aX m h) (aK (λE F=>aA (aL (tP c).columns.a E F) (0<=f) (f<aG (tP
 c).columns/\∃(G:Int),aJ m h E (fX F f 2+1) (bL G)/\aK (λH J=>aA (aL (tS v) H J) (0<=D8 c) (D8 c<aG v.tables/\∃(g:Sl),aJ m h H (fX J (D8 c) 5+1) (aM g)/\aK (λL M=>aA (aL g.a L M) (0<=(↑c.2.1:Int)) ((↑c.2.1:Int)<aG g/\∃(O:Int),aJ m h L (bK M c.2.1 2+1) (bL O)/\cO G O (K aX m h) (∃(d:Nat×Nat×cK×E3),aA (I1 d) (B d<B c) (aA gI dY (aA (eP 7) (DI (tP c) (tP d)) (aA (DJ (tP c) (tP d)) (cG c.1 d.1) (aA (bB (sV c) (sV d)) (bQ (sV c) (sV d)) (aA (bD (fP (bE c.2.1 1)) d.2.1) (bM v) (aA (oQ 82 (gP (tP c))=oQ 82 (gP (tP d))) (oQ 138 (lX (qK (sV c)) (jI (D8 c)))=oQ 138 (lX (qK (sV
 d)) (jI (D8 d)))) (aA (m=m) (h=h) True))))))))))))))))))) (∃(d:Nat×cK),aA (I d) (j d<j x) (aA gI dY (aA (DI (tP c) d.2) (DJ (tP c) d.2) (aA (bD (fP (bE c.1 1)) d.1) (bM v) (dK (D9 (tP c) d) m m h h))))))))))))) (K gL m h))))
theorem Ints.at'{s:Sl}(r:Ints h s l){x:Int}(c:l[i]? =some x):∃b o,s.a=some ⟨b,o,none⟩/\bT h b (o+i*1) [.int .i64 x]:=by
 obtain⟨b,o,e,k⟩:=r.at c;exact⟨b,o,e,by rwa [Nat.mul_one]⟩
theorem Ua{α:Type}{l:List α}{x:α}(h:l[i]? =some x):(l.take i).length=i:=by
 have:=(List.getElem?_eq_some_iff.1 h).1;rw[length_take];omega
theorem Good.key_le{tabs:List Ay}(h:Good Dr tabs){g:Ay}(c:tabs[i]? =some g):g.key<=g.columns.length:=(h i g c).2.2.1
theorem bPX{v:bY}(Q:gO h s v)(E:Good Dr s.tables)(hK:∀r:Bool,(r=true↔Good (EY s.tables) s.tables)->K (cB r) m h):Ov v m h K:=by
 dsimp only[Ov,push_cast];have hl:=Q.tables.slen;have b':=Q.tables.len;have hf:¬Good (EY s.tables) s.tables->K (.val (.bool false)) m h:=λh=>hK false ⟨λe=>(by cases e),λe=>(h e).elim⟩;refine⟨λi=>i<=s.tables.length/\fC (EY s.tables) s.tables i,λi=>s.tables.length-i,⟨0,⟨aC,.zero⟩,MT⟩,λi⟨hi,hg⟩=>aE (λL=>?_) (λb8=>hK true ⟨λ_=>hg.all aC,λ_=>rfl⟩)⟩;obtain⟨t,U⟩:=eN hl L;obtain⟨b,o,w,ea,hr,f⟩:=Q.tables.at U;have b9:=bN.slen f.columns;have V:=bN.slen f.refs;have c':=bN.len f.refs;refine⟨b,o,ea,aC,L,w,.imm hr,λ⟨W,k,X⟩=>W=i/\X=w/\k<=t.refs.length/\fC (bcX s.tables t) t.refs k,λ⟨_,k,_⟩=>t.refs.length-k,⟨(i,0,w),⟨rfl,rfl,aC,.zero⟩,MT⟩,?_⟩;rintro⟨i,k,w⟩ ⟨rfl,rfl,hk,M⟩;dsimp only;refine aE (λC=>?_) (λb0=>⟨i+1,⟨aC,hg.succ U (M.all aC)⟩,by show s.tables.length-(i+1)<s.tables.length-i;omega,MT⟩);obtain⟨r,F⟩:=eN V C;obtain⟨b2,o2,G,Y,Z,d⟩:=f.refs.at F;have a':=d.columns.slen;have c0:=d.columns.len;have rt:=d.table;have bad:¬bcX s.tables t (t.refs.take k) r->K (.val (.bool false)) m h:=λhn=>hf (Good.not U (Good.not F hn));refine⟨b2,o2,Y,aC,C,G,.imm Z,aE (λh1=>bad λu=>?_) (λh1=>aE (λh2=>bad λu=>?_) (λh2=>?_))⟩
 .have:=u.1;omega
 .have:=u.2.1;omega
 obtain⟨g,b3,o3,H,B,a0,a1,n⟩:=Q.table (t:=G.table) aC aC;have c1:=bN.slen n.columns;have b1:=E.key_le B;have gk:=n.key;refine⟨b3,o3,a0,aC,aC,H,.imm a1,aB (λR=>bad λu=>?_) (λR=>?_)⟩
 .obtain⟨_,_,g',z,c2,_⟩:=u;rw[<-rt,B]at z;cases z;have:(G.columns.len:Int)≠H.key:=bj R
  omega
 have R:(G.columns.len:Int)=H.key:=bj R
 refine⟨λ⟨W,k',j,X,g',sl⟩=>W=i/\k'=k/\X=w/\g'=H/\sl=G.columns/\j<=r.columns.length/\fC (λa2 c=>HR t g a2.length c) r.columns j,λ⟨_,_,j,_,_,_⟩=>r.columns.length-j,⟨(i,k,0,w,H,G.columns),⟨rfl,rfl,rfl,rfl,rfl,aC,.zero⟩,MT⟩,?_⟩;rintro⟨i,k,j,w,H,_⟩ ⟨rfl,rfl,rfl,rfl,rfl,hj,O⟩;dsimp only;refine aE (λD=>?_) (λb7=>⟨(i,k+1,w),⟨rfl,rfl,by show k+1<=t.refs.length;omega,M.succ F ⟨aC,aC,g,by rw[<-rt];exact B,aC,O.all aC⟩⟩,by show t.refs.length-(k+1)<t.refs.length-k;omega,MT⟩);obtain⟨c,S⟩:=eN a' D;obtain⟨b4,o4,a3,a4⟩:=d.columns.at' S;have P:=Ua S
 have A:¬HR t g j c->K (.val (.bool false)) m h:=λhn=>bad λu=>by
  obtain⟨_,_,g',z,_,a5⟩:=u;rw[<-rt,B]at z;cases z;have:=a5 j c S;dsimp only at this;rw[P]at this;exact hn this
 refine⟨b4,o4,a3,aC,D,c,.imm a4,aE (λh5=>A λu=>?_) (λh5=>aE (λh6=>A λu=>?_) (λh6=>?_))⟩
 .have:=u.1;omega
 .have:=u.2.1;omega
 obtain⟨x,I⟩:∃x,t.columns[c.toNat]? =some x:=⟨t.columns[c.toNat]'(by omega),getElem?_eq_getElem _⟩
 obtain⟨y,J⟩:∃y,g.columns[j]? =some y:=⟨g.columns[j]'(by omega),getElem?_eq_getElem _⟩
 obtain⟨b5,o5,a6,a7⟩:=E5.at f.columns I;obtain⟨b6,o6,a8,a9⟩:=E5.at n.columns J;refine⟨b5,o5,a6,aC,aC,x.kind,.imm (bT.part a7 1 1),b6,o6,a8,aC,aC,y.kind,.imm (bT.part a9 1 1),aB (λT=>A λu=>?_) (λT=>?_)⟩
 .obtain⟨_,_,x',y',e1,e2,e3⟩:=u;rw[I]at e1;rw[J]at e2;cases e1;cases e2;rw[e3]at T;simp at T
 .exact⟨(i,k,j+1,w,H,G.columns),⟨rfl,rfl,rfl,rfl,rfl,by show j+1<=r.columns.length;omega,O.succ S (by show HR t g (List.take j r.columns).length c;rw[P];exact⟨aC,aC,x,y,I,J,bj T⟩)⟩,by show r.columns.length-(j+1)<r.columns.length-j;omega,MT⟩
theorem alQ:bk 97 bcQ:=by
 refine iB func97 ?_;rintro c m h K ⟨v,s,rfl,d,e,f⟩;refine⟨bnZ v m h,rfl,aF,Ov v m h K,bf,?_⟩;exact bPX d e f
theorem bPJ{v:bY}{t:Ay}(Q:gO h s v)(F:Good Dr s.tables)(hx:s.tables[i]? =some t)(hK:∀r:Bool,(r=true↔EY s.tables [] t)->K (cB r) m h):Oy v i m h K:=by
 dsimp only[Oy,push_cast];have hl:=Q.tables.slen;have a7:=Q.tables.len;have b0:i<s.tables.length:=(List.getElem?_eq_some_iff.1 hx).1;have hf:¬EY s.tables [] t->K (.val (.bool false)) m h:=λh=>hK false ⟨λe=>(by cases e),λe=>(h e).elim⟩;obtain⟨b,o,w,ea,hr,f⟩:=Q.tables.at hx;have b1:=bN.slen f.columns;have V:=bN.slen f.refs;have b7:=bN.len f.refs;refine⟨b,o,ea,aC,aC,w,.imm hr,λ⟨k,W⟩=>W=w/\k<=t.refs.length/\fC (bcX s.tables t) t.refs k,λ⟨k,_⟩=>t.refs.length-k,⟨(0,w),⟨rfl,aC,.zero⟩,MT⟩,?_⟩;rintro⟨k,w⟩ ⟨rfl,hk,J⟩;dsimp only;refine aE (λC=>?_) (λa8=>hK true ⟨λ_=>J.all aC,λ_=>rfl⟩);obtain⟨r,G⟩:=eN V C;obtain⟨b2,o2,D,X,Y,d⟩:=f.refs.at G;have Z:=d.columns.slen;have b8:=d.columns.len;have rt:=d.table;have bad:¬bcX s.tables t (t.refs.take k) r->K (.val (.bool false)) m h:=λhn=>hf (Good.not G hn);refine⟨b2,o2,X,aC,C,D,.imm Y,aE (λh1=>bad λu=>?_) (λh1=>aE (λh2=>bad λu=>?_) (λh2=>?_))⟩
 .have:=u.1;omega
 .have:=u.2.1;omega
 obtain⟨g,b3,o3,R,B,L,M,n⟩:=Q.table (t:=D.table) aC aC;have b9:=bN.slen n.columns;have a9:=F.key_le B;have gk:=n.key;refine⟨b3,o3,L,aC,aC,R.key,.imm (bT.part M 2 1),aB (λS=>bad λu=>?_) (λS=>?_)⟩
 .obtain⟨_,_,g',z,c',_⟩:=u;rw[<-rt,B]at z;cases z;have:(D.columns.len:Int)≠R.key:=bj S
  omega
 have S:(D.columns.len:Int)=R.key:=bj S
 refine⟨λ⟨k',j,W,r'⟩=>k'=k/\W=w/\r'=D/\j<=r.columns.length/\fC (λa' c=>HR t g a'.length c) r.columns j,λ⟨_,j,_,_⟩=>r.columns.length-j,⟨(k,0,w,D),⟨rfl,rfl,rfl,aC,.zero⟩,MT⟩,?_⟩;rintro⟨k,j,w,D⟩ ⟨rfl,rfl,rfl,hj,O⟩;dsimp only;refine aE (λE=>?_) (λb'=>⟨(k+1,w),⟨rfl,by show k+1<=t.refs.length;omega,J.succ G ⟨aC,aC,g,by rw[<-rt];exact B,aC,O.all aC⟩⟩,by show t.refs.length-(k+1)<t.refs.length-k;omega,MT⟩);obtain⟨c,T⟩:=eN Z E;obtain⟨b4,o4,a0,a1⟩:=d.columns.at' T;have P:=Ua T
 have A:¬HR t g j c->K (.val (.bool false)) m h:=λhn=>bad λu=>by
  obtain⟨_,_,g',z,_,a2⟩:=u;rw[<-rt,B]at z;cases z;have:=a2 j c T;dsimp only at this;rw[P]at this;exact hn this
 refine⟨b4,o4,a0,aC,E,c,.imm a1,aE (λh5=>A λu=>?_) (λh5=>aE (λh6=>A λu=>?_) (λh6=>?_))⟩
 .have:=u.1;omega
 .have:=u.2.1;omega
 obtain⟨x,H⟩:∃x,t.columns[c.toNat]? =some x:=⟨t.columns[c.toNat]'(by omega),getElem?_eq_getElem _⟩
 obtain⟨y,I⟩:∃y,g.columns[j]? =some y:=⟨g.columns[j]'(by omega),getElem?_eq_getElem _⟩
 obtain⟨b5,o5,a3,a4⟩:=E5.at f.columns H;obtain⟨b6,o6,a5,a6⟩:=E5.at n.columns I;refine⟨b5,o5,a3,aC,aC,x.kind,.imm (bT.part a4 1 1),b3,o3,L,aC,aC,R.columns,.imm (bT.part M 1 1),b6,o6,a5,aC,aC,y.kind,.imm (bT.part a6 1 1),aB (λU=>A λu=>?_) (λU=>?_)⟩
 .obtain⟨_,_,x',y',e1,e2,e3⟩:=u;rw[H]at e1;rw[I]at e2;cases e1;cases e2;rw[e3]at U;simp at U
 .exact⟨(k,j+1,w,D),⟨rfl,rfl,rfl,by show j+1<=r.columns.length;omega,O.succ T (by show HR t g (List.take j r.columns).length c;rw[P];exact⟨aC,aC,x,y,H,I,bj U⟩)⟩,by show r.columns.length-(j+1)<r.columns.length-j;omega,MT⟩
theorem alJ:bk 92 Z7:=by
 refine iB func92 ?_;rintro c m h K ⟨v,s,t,i,rfl,d,e,f,g⟩;refine⟨boX v m h,rfl,aF,Oy v i m h K,bf,?_⟩;exact bPJ d e f g
def Po(t:Ay):Prop:=t.columns.length<=8/\t.refs.length<=4/\t.checks.length<=4
def Da(s:mI):Prop:=s.tables.length<=8/\Good (λ_ t=>Po t) s.tables
def Mg(s:mI):Prop:=0<=s.version/\s.version<=1000/\Good Dr s.tables/\Good (EY s.tables) s.tables
def kD:br->Int
 |[]=>0
 |e::r=>if e=0 then kD r else e
def vU(s:mI)(i:Nat):br:=match s.tables[i]? with|some t=>t.checks.map (fI (jY s i) [])|none=>[]
theorem AL(a b:br)(h:∀e∈a,e=0):kD (a++b)=kD b:=by
 induction a with
 |nil=>rfl
 |cons x a c=>
  simp only[cons_append,kD];rw[if_pos (h x bg),c λe d=>h e (by simp[d])]
theorem uF(a:br)(h:∀e∈a,e=0):kD a=0:=by
 have:=AL a [] h;simpa[kD]using this
theorem L4{n:Nat}{f:Nat->br}{e:Int}(y:i<n)(d:∀j<i,∀x∈f j,x=0)(g:∀x∈(f i).take k,x=0)(o:(f i)[k]? =some e)(t:e≠0):kD ((List.range n).flatMap f)=e:=by
 obtain⟨r,rfl⟩:∃r,n=i+(1+r):=⟨n-i-1,aC⟩
 rw[range_add,flatMap_append,AL]
 .rw[show(List.range (1+r)).map (i+ ·)=i::(range' (i+1) r)from ?_,flatMap_cons, <-take_append_drop k (f i),append_assoc,AL _ _ g,drop_cons o]
  .simp[kD,t]
  .rw[Nat.add_comm 1 r,range_succ_eq_map];simp[range'_eq_map_range,Nat.add_assoc,Nat.add_comm 1]
 .intro x c;obtain⟨j,u,c⟩:=mem_flatMap.1 c;exact d j (mem_range.1 u) x c
open Classical in
noncomputable def dH(s:mI):Int:=if Da s then(if Mg s then kD ((List.range s.tables.length).flatMap (vU s))else 70)else 2
def vO:Vc.Spec:=λc m h K=>∃v s,c=[aS v]/\gO h s v/\K (cI (dH s)) m h
noncomputable def f54_ctx(v:bY)(m:MH)(h:PH):Ctx:=
 dG [(96,bdZ),(97,bcQ),(81,xO),(98,sJ)] [(4,{A:=Nat,st:=λi=>bO 83 84 [(1,.at (.ptr 1 0)),(16,sv v.tables),(17,iv v.tables.len),(18,iv i)] [(1,.cells 40 (v.enc.map .val))] m h}),
  (12,{A:=Nat×PH,st:=λ⟨i,c⟩=>bO 83 84 [(1,.at (.ptr 1 0)),(58,sv v.tables),(59,iv v.tables.len),(60,iv i)] [(1,.cells 40 (v.enc.map .val))] m c}),
  (16,{A:=Nat×Nat×Sl×Sl×PH,st:=λ⟨i,k,ks,d,c⟩=>bO 83 84 [(1,.at (.ptr 1 0)),(7,sv ks),(58,sv v.tables),(59,iv v.tables.len),(60,iv i),(69,sv d),(70,iv d.len),(71,iv k)] [(1,.cells 40 (v.enc.map .val))] m c})] [] [] false
noncomputable def f51_ctx(v:bY)(m:MH)(h:PH):Ctx:=
 dG [(91,a9Q),(92,Z7),(59,xO),(57,sJ)] [(4,{A:=Nat,st:=λi=>bO 96 97 [(1,.at (.ptr 1 0)),(16,sv v.tables),(17,iv v.tables.len),(18,iv i)] [(1,.cells 40 (v.enc.map .val))] m h}),
  (12,{A:=Nat,st:=λi=>bO 96 97 [(1,.at (.ptr 1 0)),(49,iv v.tables.len),(50,iv i)] [(1,.cells 40 (v.enc.map .val))] m h}),
  (18,{A:=Nat,st:=λi=>bO 96 97 [(1,.at (.ptr 1 0)),(60,iv v.tables.len),(61,iv i)] [(1,.cells 40 (v.enc.map .val))] m h}),
  (24,{A:=Nat×PH,st:=λ⟨i,c⟩=>bO 96 97 [(1,.at (.ptr 1 0)),(71,iv v.tables.len),(72,iv i)] [(1,.cells 40 (v.enc.map .val))] m c}),
  (27,{A:=Nat×Nat×Sl×PH,st:=λ⟨i,k,d,c⟩=>bO 96 97 [(1,.at (.ptr 1 0)),(7,iv i),(71,iv v.tables.len),(72,iv i),(80,sv d),(81,iv d.len),(82,iv k)] [(1,.cells 40 (v.enc.map .val))] m c})] [] [] false
abbrev MQ(a:(Nat×PH->Prop)->(Nat×PH)->Prop)(b:(Nat×PH->Prop)->(Nat×PH->Nat)->(Nat×PH)->Prop):Prop:=∃(x:Nat×PH->Prop)(d:Nat×PH->Nat),(∃(c:Nat×PH),a x c)/\∀(c:Nat×PH),b x d c
abbrev Cn(a:cq)(b:Nat->Nat->Option Value)(c:Sl->PH->Prop):Prop:=nV (λx d=>∃(f:Int),aA (a=aW (jR (bR x)) f) (gO b d x) (nK d/\∀(g:Sl)(e:PH),dA b e (Ints e g (jY d f)) (c g e)))
noncomputable abbrev y8(a:Nat×Nat×Sl×Sl×PH):Sl:=a.2.2.2.1
noncomputable abbrev y9(a:Nat×Nat×Sl×Sl×PH):Nat->Nat->Option Value:=a.2.2.2.2
abbrev DO(a:br->br->Prop):Prop:=∃(x c:br),a x c
attribute [push_cast] MQ Cn y8 y9 DO
def af(v:bY)(m:MH)(h:PH)(K:bo):Prop:=
  dZ (iX v) 8 (K (fQ 2) m h) (nR (λI x=>aA (I x) dX (aA (qZ v) (iU v) (aA (bC x) (bM v) (aA (m=m) (h=h) True)))) (λI n x=>F5 (I x) x v (λb o y=>aJ m h b (bK o x 5) (zS y)/\mR (decide (Aa y>8)) (K (fQ 2) m h) (aG y.references) 4 (K (fQ 2) m h) (dZ (aG y.checks) 4 (K (fQ 2) m h) (∃(e:Nat),aA (I e) (n e<n x) (aA dX (qZ v) (aA (iU v) (bD (fP (bE x 1)) e) (aA (bM v) (m=m) (bX h h))))))) (aZ v.version 0 (K (fQ 70) m h) (dZ v.version 1000 (K (fQ 70) m h) (nV (λu s=>aA (pY (bR v)=pY (bR u)) (gO h s u) (∀(r:Bool),fA (fS r↔Good Dr s.tables) (!r) (K (fQ 70) m h) (nV (λz g=>u9 (pY (bR v)) (pY (bR z)) (gO h g z) (Good Dr g.tables) (λA=>fA (fS
 A↔Good (EY g.tables) g.tables) (!A) (K (fQ 70) m h) (MQ (λI1 e=>aA (I1 e) dX (aA (qZ v) (iU v) (aA (bC e.1) (bM v) (aA (m=m) (h=e.2) True)))) (λI1 B e=>F5 (I1 e) e.1 v (λb o y=>aJ m e.2 b (bK o e.1 5) (zS y)/\Cn (aW (jR (bR v)) (↑e.1:Int)) e.2 (λJ L=>∃(I2:Nat×Nat×Sl×Sl×PH->Prop)(C:Nat×Nat×Sl×Sl×PH->Nat),(∃(d:Nat×Nat×Sl×Sl×PH),aA (I2 d) dX (aA (bB J d.2.2.1) (qZ v) (aA (iU v) (cG e.1 d.1) (aA (bB y.checks (y8 d)) (bQ y.checks (y8 d)) (aA (bC d.2.1) (bM v) (aA (m=m) (L=y9 d) True))))))/\∀(d:Nat×Nat×Sl×Sl×PH),I2 d->aZ (↑d.2.1:Int) (aG (y8 d)) (aK (λD E=>aA (aL (y8 d).a D E) (0<=(↑d.2.1:Int)) ((↑d.2.1:Int)
 <aG (y8 d)/\∃(F:PV),aJ m (y9 d) D (bK E d.2.1 13) F.enc/\∃(G t:Sl)(H:PV),DO (λc p=>∃(j:Pred),aA (cN d.2.2.1 (gJ jG (jR F.enc))=cN G (eJ t (jR H.enc))) (Ints (y9 d) G c) (aA (Ints (y9 d) t p) (eW (y9 d) j H) (cO (fI c p j) 0 (K (fQ (fI c p j)) m (y9 d)) (∃(f:Nat×Nat×Sl×Sl×PH),aA (I2 f) (C f<C d) (aA dX (bB d.2.2.1 f.2.2.1) (aA (aH v.tables) (iU v) (aA (cG d.1 f.1) (bB (y8 d) (y8 f)) (aA (bQ (y8 d) (y8 f)) (bD (fP (bE d.2.1 1)) f.2.1) (aA (bM v) (m=m) (bX (y9 d) (y9 f)))))))))))))) (∃(f:Nat×PH),aA (I1 f) (B f<B e) (aA dX (qZ v) (aA (iU v) (bD (fP (bE d.1 1)) f.1) (aA (bM v) (m=m) (bX (y9 d)
 f.2))))))) (K (fQ 0) m e.2)))))))))))))
abbrev M3(a:mI)(b:Nat)(c:Ay):Prop:=a.tables[b]? =Option.some c
noncomputable abbrev zA(a:Nat×Nat×Sl×PH):Sl:=a.2.2.1
abbrev IH(a:cq)(b:PH)(c:br->br->Pred->Prop):Prop:=mS (λx d=>∃(e:PV),DO (λf g=>∃(j:Pred),aA (a=cN x (eJ d (jR e.enc))) (Ints b x f) (aA (Ints b d g) (eW b j e) (c f g j))))
attribute [push_cast] M3 zA IH
def ag(v:bY)(m:MH)(h:PH)(K:bo):Prop:=
  dZ (iX v) 8 (K (fQ 2) m h) (nR (λI x=>aA (I x) dX (aA (qZ v) (iU v) (aA (bC x) (bM v) (aA (m=m) (h=h) True)))) (λI z x=>F5 (I x) x v (λb o y=>aJ m h b (bK o x 5) (zS y)/\mR (decide (Aa y>8)) (K (fQ 2) m h) (aG y.references) 4 (K (fQ 2) m h) (dZ (aG y.checks) 4 (K (fQ 2) m h) (∃(g:Nat),aA (I g) (z g<z x) (aA dX (qZ v) (aA (iU v) (bD (fP (bE x 1)) g) (aA (bM v) (m=m) (bX h h))))))) (aZ v.version 0 (K (fQ 70) m h) (dZ v.version 1000 (K (fQ 70) m h) (nR (λI1 g=>aA (I1 g) dX (aA (iU v) (bC g) (dK (bM v) m m h h))) (λI1 A g=>I1 g->aZ (↑g:Int) (aG v.tables) (nV (λn s=>∃(t:Ay)(i:Nat),u9 (aW (jR (bR v)) (↑g:Int)) (aW (jR (bR n)) (↑i:Int))
 (gO h s n) (M3 s i t) (λr=>fA (fS r↔Dr (List.take i s.tables) t) (!r) (K (fQ 70) m h) (∃(j:Nat),aA (I1 j) (A j<A g) (aA dX (iU v) (aA (bD (fP (bE g 1)) j) (bM v) (aA (m=m) (h=h) True))))))) (nR (λI2 j=>aA (I2 j) dX (aA (iU v) (bC j) (dK (bM v) m m h h))) (λI2 B j=>I2 j->aZ (↑j:Int) (aG v.tables) (nV (λn s=>∃(t:Ay)(i:Nat),aA (aW (jR (bR v)) (↑j:Int)=aW (jR (bR n)) (↑i:Int)) (gO h s n) (aA (Good Dr s.tables) (M3 s i t) (∀(r:Bool),fA (fS r↔EY s.tables [] t) (!r) (K (fQ 70) m h) (∃(e:Nat),aA (I2 e) (B e<B j) (aA dX (iU v) (aA (bD (fP (bE j 1)) e) (bM v) (aA (m=m) (h=h) True)))))))) (MQ (λI3 e=>aA (I3 e) dX (aA (iU v) (bC
 e.1) (dK (bM v) m m h e.2))) (λI3 C e=>I3 e->aZ (↑e.1:Int) (aG v.tables) (aK (λb o=>aA (aL (tS v) b o) (0<=(↑e.1:Int)) ((↑e.1:Int)<aG v.tables/\∃(y:Sl),aJ m e.2 b (bK o e.1 5+4) (aM y)/\∃(I4:Nat×Nat×Sl×PH->Prop)(D:Nat×Nat×Sl×PH->Nat),(∃(d:Nat×Nat×Sl×PH),aA (I4 d) dX (aA (cG e.1 d.1) (iU v) (aA (cG e.1 d.1) (bB y (zA d)) (aA (bQ y (zA d)) (bC d.2.1) (dK (bM v) m m e.2 d.2.2.2)))))/\∀(d:Nat×Nat×Sl×PH),I4 d->aZ (↑d.2.1:Int) (aG (zA d)) (aK (λE F=>aA (aL (zA d).a E F) (0<=(↑d.2.1:Int)) ((↑d.2.1:Int)<aG (zA d)/\∃(G:PV),aJ m d.2.2.2 E (bK F d.2.1 13) G.enc/\Cn (aW (jR (bR v)) (↑d.1:Int)) d.2.2.2 (λs u=>
 IH (cN s (gJ jG (jR G.enc))) u (λc p H=>cO (fI c p H) 0 (K (fQ (fI c p H)) m u) (∃(f:Nat×Nat×Sl×PH),aA (I4 f) (D f<D d) (aA dX (cG d.1 f.1) (aA (iU v) (cG d.1 f.1) (aA (bB (zA d) (zA f)) (bQ (zA d) (zA f)) (aA (bD (fP (bE d.2.1 1)) f.2.1) (bM v) (aA (m=m) (u=f.2.2.2) True))))))))))) (∃(f:Nat×PH),aA (I3 f) (C f<C e) (aA dX (iU v) (aA (bD (fP (bE d.1 1)) f.1) (bM v) (aA (m=m) (d.2.2.2=f.2) True))))))) (K (fQ 0) m e.2)))))))))))
theorem kA.out{hx:PH}{r:CV}(d:Sub m m')(c:PH.le h hx)(e:K r m h):kA h K r m' hx:=⟨m,h,d,.refl _,c,e⟩
theorem uZ(h:¬Da s):dH s=2:=by unfold dH;rw[if_neg h]
theorem NI(h:Da s)(h':¬Mg s):dH s=70:=by unfold dH;rw[if_pos h,if_neg h']
theorem J7(h:Da s)(h':Mg s):dH s=kD ((List.range s.tables.length).flatMap (vU s)):=by unfold dH;rw[if_pos h,if_pos h']
theorem Dw{t:Ay}(hx:s.tables[i]? =some t)(c:t.checks[k]? =some p):(vU s i)[k]? =some (fI (jY s i) [] p):=by
 unfold vU;rw[hx];simp[c]
theorem Lw{t:Ay}(hx:s.tables[i]? =some t):(vU s i).length=t.checks.length:=by
 unfold vU;rw[hx];simp
theorem P7{e:Int}(d:l[k]? =some e)(h:∀x∈l.take k,x=0)(f:e=0):∀x∈l.take (k+1),x=0:=by
 intro x c;rw[take_add_one,d,mem_append]at c;rcases c with c|c
 .exact h x c
 .simp at c;rw[c,f]
theorem TY{f:Nat->br}(h:∀j<i,∀x∈f j,x=0)(g:(f i).length<=k)(c:∀x∈(f i).take k,x=0):∀j<i+1,∀x∈f j,x=0:=by
 intro j n x d;by_cases e:j=i
 .subst e;rw[take_of_length_le g]at c;exact c x d
 .exact h j aC x d
theorem aa:bk 54 vO:=by
 refine ED func54 ?_;rintro a2 m h K ⟨v,s,rfl,y,hK⟩;refine⟨f54_ctx v m h,rfl,aD alX (aD alQ (aD KA (aD Kz aF))),af v m h (kA h K),bf,?_⟩;show af v m h (kA h K);dsimp only[af,push_cast];have Z:=y.tables.slen;have a':=y.tables.len;have a0:=y.version;have out:∀(d:PH)(x:Int),PH.le h d->dH s=x->kA h K (.val (.int .i64 x)) m d:=λd x g e=>.out (Sub.refl m) g (by rw[<-e];exact hK);refine aE (λh1=>out h _ (.refl _) (uZ λe=>by have:=e.1;omega)) (λh1=>?_);refine⟨λi=>i<=s.tables.length/\fC (λ_ t=>Po t) s.tables i,λi=>s.tables.length-i,⟨0,⟨aC,.zero⟩,MT⟩,λi⟨hi,hg⟩=>aE (λn=>?_) (λQ=>?_)⟩
 .obtain⟨t,d⟩:=eN Z n;obtain⟨b,o,w,R,B,c⟩:=y.tables.at d;have e1:=bN.slen c.columns;have e2:=bN.slen c.refs;have e3:=bN.slen c.checks;have bad:¬Po t->kA h K (.val (.int .i64 2)) m h:=λS=>out h _ (.refl _) (uZ λe=>Good.not d S e.2);refine⟨b,o,R,aC,n,w,.imm B,aE (λT=>bad λe=>?_) (λT=>aE (λU=>bad λe=>?_) (λU=>aE (λC=>bad λe=>?_) (λC=>⟨i+1,⟨aC,hg.succ d ⟨aC,aC,aC⟩⟩,by show s.tables.length-(i+1)<s.tables.length-i;omega,MT⟩)))⟩
  .have:=e.1;omega
  .have:=e.2.1;omega
  .have:=e.2.2;omega
 have D:Da s:=⟨aC,hg.all aC⟩
 have h8:nK s:=λt I=>by
  obtain⟨j,O⟩:=mem_iff_getElem?.1 I;exact(D.2 j t O).1
 have bad:¬Mg s->kA h K (.val (.int .i64 70)) m h:=λS=>out h _ (.refl _) (NI D S);refine aE (λT=>bad λe=>?_) (λT=>aE (λU=>bad λe=>?_) (λU=>⟨v,s,rfl,y,λr B=>aB (λC=>bad λe=>?_) (λC=>⟨v,s,rfl,y,B.1 (bj C),λr2 J=>aB (λP=>bad λe=>?_) (λP=>?_)⟩)⟩))
 .have:=e.1;omega
 .have:=e.2.1;omega
 .rw[B.2 e.2.2.1]at C;cases C
 .rw[J.2 e.2.2.2]at P;cases P
 have ok:Mg s:=⟨aC,aC,B.1 (bj C),J.1 (bj P)⟩
 rw[J7 D ok]at out;refine⟨λ⟨i,d⟩=>i<=s.tables.length/\PH.le h d/\∀j<i,∀x∈vU s j,x=0,λ⟨i,_⟩=>s.tables.length-i,⟨(0,h),⟨aC,.refl _,λj O=>by omega⟩,MT⟩,?_⟩;rintro⟨i,d⟩ ⟨hi,g,V⟩;dsimp only;refine aE (λn=>?_) (λQ=>out d _ g (uF _ λe he=>?_))
 .obtain⟨t,I⟩:=eN Z n;obtain⟨b,o,w,R,B,c⟩:=(y.mono g).tables.at I;have cl:=bN.slen c.checks;have cb:=bN.len c.checks;refine⟨b,o,R,aC,n,w,.imm B,v,s,i,rfl,y.mono g,h8,λsl h' z E=>?_⟩;refine⟨λ⟨i',k,ks,cs,F⟩=>i'=i/\cs=w.checks/\k<=t.checks.length/\PH.le h' F/\Ints F ks (jY s i)/\∀x∈(vU s i).take k,x=0,λ⟨_,k,_,_,_⟩=>t.checks.length-k,⟨(i,0,sl,w.checks,h'),⟨rfl,rfl,aC,.refl _,E,λx d=>by simp at d⟩,MT⟩,?_⟩;rintro⟨i,k,ks,_,F⟩ ⟨rfl,rfl,hk,u,f,G⟩;dsimp only;have L:PH.le h F:=(g.trans z).trans u;refine aE (λA=>?_) (λa1=>⟨(i+1,F),⟨aC,L,TY V (k:=k) (by rw[Lw I];omega) G⟩,by show s.tables.length-(i+1)<s.tables.length-i;omega,MT⟩);obtain⟨p,W⟩:=eN cl A;obtain⟨b2,o2,pv,X,M,H⟩:=((c.checks.mono z).mono u).at W;refine⟨b2,o2,X,aC,A,pv,.imm M,ks,⟨none,0,0⟩,pv,jY s i,[],p,rfl,f,⟨.nil _ _,bg⟩,H,aB (λY=>?_) (λY=>?_)⟩
  .exact out F _ L (L4 aC V G (Dw I W) (bj Y))
  .exact⟨(i,k+1,ks,w.checks,F),⟨rfl,rfl,by show k+1<=t.checks.length;omega,u,f,P7 (Dw I W) G (bj Y)⟩,by show t.checks.length-(k+1)<t.checks.length-k;omega,MT⟩
 .obtain⟨j,O,d⟩:=mem_flatMap.1 he;exact V j (by have:=mem_range.1 O;omega) e d
theorem au:bk 51 vO:=by
 refine ED func51 ?_;rintro a2 m h K ⟨v,s,rfl,C,hK⟩;refine⟨f51_ctx v m h,rfl,aD amQ (aD alJ (aD ab (aD ae aF))),ag v m h (kA h K),bf,?_⟩;show ag v m h (kA h K);dsimp only[ag,push_cast];have Q:=C.tables.slen;have a':=C.tables.len;have a0:=C.version;have out:∀(c:PH)(x:Int),PH.le h c->dH s=x->kA h K (.val (.int .i64 x)) m c:=λc x n e=>.out (Sub.refl m) n (by rw[<-e];exact hK);refine aE (λh1=>out h _ (.refl _) (uZ λe=>by have:=e.1;omega)) (λh1=>?_);refine⟨λi=>i<=s.tables.length/\fC (λ_ t=>Po t) s.tables i,λi=>s.tables.length-i,⟨0,⟨aC,.zero⟩,MT⟩,λi⟨M,u⟩=>aE (λf=>?_) (λg=>?_)⟩
 .obtain⟨t,c⟩:=eN Q f;obtain⟨b,o,w,T,B,d⟩:=C.tables.at c;have e1:=bN.slen d.columns;have e2:=bN.slen d.refs;have e3:=bN.slen d.checks;have bad:¬Po t->kA h K (.val (.int .i64 2)) m h:=λU=>out h _ (.refl _) (uZ λe=>Good.not c U e.2);refine⟨b,o,T,aC,f,w,.imm B,aE (λV=>bad λe=>?_) (λV=>aE (λW=>bad λe=>?_) (λW=>aE (λy=>bad λe=>?_) (λy=>⟨i+1,⟨aC,u.succ c ⟨aC,aC,aC⟩⟩,by show s.tables.length-(i+1)<s.tables.length-i;omega,MT⟩)))⟩
  .have:=e.1;omega
  .have:=e.2.1;omega
  .have:=e.2.2;omega
 have F:Da s:=⟨aC,u.all aC⟩
 have h8:nK s:=λt O=>by
  obtain⟨j,R⟩:=mem_iff_getElem?.1 O;exact(F.2 j t R).1
 have bad:¬Mg s->kA h K (.val (.int .i64 70)) m h:=λU=>out h _ (.refl _) (NI F U);refine aE (λV=>bad λe=>?_) (λV=>aE (λW=>bad λe=>?_) (λW=>?_))
 .have:=e.1;omega
 .have:=e.2.1;omega
 clear M u g;refine⟨λi=>i<=s.tables.length/\fC Dr s.tables i,λi=>s.tables.length-i,⟨0,⟨aC,.zero⟩,MT⟩,λi⟨M,u⟩=>aE (λf=>?_) (λg=>?_)⟩
 .obtain⟨t,c⟩:=eN Q f;refine⟨v,s,t,i,rfl,C,c,λr B=>aB (λy=>bad λe=>?_) (λy=>⟨i+1,⟨aC,u.succ c (B.1 (bj y))⟩,by show s.tables.length-(i+1)<s.tables.length-i;omega,MT⟩)⟩;rw[B.2 (e.2.2.1 i t c)]at y;cases y
 have D:=u.all aC;clear M u g;refine⟨λi=>i<=s.tables.length/\fC (EY s.tables) s.tables i,λi=>s.tables.length-i,⟨0,⟨aC,.zero⟩,MT⟩,λi⟨M,u⟩=>aE (λf=>?_) (λg=>?_)⟩
 .obtain⟨t,c⟩:=eN Q f;refine⟨v,s,t,i,rfl,C,D,c,λr B=>aB (λy=>bad λe=>?_) (λy=>⟨i+1,⟨aC,u.succ c (B.1 (bj y))⟩,by show s.tables.length-(i+1)<s.tables.length-i;omega,MT⟩)⟩;rw[B.2 (e.2.2.2 i t c)]at y;cases y
 have G:=u.all aC;clear M u g;have ok:Mg s:=⟨aC,aC,D,G⟩
 rw[J7 F ok]at out;refine⟨λ⟨i,c⟩=>i<=s.tables.length/\PH.le h c/\∀j<i,∀x∈vU s j,x=0,λ⟨i,_⟩=>s.tables.length-i,⟨(0,h),⟨aC,.refl _,λj R=>by omega⟩,MT⟩,?_⟩;rintro⟨i,c⟩ ⟨M,n,X⟩;dsimp only;refine aE (λf=>?_) (λg=>out c _ n (uF _ λe he=>?_))
 .obtain⟨t,O⟩:=eN Q f;obtain⟨b,o,w,T,B,d⟩:=(C.mono n).tables.at O;have cl:=bN.slen d.checks;have cb:=bN.len d.checks;refine⟨b,o,T,aC,f,w.checks,.imm (bT.part B 4 1),?_⟩;refine⟨λ⟨i',k,cs,S⟩=>i'=i/\cs=w.checks/\k<=t.checks.length/\PH.le c S/\∀x∈(vU s i).take k,x=0,λ⟨_,k,_,_⟩=>t.checks.length-k,⟨(i,0,w.checks,c),⟨rfl,rfl,aC,.refl _,λx c=>by simp at c⟩,MT⟩,?_⟩;rintro⟨i,k,_,S⟩ ⟨rfl,rfl,hk,z,H⟩;dsimp only;have I:PH.le h S:=n.trans z;refine aE (λE=>?_) (λa1=>⟨(i+1,S),⟨aC,I,TY X (k:=k) (by rw[Lw O];omega) H⟩,by show s.tables.length-(i+1)<s.tables.length-i;omega,MT⟩);obtain⟨p,Y⟩:=eN cl E;obtain⟨b2,o2,pv,Z,P,J⟩:=(d.checks.mono z).at Y;refine⟨b2,o2,Z,aC,E,pv,.imm P,v,s,i,rfl,C.mono I,h8,λsl h' A L=>⟨sl,⟨none,0,0⟩,pv,jY s i,[],p,rfl,L,⟨.nil _ _,bg⟩,J.mono A,aB (λh6=>?_) (λh6=>?_)⟩⟩
  .exact out h' _ (I.trans A) (L4 aC X H (Dw O Y) (bj h6))
  .exact⟨(i,k+1,w.checks,h'),⟨rfl,rfl,by show k+1<=t.checks.length;omega,z.trans A,P7 (Dw O Y) H (bj h6)⟩,by show t.checks.length-(k+1)<t.checks.length-k;omega,MT⟩
 .obtain⟨j,R,c⟩:=mem_flatMap.1 he;exact X j (by have:=mem_range.1 R;omega) e c
mutual
def oL:Query->Int->Int
 |.mk _ _ _ _ _ _ _ _ args,n=>kK args (n+1)
def kK:ce->Int->Int
 |[],n=>n
 |p::ps,n=>if n<=24 then kK ps (oL p n)else n
end
mutual
def kM:Query->Nat->Bool
 |.mk _ _ _ _ _ _ _ _ _,0=>true
 |.mk _ _ _ _ _ _ _ _ args,n+1=>oZ args n
def oZ:ce->Nat->Bool
 |[],_=>false
 |p::ps,n=>kM p n||oZ ps n
end
mutual
theorem DF:∀(p:Query)(n:Int),n<=24->n<oL p n/\oL p n<=25
 |.mk _ _ _ _ _ _ _ _ args,n,h=>by
  have:=Ha args (n+1) aC;simp only[oL];omega
theorem Ha:∀(ps:ce)(n:Int),n<=25->n<=kK ps n/\kK ps n<=25
 |[],n,h=>by simp only[kK];omega
 |p::ps,n,h=>by
  simp only[kK];split
  .rename_i c;have d:=DF p n c;have e:=Ha ps (oL p n) d.2;omega
  .omega
end
theorem SX(ps:ce){n:Int}(h:¬n<=24):kK ps n=n:=by
 cases ps
 .simp[kK]
 .simp only[kK,if_neg h]
theorem JA(n:Nat):∀ps:ce,oZ ps n=ps.any (kM · n)
 |[]=>by simp[oZ]
 |p::ps=>by simp[oZ,JA n ps]
theorem dQ.args{p:Query}(r:dQ h p v):xM h v.args p.args:=by
 cases p;exact r.parts.args_
def lP(q:Query):Bool:=decide (oL q 0<=24)&& !kM q 8
def arity(op:Int):Int:=
 if op==1 then 0 else if op==2||op==3||op==9 then 1 else if op==4||op==5||op==6||op==7||op==8||op==10 then 2 else-1
def TN(N:Nat):Vc.Spec:=λc m h K=>∃v p k,c=[aQ v,cI k,cI 24]/\dQ h p v/\SizeOf.sizeOf p<N/\0<=k/\k<=24/\K (cI (oL p k)) m h
def PF(N:Nat):Vc.Spec:=λc m h K=>∃v p,∃k:Nat,c=[aQ v,cI k]/\dQ h p v/\SizeOf.sizeOf p<N/\k<=100/\K (cB (kM p k)) m h
def Z1:Vc.Spec:=λc m h K=>∃v p,c=[aQ v]/\dQ h p v/\K (cB (lP p)) m h
def PL:Vc.Spec:=λc m h K=>∃op,c=[cI op]/\K (cI (arity op)) m h
def EU(l:br)(n:Int):Bool:=decide (0<=n)&&decide (n<l.length)
def InS:Vc.Spec:=λc m h K=>∃s l n,c=[cS s,cI n]/\Ints h s l/\K (cB (EU l n)) m h
noncomputable def bsZ(N:Nat)(v:QV)(m:MH)(h:PH):Ctx:=
 dG [(63,TN N)] [(3,{A:=Nat×Int,st:=λx=>bO 31 34 [(1,iv x.2),(2,iv 24),(3,.at (.ptr 3 0)),(7,iv x.1)] [(3,.cells 35 (v.enc.map .val))] m h})] [] [] false
noncomputable def bsX(N:Nat)(v:QV)(k:Nat)(m:MH)(h:PH):Ctx:=
 dG [(64,PF N)] [(4,{A:=Nat,st:=λi=>bO 23 25 [(1,iv k),(2,.at (.ptr 2 0)),(10,iv v.args.len),(11,iv i)] [(2,.cells 35 (v.enc.map .val))] m h})] [] [] false
noncomputable abbrev C5(a:QV):Option Go.Vc.Own:=uB 35 a.enc
abbrev fL(a:QV):Prop:=eQ (C5 a)
attribute [push_cast] C5 fL
def Vl(N:Nat)(v:QV)(k:Int)(m:MH)(h:PH)(K:bo):Prop:=
  ∃(I:Nat×Int->Prop)(e:Nat×Int->Nat),(∃(x:Nat×Int),aA (I x) (cQ (eT (k+1)) x.2) (aA (mQ 24) iM (aA (bC x.1) (fL v) (aA (m=m) (h=h) True))))/\∀(x:Nat×Int),I x->aZ (↑x.1:Int) (aG v.args) (branch (decide (x.2<=24)) (aK (λb o=>aA (aL v.args.a b o) (0<=(↑x.1:Int)) ((↑x.1:Int)<aG v.args/\∃(y:QV),aJ m h b (bK o x.1 21) y.enc/\oU (λf p=>∃(c:Int),aA (cJ y.enc (aW (fQ x.2) 24)=cJ f.enc (aW (fQ c) 24)) (dQ h p f) (aA (oR p N) (cF c) (c<=24/\∃(d:Nat×Int),aA (I d) (e d<e x) (aA (cQ (oL p c) d.2) (mQ 24) (aA iM (bD (fP (bE x.1 1)) d.1) (aA (fL v) (m=m) (bX h h)))))))))) (K (fQ x.2) m h)) (K (fQ x.2) m h)
def Vk(N:Nat)(v:QV)(k:Nat)(m:MH)(h:PH)(K:bo):Prop:=
  eD (↑k:Int) 0 (K gL m h) (nR (λI x=>aA (I x) (qW k) (aA gI (bG v.args) (aA (bC x) (fL v) (aA (m=m) (h=h) True)))) (λI e x=>I x->aZ (↑x:Int) (aG v.args) (aK (λb o=>aA (aL v.args.a b o) (0<=(↑x:Int)) ((↑x:Int)<aG v.args/\∃(y:QV),aJ m h b (bK o x 21) y.enc/\oU (λf p=>∃(c:Nat),aA (aW (dL y) (eT ((↑k:Int)-1))=aW (dL f) (↑c:Int)) (dQ h p f) (aA (oR p N) (c<=100) (branch (kM p c) (K gL m h) (∃(d:Nat),aA (I d) (e d<e x) (aA (qW k) gI (aA (bG v.args) (bD (fP (bE x 1)) d) (aA (fL v) (m=m) (bX h h))))))))))) (K aX m h)))
def VF(N:Nat)(v:QV)(m:MH)(h:PH)(K:bo):Prop:=
  oU (λe p=>∃(k:Int),aA (cJ v.enc (aW (fQ 0) 24)=cJ e.enc (aW (fQ k) 24)) (dQ h p e) (aA (oR p N) (cF k) (gK (k<=24) (decide (oL p k<=24)) (oU (λf c=>∃(d:Nat),aA (aW (dL v) 8=aW (dL f) (↑d:Int)) (dQ h c f) (aA (oR c N) (d<=100) (K (CV.val (Value.bool (!(kM c d)))) m h)))) (K aX m h))))
def U9(op:Int)(m:MH)(h:PH)(K:bo):Prop:=
  dN (op==1) (K (fQ 0) m h) (op==2) (K (fQ 1) m h) (dN (op==3) (K (fQ 1) m h) (op==9) (K (fQ 1) m h) (dN (op==4) (K (fQ 2) m h) (op==5) (K (fQ 2) m h) (dN (op==6) (K (fQ 2) m h) (op==7) (K (fQ 2) m h) (dN (op==8) (K (fQ 2) m h) (op==10) (K (fQ 2) m h) (K (fQ (Int.negSucc 0)) m h)))))
def RB(s:Sl)(n:Int)(m:MH)(h:PH)(K:bo):Prop:=
  fO n 0 (K (Ah (decide (n<aG s))) m h) (K aX m h)
theorem ZI:∀N,bk 63 (TN N)
 |0=>by
  refine eV (fn:=Tryz.f63) (c:=cC Tryz.f63) func63 rfl bh ?_;rintro y m h K ⟨v,p,k,rfl,D,F,_⟩;omega
 |N+1=>by
  refine iB func63 ?_;rintro y m h K ⟨v,p,k,rfl,D,F,J,L,E⟩;refine⟨bsZ N v m h,rfl,aD (ZI N) aF,Vl N v k m h K,bf,?_⟩;dsimp only[Vl,push_cast];have d:=D.args;have e:=d.slen;have M:=d.len;refine⟨λx=>x.1<=p.args.length/\0<=x.2/\x.2<=25/\kK (p.args.drop x.1) x.2=oL p k,λx=>p.args.length-x.1,⟨(0,k+1),⟨bg,by simp;omega,by simp;omega,?_⟩,?_⟩,?_⟩
  .cases p;simp[oL,Query.args]
  .rw[eG aC aC];exact MT
  rintro⟨i,n⟩ ⟨G,f,z,g⟩;dsimp only at G f z g⊢
  refine aE (λj=>aE (λt=>?_) (λt=>Ap E ?_)) (λH=>Ap E ?_)
  .obtain⟨q,A⟩:=eN e j;obtain⟨b,o,u,I,B,C⟩:=d.at A;have O:=DF q n t;rw[drop_cons A,kK,if_pos t]at g;refine⟨b,o,I,aC,j,u,.imm B,u,q,n,rfl,C,?_,f,t,(i+1,oL q n),⟨by dsimp only;omega,by dsimp only;omega,by dsimp only;omega,g⟩,by dsimp only;omega,MT⟩;have:=By (mem_of_getElem? A);omega
  .rw[<-g,SX _ t]
  .rw[<-g,drop_of_length_le aC];simp[kK]
theorem ZH:∀N,bk 64 (PF N)
 |0=>by
  refine eV (fn:=Tryz.f64) (c:=cC Tryz.f64) func64 rfl bh ?_;rintro y m h K ⟨v,p,k,rfl,D,G,_⟩;omega
 |N+1=>by
  refine iB func64 ?_;rintro y m h K ⟨v,p,k,rfl,D,G,J,j⟩;refine⟨bsX N v k m h,rfl,aD (ZH N) aF,Vk N v k m h K,bf,?_⟩;dsimp only[Vk,push_cast];have d:=D.args;have f:=d.slen;have L:=d.len;refine aB (λn=>iV j ?_) (λn=>?_)
  .have:k=0:=by have:(k:Int)=0:=(bj n);omega
   subst this;cases p;simp[kM]
  .have n:k≠0:=by intro e;subst e;simp at n
   have z:kM p k=p.args.any (kM · (k-1)):=by
    obtain⟨E,rfl⟩:∃E,k=E+1:=⟨k-1,aC⟩
    cases p;simp[kM,JA,Query.args]
   rw[z]at j;refine⟨λi=>i<=p.args.length/\(p.args.take i).any (kM · (k-1))=false,λi=>p.args.length-i,⟨0,⟨aC,bg⟩,MT⟩,λi F=>aE (λg=>?_) (λH=>iV j ?_)⟩
   .obtain⟨q,t⟩:=eN f g;obtain⟨b,o,u,I,A,B⟩:=d.at t;refine⟨b,o,I,aC,g,u,.imm A,u,q,k-1,?_,B,?_,aC,aB (λC=>iV j ?_) (λC=>?_)⟩
    .rw[eG aC aC,show((k-1:Nat):Int)=(k:Int)-1 by omega]
    .have:=By (mem_of_getElem? t);omega
    .rw[any_eq_true];exact⟨q,mem_of_getElem? t,C⟩
    .refine⟨i+1,⟨aC,?_⟩,by show p.args.length-(i+1)<p.args.length-i;omega,MT⟩;rw[take_add_one,any_append,F.2,t];simpa using C
   .have:=F.2
    rwa [take_of_length_le aC]at this
theorem auX:bk 21 Z1:=by
 refine iB func21 ?_;rintro f m h K ⟨v,p,rfl,d,e⟩;refine⟨dG [(63,TN (SizeOf.sizeOf p+1)),(64,PF (SizeOf.sizeOf p+1))] [] [] [] false,rfl,aD (ZI _) (aD (ZH _) aF),VF (SizeOf.sizeOf p+1) v m h K,bf,?_⟩;dsimp only[VF,push_cast];refine⟨v,p,0,rfl,d,aC,aC,aC,aB (λc=>⟨v,p,8,rfl,d,aC,aC,iV e ?_⟩) (λc=>iV e ?_)⟩
 .simp only[lP,c,Bool.true_and]
 .simp only[lP,c,Bool.false_and]
theorem QK:bk 94 PL:=by
 refine iB func94 ?_;rintro d m h K ⟨op,rfl,c⟩;refine⟨dG [] [] [] [] false,rfl,aF,U9 op m h K,bf,?_⟩;dsimp only[U9,push_cast]
 repeat' (first|(refine aB (λ_=>?_) (λ_=>?_))|(refine Ap c ?_;simp only[arity];simp only[*,Bool.or_false,Bool.false_or,Bool.or_true,Bool.true_or,Bool.and_true,Bool.true_and,Bool.and_false,Bool.false_and,Bool.not_true,Bool.not_false,Bool.false_eq_true,if_true,if_false, ↓reduceIte];done)|(refine Ap c ?_;simp only[arity];simp only[*,Bool.or_false,Bool.false_or,Bool.or_true,Bool.true_or,Bool.and_true,Bool.true_and,Bool.and_false,Bool.false_and,Bool.not_true,Bool.not_false,Bool.false_eq_true,if_true,if_false, ↓reduceIte];rfl))
theorem HH:bk 149 InS:=by
 refine iB func149 ?_;rintro e m h K ⟨s,l,n,rfl,f,d⟩;refine⟨dG [] [] [] [] false,rfl,aF,RB s n m h K,bf,?_⟩;dsimp only[RB,push_cast];have g:=f.slen;refine aE (λc=>iV d ?_) (λc=>iV d ?_)
 .have c:0<=n:=c;simp only[EU,g,decide_eq_true c,Bool.true_and]
 .have c:¬0<=n:=by omega
  simp only[EU,decide_eq_false c,Bool.false_and]
def tM(a b:br)(c:bx)(p:Int×Int):Prop:=EU a p.1=true/\EU b p.2=true/\a.getD p.1.toNat 0=b.getD p.2.toNat 0/\∀q∈c,q.1≠p.1/\q.2≠p.2
def FU(a:br)(d:br)(c:Int):Prop:=EU a c=true/\c∉d
def HQ(a:br)(_:bz)(o:Int×Bool):Prop:=EU a o.1=true
structure qI(a:br)(group:br)(order:bz)(limit:Int):Prop where
 group_:Good (FU a) group
 order_:Good (HQ a) order
 len_:order.length<=12
 low:0<=limit
 high:limit<=100
def aaQ:Vc.Spec:=λc m h K=>∃s t u on a b,c=[cS s,cS t,cS u]/\jK h s on/\Ints h t a/\Ints h u b/\∀r:Bool,(r=true↔Good (tM a b) on)->K (cB r) m h
def Z8:Vc.Spec:=λc m h K=>∃v t g o a,c=[aQ v,cS t]/\Ints h v.group g/\gZ h v.order o/\Ints h t a/\∀r:Bool,(r=true↔qI a g o v.limit)->K (cB r) m h
noncomputable def aXJ(s t u:Sl)(m:MH)(h:PH):Ctx:=
 dG [(149,InS)] [(2,{A:=Nat,st:=λi=>bO 66 69 [(0,sv s),(1,sv t),(2,sv u),(10,sv s),(11,iv s.len),(12,iv i)] [] m h}),
  (7,{A:=Nat×Nat×(Int×Int),st:=λ⟨i,k,p⟩=>bO 66 69 [(0,sv s),(1,sv t),(2,sv u),(7,iv i),(8,.at (.ptr 8 0)),(9,iv k),(10,sv s),(11,iv s.len),(12,iv i)] [(8,.cells 91 [.val (.int .i64 p.1),.val (.int .i64 p.2)])] m h})] [] [] false
noncomputable def aXZ(v:QV)(t:Sl)(m:MH)(h:PH):Ctx:=
 dG [(149,InS)] [(2,{A:=Nat,st:=λi=>bO 62 64 [(1,sv t),(2,.at (.ptr 2 0)),(11,sv v.group),(12,iv v.group.len),(13,iv i)] [(2,.cells 35 (v.enc.map .val))] m h}),
  (7,{A:=Nat×Nat×Int,st:=λ⟨i,k,c⟩=>bO 62 64 [(1,sv t),(2,.at (.ptr 2 0)),(5,iv i),(6,iv c),(7,iv k),(11,sv v.group),(12,iv v.group.len),(13,iv i)] [(2,.cells 35 (v.enc.map .val))] m h}),
  (13,{A:=Nat,st:=λi=>bO 62 64 [(1,sv t),(2,.at (.ptr 2 0)),(36,sv v.order),(37,iv v.order.len),(38,iv i)] [(2,.cells 35 (v.enc.map .val))] m h})] [] [] false
noncomputable abbrev gQ(a:Sl)(b:Int):cq:=aW (rC a) b
abbrev Gc(a:Sl)(b:Int)(c:Nat->Nat->Option Value)(d:br->Int->Prop):Prop:=Ar (λx e=>∃(f:Int),aA (gQ a b=gQ x f) (Ints c x e) (d e f))
abbrev hU:Prop:=eP 8
abbrev D0(a b:cr):Prop:=oQ 91 a=oQ 91 b
noncomputable abbrev uO(a:Int×Int):cr:=lX (jI a.1) (jI a.2)
attribute [push_cast] gQ Gc hU D0 uO
def RA(s t u:Sl)(m:MH)(h:PH)(K:bo):Prop:=
  nR (λI x=>aA (I x) (aH s) (aA (aH t) (aH u) (aA (aH s) (bG s) (aA (bC x) (m=m) (bX h h))))) (λI e x=>I x->aZ (↑x:Int) (aG s) (aK (λb o=>aA (aL s.a b o) (0<=(↑x:Int)) ((↑x:Int)<aG s/\∃(y:Int×Int),aA (aJ m h b (bK o x 2) (uS y)) ((0:Int)<=0) ((0:Int)<2/\Gc t y.1 h (λl n=>mA (EU l n) (K aX m h) (aA (cF 1) ((1:Int)<2) (Gc u y.2 h (λL M=>mA (EU L M) (K aX m h) (aA (cF 0) ((0:Int)<2) (aK (λf g=>aA (aL t.a f g) (0<=y.1) (y.1<aG t/\∃(j:Int),aA (aJ m h f (fX g y.1 1) (bL j)) ((0:Int)<=1) ((1:Int)<2/\aK (λz A=>aA (aL u.a z A) (0<=y.2) (y.2<aG u/\∃(B:Int),aJ m h z (fX A y.2 1) (bL B)/\cO j B (K aX m h) (∃(I1:Nat×Nat
 ×Int×Int->Prop)(C:Nat×Nat×Int×Int->Nat),(∃(c:Nat×Nat×Int×Int),aA (I1 c) (aH s) (aA (aH t) (aH u) (aA (cG x c.1) hU (aA (bC c.2.1) (aH s) (aA (bG s) (cG x c.1) (aA (D0 (uO y) (uO c.2.2)) (m=m) (bX h h)))))))/\∀(c:Nat×Nat×Int×Int),I1 c->aZ (↑c.2.1:Int) (↑c.1:Int) (aK (λD E=>aA (aL s.a D E) (cF (↑c.2.1:Int)) (aA ((↑c.2.1:Int)<aG s) (cF 0) ((0:Int)<2/\∃(F:Int),aA (aJ m h D (bK E c.2.1 2+0) (bL F)) ((0:Int)<=0) ((0:Int)<2/\eD F c.2.2.1 (K aX m h) (aK (λG H=>aA (aL s.a G H) (cF (↑c.2.1:Int)) (aA ((↑c.2.1:Int)<aG s) (cF 1) ((1:Int)<2/\∃(J:Int),aA (aJ m h G (bK H c.2.1 2+1) (bL J)) ((0:Int)<=1) ((1:Int)<2/\eD J
 c.2.2.2 (K aX m h) (∃(d:Nat×Nat×Int×Int),aA (I1 d) (C d<C c) (aA (aH s) (aH t) (aA (aH u) (cG c.1 d.1) (aA hU (bD (fP (bE c.2.1 1)) d.2.1) (aA (aH s) (bG s) (aA (cG c.1 d.1) (D0 (uO c.2.2) (uO d.2.2)) (dW m m h h))))))))))))))))) (∃(d:Nat),aA (I d) (e d<e x) (aA (aH s) (aH t) (aA (aH u) (aH s) (aA (bG s) (bD (fP (bE c.1 1)) d) (dW m m h h))))))))))))))))))))) (K gL m h))
def Rz(v:QV)(t:Sl)(m:MH)(h:PH)(K:bo):Prop:=
  nR (λI x=>aA (I x) (aH t) (aA (eP 2) (aH v.group) (aA (bG v.group) (bC x) (aA (fL v) (m=m) (bX h h))))) (λI f x=>I x->aZ (↑x:Int) (aG v.group) (aK (λb o=>aA (aL v.group.a b o) (0<=(↑x:Int)) ((↑x:Int)<aG v.group/\∃(y:Int),aJ m h b (bK o x 1) (bL y)/\Gc t y h (λl n=>mA (EU l n) (K aX m h) (∃(I1:Nat×Nat×Int->Prop)(e:Nat×Nat×Int->Nat),(∃(c:Nat×Nat×Int),aA (I1 c) (aH t) (aA (eP 2) (cG x c.1) (aA (cQ y c.2.2) (bC c.2.1) (aA (aH v.group) (bG v.group) (aA (cG x c.1) (fL v) (aA (m=m) (h=h) True))))))/\∀(c:Nat×Nat×Int),I1 c->aZ (↑c.2.1:Int) (↑c.1:Int) (aK (λg j=>aA (aL v.group.a g j) (0<=(↑c.2.1:Int)) ((↑c.2.1:Int)<aG v.group/\∃(u:Int),aJ m h g
 (bK j c.2.1 1) (bL u)/\eD u c.2.2 (K aX m h) (∃(d:Nat×Nat×Int),aA (I1 d) (e d<e c) (aA (aH t) gI (aA (cG c.1 d.1) (cQ c.2.2 d.2.2) (aA (bD (fP (bE c.2.1 1)) d.2.1) (aH v.group) (aA (bG v.group) (cG c.1 d.1) (aA (fL v) (m=m) (bX h h)))))))))) (∃(d:Nat),aA (I d) (f d<f x) (aA (aH t) gI (aA (aH v.group) (bG v.group) (aA (bD (fP (bE c.1 1)) d) (fL v) (dW m m h h)))))))))) (nR (λI1 c=>aA (I1 c) (aH t) (aA (eP 2) (aH v.order) (aA (bG v.order) (bC c) (aA (fL v) (m=m) (bX h h))))) (λI1 e c=>I1 c->aZ (↑c:Int) (aG v.order) (aK (λb o=>aA (aL v.order.a b o) (0<=(↑c:Int)) ((↑c:Int)<aG v.order/\∃(y:Int×Bool),aJ m h b (bK o c 2) (zR y)/\Gc t y.1
 h (λl n=>mA (EU l n) (K aX m h) (∃(d:Nat),aA (I1 d) (e d<e c) (aA (aH t) gI (aA (aH v.order) (bG v.order) (aA (bD (fP (bE c 1)) d) (fL v) (dW m m h h))))))))) (branch (decide (aG v.order<=12)) (fO v.limit 0 (K (Ah (decide (v.limit<=100))) m h) (K aX m h)) (K aX m h)))))
theorem Of{α:Type}{l:List α}{x:α}(hx:l[i]? =some x)(c:i<k):x∈l.take k:=mem_of_getElem? (i:=i) (by rw[getElem?_take,if_pos c,hx])
theorem T9{α:Type}{l:List α}{x y:α}(hx:l[i]? =some x)(c:y∈l.take (i+1)):y∈l.take i\/y=x:=by
 rw[take_add_one,hx,mem_append]at c;rcases c with h|h
 .exact .inl h
 .simp at h;exact .inr h
theorem eX{n:Int}:EU l n=true↔0<=n/\n<l.length:=by simp[EU]
theorem Yf:bk 150 aaQ:=by
 refine iB func150 ?_;rintro U m h K ⟨s,t,u,on,a,b,rfl,o,B,C,H⟩;refine⟨aXJ s t u m h,rfl,aD HH aF,RA s t u m h K,bf,?_⟩;dsimp only[RA,push_cast];have V:=o.slen;have I:=o.len;have ta:=B.slen;have ub:=C.slen;refine⟨λi=>i<=on.length/\fC (tM a b) on i,λi=>on.length-i,⟨0,⟨aC,.zero⟩,MT⟩,λi⟨hi,J⟩=>aE (λf=>?_) (λW=>H true ⟨λ_=>J.all aC,λ_=>rfl⟩)⟩;obtain⟨p,D⟩:=eN V f;obtain⟨X,Y,Z,r1⟩:=o.at D;have bad:¬tM a b (on.take i) p->K (.val (.bool false)) m h:=λhn=>H false ⟨λe=>(by cases e),λe=>(Good.not D hn e).elim⟩;refine⟨X,Y,Z,aC,f,p,.imm r1,aC,aC,t,a,p.1,rfl,B,aB (λy=>bad λc=>?_) (λy=>⟨aC,aC,u,b,p.2,rfl,C,aB (λz=>bad λc=>?_) (λz=>?_)⟩)⟩
 .rw[c.1]at y;cases y
 .rw[c.2.1]at z;cases z
 have L:EU a p.1=true:=bj y
 have M:EU b p.2=true:=bj z
 have g:=eX.1 L;have j:=eX.1 M;obtain⟨b2,o2,e2,r2⟩:=B.inb g.1 g.2;obtain⟨b3,o3,e3,r3⟩:=C.inb j.1 j.2;refine⟨aC,aC,b2,o2,e2,aC,aC,_,.imm r2,aC,aC,b3,o3,e3,aC,aC,_,.imm r3,aB (λA=>bad λc=>?_) (λA=>?_)⟩
 .rw[c.2.2.1]at A;simp at A
 refine⟨λ⟨i',k,p'⟩=>i'=i/\p'=p/\k<=i/\∀q∈on.take k,q.1≠p.1/\q.2≠p.2,λ⟨_,k,_⟩=>i-k,⟨(i,0,p),⟨rfl,rfl,aC,λq d=>by simp at d⟩,MT⟩,?_⟩;rintro⟨i,k,p⟩ ⟨rfl,rfl,hk,n⟩;dsimp only;refine aE (λO=>?_) (λP=>?_)
 .obtain⟨q,d⟩:∃q,on[k]? =some q:=⟨on[k]'(by omega),getElem?_eq_getElem _⟩
  obtain⟨Q,R,S,T⟩:=o.at d;refine⟨Q,R,S,aC,aC,aC,aC,q.1,.imm (bT.part T 0 1),aC,aC,aB (λE=>bad λc=>?_) (λE=>⟨Q,R,S,aC,aC,aC,aC,q.2,.imm (bT.part T 1 1),aC,aC,aB (λF=>bad λc=>?_) (λF=>?_)⟩)⟩
  .exact(c.2.2.2 q (Of d aC)).1 (bj E)
  .exact(c.2.2.2 q (Of d aC)).2 (bj F)
  .refine⟨(i,k+1,p),⟨rfl,rfl,by show k+1<=i;omega,λq' G=>?_⟩,by show i-(k+1)<i-k;omega,MT⟩;rcases T9 d G with e|rfl
   .exact n q' e
   .exact⟨bj E,bj F⟩
 .have:k=i:=by omega
  subst this;exact⟨k+1,⟨aC,J.succ D ⟨L,M,bj A,n⟩⟩,by show on.length-(k+1)<on.length-k;omega,MT⟩
theorem Ye:bk 151 Z8:=by
 refine iB func151 ?_;rintro V m h K ⟨v,t,g,o,a,rfl,C,D,M,O⟩;refine⟨aXZ v t m h,rfl,aD HH aF,Rz v t m h K,bf,?_⟩;dsimp only[Rz,push_cast];have W:=C.slen;have P:=C.len;have X:=D.slen;have Q:=D.len;have bad:¬qI a g o v.limit->K (.val (.bool false)) m h:=λY=>O false ⟨λe=>(by cases e),λe=>(Y e).elim⟩;refine⟨λi=>i<=g.length/\fC (FU a) g i,λi=>g.length-i,⟨0,⟨aC,.zero⟩,MT⟩,λi⟨R,u⟩=>aE (λd=>?_) (λy=>?_)⟩
 .obtain⟨c,n⟩:=eN W d;obtain⟨E,F,G,H⟩:=C.at' n;refine⟨E,F,G,aC,d,c,.imm H,t,a,c,rfl,M,aB (λf=>bad λj=>Good.not n (λz=>?_) j.group_) (λf=>?_)⟩
  .rw[z.1]at f;cases f
  refine⟨λ⟨Z,k,c'⟩=>Z=i/\c'=c/\k<=i/\c∉g.take k,λ⟨_,k,_⟩=>i-k,⟨(i,0,c),⟨rfl,rfl,aC,bg⟩,MT⟩,?_⟩;rintro⟨i,k,c⟩ ⟨rfl,rfl,hk,A⟩;dsimp only;refine aE (λS=>?_) (λT=>?_)
  .obtain⟨q,I⟩:∃q,g[k]? =some q:=⟨g[k]'(by omega),getElem?_eq_getElem _⟩
   obtain⟨b4,o4,e4,r4⟩:=C.at' I;refine⟨b4,o4,e4,aC,aC,q,.imm r4,aB (λJ=>bad λj=>Good.not n (λz=>?_) j.group_) (λJ=>?_)⟩
   .refine z.2 ?_;have:q=c:=bj J
    rw[<-this];exact Of I aC
   .refine⟨(i,k+1,c),⟨rfl,rfl,by show k+1<=i;omega,λL=>?_⟩,by show i-(k+1)<i-k;omega,MT⟩;rcases T9 I L with e|rfl
    .exact A e
    .simp at J
  .have:k=i:=by omega
   subst this;exact⟨k+1,⟨aC,u.succ n ⟨bj f,A⟩⟩,by show g.length-(k+1)<g.length-k;omega,MT⟩
 have gg:=u.all aC;clear R u y;refine⟨λi=>i<=o.length/\fC (HQ a) o i,λi=>o.length-i,⟨0,⟨aC,.zero⟩,MT⟩,λi⟨R,B⟩=>aE (λd=>?_) (λy=>?_)⟩
 .obtain⟨c,n⟩:=eN X d;obtain⟨E,F,G,H⟩:=D.at n;refine⟨E,F,G,aC,d,c,.imm H,t,a,c.1,rfl,M,aB (λf=>bad λj=>Good.not n (λz=>?_) j.order_) (λf=>⟨i+1,⟨aC,B.succ n (by simpa[HQ]using f)⟩,by show o.length-(i+1)<o.length-i;omega,MT⟩)⟩;rw[show EU a c.1=true from z]at f;cases f
 have oo:=B.all aC;refine aE (λf=>aE (λU=>?_) (λU=>bad λj=>?_)) (λf=>bad λj=>?_)
 .refine O (decide (v.limit<=100)) ⟨λe=>⟨gg,oo,aC,U,bj e⟩,λe=>decide_eq_true e.high⟩
 .have:=j.low;omega
 .have:=j.len_;omega
def gS:Pred:=.mk 0 0 dR dR []
def dM:Query->Prop
 |.mk op ta w co on gr od li _=>(op=1\/ta=0)/\(op=2\/w=gS)/\(op=3\/co=[])/\(op=4\/op=5\/on=[])/\(op=9\/op=10\/(gr=[]/\od=[]/\li=0))
def mG(l:br):br×Int:=if l.length<=12 then(l,0)else([],2)
def eY(e:Int):br×Int:=([],e)
open Classical in
noncomputable def fH(s:mI)(ps:br)(q:Query)(a b:br):br×Int:=
 if arity (match q with|.mk op .. =>op)<0\/¬dM q then eY 100 else
 match q with
 |.mk op ta w co on gr od li _=>
  if op=1 then(if 0<=ta/\ta<s.tables.length then mG (jY s ta)else eY 100)
  else if op=2 then(if fI a ps w=0 then mG a else eY (fI a ps w))
  else if op=3 then(if co≠[]/\Good (λ_ c=>EU a c=true) co then mG (co.map λc=>a.getD c.toNat 0)else eY 100)
  else if op=4 then(if Good (tM a b) on then mG (a++b)else eY 100)
  else if op=5 then(if Good (tM a b) on then mG a else eY 100)
  else if op=9 then(if qI a gr od li then mG a else eY 100)
  else if op=10 then(if a=b/\qI a gr od li then mG a else eY 100)
  else(if a=b then mG a else eY 100)
def ZY:Vc.Spec:=λc m h K=>∃v q,c=[aQ v]/\dQ h q v/\∀r:Bool,(r=true↔dM q)->K (cB r) m h
def KR(K:bo)(m:MH)(h:PH)(r:br×Int):Prop:=∀c h',PH.le h h'->Ints h' c r.1->K (.tup [cS c,cI r.2]) m h'
def bHQ:Vc.Spec:=λc m h K=>∃sc p v a b s ps q d e,c=[aS sc,cS p,aQ v,cS a,cS b]/\gO h s sc/\nK s/\Ints h p ps/\dQ h q v/\Ints h a d/\Ints h b e/\d.length<=12/\e.length<=12/\KR K m h (fH s ps q d e)
noncomputable def boQ(m:MH):Ctx:=
 dG [(94,PL),(148,ZY),(59,xO),(57,sJ),(149,InS),(150,aaQ),(151,Z8),(42,BR)] [(20,{A:=Nat×Sl×Sl×br×PH,st:=λ⟨i,a,co,l,h⟩=>bO 121 126 [(3,sv a),(12,.at (.lst 94)),(78,sv co),(79,iv co.len),(80,iv i)] [(94,.lst 3 1 (l.map eI))] m h})] [] [] false
noncomputable def aYQ(v:QV)(m:MH)(h:PH):Ctx:=
 b1X [(43,bDZ)] [] [(2,{A:=Bool,st:=λr=>bO 78 79 [(1,.at (.ptr 1 0)),(3,bv r)] [(1,.cells 35 (v.enc.map .val))] m h})] [(2,[(9,{A:=Bool×Bool,st:=λx=>bO 78 79 [(1,.at (.ptr 1 0)),(3,bv x.1),(20,bv x.2)] [(1,.cells 35 (v.enc.map .val))] m h}),
  (11,{A:=Bool×Bool,st:=λx=>bO 78 79 [(1,.at (.ptr 1 0)),(3,bv x.1),(31,bv x.2)] [(1,.cells 35 (v.enc.map .val))] m h}),
  (11,{A:=Bool×Bool,st:=λx=>bO 78 79 [(1,.at (.ptr 1 0)),(3,bv x.1),(42,bv x.2)] [(1,.cells 35 (v.enc.map .val))] m h}),
  (16,{A:=Bool×Bool,st:=λx=>bO 78 79 [(1,.at (.ptr 1 0)),(3,bv x.1),(58,bv x.2)] [(1,.cells 35 (v.enc.map .val))] m h})])] [] false
abbrev iT(a b:Bool):Prop:=sQb a=sQb b
abbrev wC(a:Bool):Prop:=iT true a
abbrev IN(a:Prop)(b:(Bool×Bool->Prop)->Prop)(c:(Bool×Bool->Prop)->(Bool×Bool)->Prop):Prop:=a->∃(x:Bool×Bool->Prop),b x/\∀(d:Bool×Bool),c x d
noncomputable abbrev gA:bm:=jD rV
abbrev Gb(a:Bool×Bool->Prop)(b:Bool×Bool)(c:(Bool×Bool)->Prop)(d:QV)(e:MH)(g:PH):Prop:=∃(x:Bool×Bool),aA (a x) dX (aA (iT b.1 x.1) (c x) (dK (fL d) e e g g))
abbrev BC(a:Bool):Prop:=iT false a
attribute [push_cast] iT wC IN gA Gb BC
def RC(v:QV)(m:MH)(h:PH)(K:bo):Prop:=
  ∃(I:Bool->Prop),eD v.op 9 (∃(x:Bool),aA (I x) dX (aA (wC x) (fL v) (dW m m h h))) (∃(x:Bool),aA (I x) dX (aA (iT (v.op==10) x) (fL v) (dW m m h h)))/\∀(x:Bool),IN (I x) (λI1=>eD v.op 1 (∃(e:Bool×Bool),aA (I1 e) dX (aA (iT x e.1) (wC e.2) (dK (fL v) m m h h))) (∃(e:Bool×Bool),aA (I1 e) dX (aA (iT x e.1) (iT (v.table==0) e.2) (dK (fL v) m m h h)))) (λI1 e=>IN (I1 e) (λI2=>branch e.2 (eD v.op 2 (∃(d:Bool×Bool),aA (I2 d) dX (aA (iT e.1 d.1) (wC d.2) (dK (fL v) m m h h))) (IM (λg w p q=>u9 (jT v.where_.enc (bA bJ bJ (bA bJ bJ (bA bJ bJ (bA PN bJ (bA bJ bJ (bA bJ PN gA))))))) (jT g.enc w.enc) (eW h p g) (eW h q w)
 (λr=>(fS r↔p=q)->Gb I2 e (λd=>iT r d.2) v m h)))) (∃(d:Bool×Bool),aA (I2 d) dX (aA (iT e.1 d.1) (BC d.2) (dK (fL v) m m h h)))) (λI2 d=>IN (I2 d) (λI3=>branch d.2 (eD v.op 3 (∃(c:Bool×Bool),aA (I3 c) dX (aA (iT d.1 c.1) (wC c.2) (dK (fL v) m m h h))) (Gb I3 d (λc=>iT (aG v.columns==0) c.2) v m h)) (∃(c:Bool×Bool),aA (I3 c) dX (aA (iT d.1 c.1) (BC c.2) (dK (fL v) m m h h)))) (λI3 c=>IN (I3 c) (λI4=>branch c.2 (dN (v.op==4) (Gb I4 c (λf=>wC f.2) v m h) (v.op==5) (Gb I4 c (λf=>wC f.2) v m h) (Gb I4 c (λf=>iT (aG v.on==0) f.2) v m h)) (∃(f:Bool×Bool),aA (I4 f) dX (aA (iT c.1 f.1) (BC f.2) (dK (fL v) m
 m h h)))) (λI4 f=>fA (I4 f) f.2 (dN f.1 (K gL m h) (aG v.group==0) (eD (aG v.order) 0 (K (Ah (v.limit==0)) m h) (K aX m h)) (K aX m h)) (K aX m h)))))
abbrev yX(a:Int)(b:Int->Prop):Prop:=∃(x:Int),nT a=nT x/\b x
noncomputable abbrev dJ(a:Sl):Sl:=Sl.mk a.a a.len a.cap
noncomputable abbrev lU(a:List bm):Int:=(↑a.length:Int)
abbrev sR(a:Nat->Nat->Option Value)(b:List bm)(c:bo)(d:Nat->Option Obj):Prop:=bZ a 1 b (λx e=>c (CV.tup (aW (rC x) 0)) d e)
noncomputable abbrev zB(a:Nat×Sl×Sl×br×PH):Sl:=a.2.2.1
noncomputable abbrev Cr(a:Nat×Sl×Sl×br×PH):List bm:=oW a.2.2.2.1
noncomputable abbrev zC(a:Nat×Sl×Sl×br×PH):Nat->Nat->Option Value:=a.2.2.2.2
abbrev HD(a:Sl->bx->Prop):Prop:=∃(x:Sl)(c:bx),a x c
abbrev rY(a b:List bm)(c:Nat):Prop:=iY (jA a b.length) c
abbrev rZ(a b:List bm):Prop:=lN (jA a b.length)
abbrev Ob(a:Sl->br->bz->Prop):Prop:=Ar (λx c=>∃(d:bz),a x c d)
noncomputable abbrev lG(a:QV)(b:Sl):cq:=gJ (dL a) (rC b)
attribute [push_cast] yX dJ lU sR zB Cr zC HD rY rZ Ob lG
def Ox(sc:bY)(p:Sl)(v:QV)(a b:Sl)(m:MH)(h:PH)(K:bo):Prop:=
  yX v.op (λo=>aZ (arity o) 0 (K (CV.tup (aW jG 100)) m h) (oU (λC q=>aA (tT (dL v)=tT (dL C)) (dQ h q C) (∀(r:Bool),fA (fS r↔dM q) (!r) (K (CV.tup (aW jG 100)) m h) (∃(y:List bm),aA (eR 1 y) (cZ h (dJ a) 1 y) (aA (iY y.length 8) (lN y.length) (dN (v.op==1) (aZ v.table 0 (K (CV.tup (aW jG 100)) m h) (fO v.table (iX sc) (K (CV.tup (aW jG 100)) m h) (Cn (aW (jR (bR sc)) v.table) h (λs D=>dZ (aG s) 12 (K (CV.tup (aW jG 2)) m D) (K (CV.tup (aW (rC s) 0)) m D))))) (v.op==2) (IH (cN a (eJ p (jR v.where_.enc))) h (λc E F=>mR (fI c E F !=0) (K (CV.tup (aW jG (fI c E F))) m h) (lU y) 12 (K (CV.tup (aW jG 2)) m h) (sR h y K m))) (dN (v.op==3) (eD (aG v.columns) 0 (K
 (CV.tup (aW jG 100)) m h) (∃(I:Nat×Sl×Sl×br×PH->Prop)(G:Nat×Sl×Sl×br×PH->Nat),(∃(x:Nat×Sl×Sl×br×PH),aA (I x) (bB a x.2.1) (aA (eL 94) (bB v.columns (zB x)) (aA (bQ v.columns (zB x)) (bC x.1) (aA (wE (Cr x)) (m=m) (bX h (zC x))))))/\∀(x:Nat×Sl×Sl×br×PH),I x->aZ (↑x.1:Int) (aG (zB x)) (aK (λj e=>aA (aL (zB x).a j e) (0<=(↑x.1:Int)) ((↑x.1:Int)<aG (zB x)/\∃(d:Int),aJ m (zC x) j (bK e x.1 1) (bL d)/\Gc x.2.1 d (zC x) (λl n=>mA (EU l n) (K (CV.tup (aW jG 100)) m (zC x)) (aK (λH J=>aA (aL x.2.1.a H J) (0<=d) (d<aG x.2.1/\∃(L:Int),aA (aJ m (zC x) H (fX J d 1) (bL L)) (Cf (Cr x)) (dO (Cr
 x)/\∃(B:Nat×Sl×Sl×br×PH),aA (I B) (G B<G x) (aA (bB x.2.1 B.2.1) (eL 94) (aA (bB (zB x) (zB B)) (bQ (zB x) (zB B)) (aA (bD (fP (bE x.1 1)) B.1) (wF (Cr x) L (Cr B)) (dW m m (zC x) (zC B))))))))))))) (dZ (lU (Cr x)) 12 (K (CV.tup (aW jG 2)) m (zC x)) (sR (zC x) (Cr x) K m)))) (v.op==4) (mS (λs t=>HD (λu e=>DO (λz j=>aA (cN v.on (cA a b)=cN s (cA t u)) (jK h s e) (aA (Ints h t z) (Ints h u j) (∀(f:Bool),(fS f↔Good (tM z j) e)->dN (!f) (K (CV.tup (aW jG 100)) m h) (v.op==4) (∃(d:List bm),aA (eR 1 d) (cZ h (dJ b) 1 d) (aA (rY y d 8) (rZ y d) (dZ (lU (y++d)) 12 (K (CV.tup (aW jG 2)) m h) (sR h (y++
 d) K m)))) (dZ (lU y) 12 (K (CV.tup (aW jG 2)) m h) (sR h y K m)))))))) (dN (v.op==5) (mS (λs t=>HD (λu e=>DO (λz j=>aA (cN v.on (cA a b)=cN s (cA t u)) (jK h s e) (aA (Ints h t z) (Ints h u j) (∀(f:Bool),(fS f↔Good (tM z j) e)->dN (!f) (K (CV.tup (aW jG 100)) m h) (v.op==4) (∃(d:List bm),aA (eR 1 d) (cZ h (dJ b) 1 d) (aA (rY y d 8) (rZ y d) (dZ (lU (y++d)) 12 (K (CV.tup (aW jG 2)) m h) (sR h (y++d) K m)))) (dZ (lU y) 12 (K (CV.tup (aW jG 2)) m h) (sR h y K m)))))))) (v.op==9) (∃(A:QV),Ob (λt g e=>∃(z:br),aA (lG v a=lG A t) (Ints h A.group g) (aA (gZ h A.order e) (Ints h t z) (∀(f:Bool),(fS f↔qI z g e A.limit)->mR (!f) (K
 (CV.tup (aW jG 100)) m h) (lU y) 12 (K (CV.tup (aW jG 2)) m h) (sR h y K m))))) (Ck a b h (λz j f=>(fS f↔z=j)->dN (!f) (K (CV.tup (aW jG 100)) m h) (v.op==10) (∃(A:QV),Ob (λt g e=>∃(M:br),aA (lG v a=lG A t) (Ints h A.group g) (aA (gZ h A.order e) (Ints h t M) (∀(O:Bool),(fS O↔qI M g e A.limit)->mR (!O) (K (CV.tup (aW jG 100)) m h) (lU y) 12 (K (CV.tup (aW jG 2)) m h) (sR h y K m))))) (dZ (lU y) 12 (K (CV.tup (aW jG 2)) m h) (sR h y K m)))))))))))))
theorem BI{α:Type}{n:Nat}{l:List α}(h:n=l.length):((n:Int)==0)=true↔l=[]:=by
 rw[beq_iff_eq,h, <-length_eq_zero_iff];omega
theorem Dz(h:PH):eW h gS ⟨0,0,dR,dR,⟨none,0,0⟩⟩:=eW.mk (v:=⟨0,0,dR,dR,⟨none,0,0⟩⟩) (.nil _ _ _ _)
theorem Yg:bk 148 ZY:=by
 refine iB func148 ?_;rintro F m h K ⟨v,q,rfl,G,t⟩;refine⟨aYQ v m h,rfl,aD aqX aF,RC v m h K,bf,?_⟩;dsimp only[RC,push_cast];obtain⟨op,ta,w,co,on,gr,od,li,args⟩:=q;have a:=G.parts;have H:=a.op_;have I:=a.table_;have J:=a.limit_;have L:=BI a.columns_.slen;have M:=BI a.on_.slen;have D:=BI a.group_.slen;have E:=BI a.order_.slen;simp only[dM]at t;subst H I J;refine⟨λr=>(r=true↔v.op=9\/v.op=10),aB (λd=>⟨true,by simp at d;simp[d],MT⟩) (λd=>⟨_,?_,MT⟩),λr n=>?_⟩
 .simp only[beq_eq_false_iff_ne]at d;simp[d]
 refine⟨λx=>x.1=r/\(x.2=true↔(v.op=1\/v.table=0)),aB (λd=>⟨(r,true),⟨rfl,by simp at d;simp[d]⟩,MT⟩) (λd=>⟨(r,_),⟨rfl,?_⟩,MT⟩),?_⟩
 .simp only[beq_eq_false_iff_ne]at d;simp[d]
 rintro⟨r,c⟩ ⟨rfl,f⟩;dsimp only at f n⊢
 refine⟨λx=>x.1=r/\(x.2=true↔(v.op=1\/v.table=0)/\(v.op=2\/w=gS)),aB (λd=>aB (λg=>⟨(r,true),⟨rfl,⟨λ_=>⟨f.1 d,.inl (bj g)⟩,λ_=>rfl⟩⟩,MT⟩) (λg=>⟨v.where_,⟨0,0,dR,dR,⟨none,0,0⟩⟩,w,gS,rfl,a.where_,Dz h,λO y=>⟨(r,O),⟨rfl,?_⟩,MT⟩⟩)) (λd=>⟨(r,false),⟨rfl,?_⟩,MT⟩),?_⟩
 .simp only[beq_eq_false_iff_ne]at g;simp only[y,f.1 d,g,true_and,false_or]
 .rw[d]at f;simp only[Bool.false_eq_true,false_iff]at f⊢;exactλe=>f e.1
 clear f c;rintro⟨r,c⟩ ⟨rfl,f⟩;dsimp only at f n⊢
 refine⟨λx=>x.1=r/\(x.2=true↔(v.op=1\/v.table=0)/\(v.op=2\/w=gS)/\(v.op=3\/co=[])),aB (λd=>aB (λg=>⟨(r,true),⟨rfl,⟨λ_=>⟨(f.1 d).1,(f.1 d).2,.inl (bj g)⟩,λ_=>rfl⟩⟩,MT⟩) (λg=>⟨(r,_),⟨rfl,?_⟩,MT⟩)) (λd=>⟨(r,false),⟨rfl,?_⟩,MT⟩),?_⟩
 .simp only[beq_eq_false_iff_ne]at g;simp only[L,f.1 d,g,true_and,false_or]
 .rw[d]at f;simp only[Bool.false_eq_true,false_iff]at f⊢;exactλe=>f ⟨e.1,e.2.1⟩
 clear f c;rintro⟨r,c⟩ ⟨rfl,f⟩;dsimp only at f n⊢
 refine⟨λx=>x.1=r/\(x.2=true↔(v.op=1\/v.table=0)/\(v.op=2\/w=gS)/\(v.op=3\/co=[])/\(v.op=4\/v.op=5\/on=[])),aB (λd=>aB (λg=>⟨(r,true),⟨rfl,⟨λ_=>⟨(f.1 d).1,(f.1 d).2.1,(f.1 d).2.2,.inl (bj g)⟩,λ_=>rfl⟩⟩,MT⟩) (λg=>aB (λj=>⟨(r,true),⟨rfl,⟨λ_=>⟨(f.1 d).1,(f.1 d).2.1,(f.1 d).2.2,.inr (.inl (bj j))⟩,λ_=>rfl⟩⟩,MT⟩) (λj=>⟨(r,_),⟨rfl,?_⟩,MT⟩))) (λd=>⟨(r,false),⟨rfl,?_⟩,MT⟩),?_⟩
 .simp only[beq_eq_false_iff_ne]at g j;simp only[M,f.1 d,g,j,true_and,false_or]
 .rw[d]at f;simp only[Bool.false_eq_true,false_iff]at f⊢;exactλe=>f ⟨e.1,e.2.1,e.2.2.1⟩
 clear f c;rintro⟨r,c⟩ ⟨rfl,f⟩;dsimp only at f n⊢
 refine aB (λd=>aB (λg=>t true ⟨λ_=>?_,λ_=>rfl⟩) (λg=>aB (λj=>aB (λu=>t _ ?_) (λu=>t false ?_)) (λj=>t false ?_))) (λd=>t false ?_)
 .obtain⟨z,A,B,C⟩:=f.1 d;refine⟨z,A,B,C,?_⟩;rcases n.1 g with e|e
  .exact .inl e
  .exact .inr (.inl e)
 .obtain⟨z,A,B,C⟩:=f.1 d;have o:¬(v.op=9\/v.op=10):=λe=>by rw[n.2 e]at g;cases g
  rw[beq_iff_eq];refine⟨λe=>⟨z,A,B,C,.inr (.inr ⟨D.1 j,E.1 u,e⟩)⟩,λe=>?_⟩;rcases e.2.2.2.2 with e|e|e
  .exact(o (.inl e)).elim
  .exact(o (.inr e)).elim
  .exact e.2.2
 .have o:¬(v.op=9\/v.op=10):=λe=>by rw[n.2 e]at g;cases g
  refine⟨λe=>(by cases e),λe=>?_⟩;rcases e.2.2.2.2 with e|e|e
  .exact(o (.inl e)).elim
  .exact(o (.inr e)).elim
  .rw[E.2 e.2.1]at u;cases u
 .have o:¬(v.op=9\/v.op=10):=λe=>by rw[n.2 e]at g;cases g
  refine⟨λe=>(by cases e),λe=>?_⟩;rcases e.2.2.2.2 with e|e|e
  .exact(o (.inl e)).elim
  .exact(o (.inr e)).elim
  .rw[D.2 e.1]at j;cases j
 .refine⟨λe=>(by cases e),λe=>?_⟩;rw[f.2 ⟨e.1,e.2.1,e.2.2.1,e.2.2.2.1⟩]at d;cases d
theorem B8(l:br):eR 1 (l.map eI):=by
 constructor
 .intro e c;obtain⟨x,_,rfl⟩:=mem_map.1 c;rfl
 .intro e c u d;obtain⟨x,_,rfl⟩:=mem_map.1 c;simp[eI]at d;subst d;rfl
theorem KR.err{r:br×Int}{e:Int}(d:KR K m h r)(c:PH.le h h')(f:r=eY e):K (.tup [.val (.slice none 0 0),.val (.int .i64 e)]) m h':=by
 subst f;exact d ⟨none,0,0⟩ h' c ⟨.nil _ _,by simp[eY]⟩
theorem KR.big{r:br×Int}(d:KR K m h r)(c:PH.le h h')(e:r=mG l)(f:12<l.length):K (.tup [.val (.slice none 0 0),.val (.int .i64 2)]) m h':=
 d.err c (by rw[e,mG,if_neg aC];rfl)
theorem KR.ok{r:br×Int}{sl:Sl}(d:KR K m h r)(c:PH.le h h')(e:r=mG l)(f:l.length<=12)(g:cZ h' sl 1 (l.map eI)):K (.tup [.val (.slice sl.a sl.len sl.cap),.val (.int .i64 0)]) m h':=by
 rw[e,mG,if_pos f]at d;exact d sl h' c ⟨g,by show l.length<=17592186044416;omega⟩
theorem bPZ{p:Sl}{a b:Sl}{t E:br}(Z:gO h s sc)(h8:nK s)(hp:Ints h p ps)(hq:dQ h q v)(B:Ints h a t)(Q:Ints h b E)(a0:t.length<=12)(a1:E.length<=12)(d:KR K m h (fH s ps q t E)):Ox sc p v a b m h K:=by
 dsimp only[Ox,push_cast];have T:=hq;obtain⟨op,ta,w,co,on,gr,od,li,args⟩:=q;have x:=hq.parts;have e0:=x.op_;have e1:=x.table_;have e2:=x.limit_;have a2:=Z.tables.slen;have a3:=B.slen;have F:=x.columns_.slen;have U:=x.columns_.len;subst e0 e1 e2;refine⟨v.op,rfl,aE (λV=>d.err (.refl _) ?_) (λV=>⟨v,_,rfl,T,λr u=>aB (λJ=>d.err (.refl _) ?_) (λJ=>?_)⟩)⟩
 .unfold fH;rw[if_pos (.inl V)]
 .unfold fH;rw[if_pos (.inr λe=>by rw[u.2 e]at J;cases J)]
 have hu:dM (.mk v.op v.table w co on gr od v.limit args):=u.1 (bj J);unfold fH at d;rw[if_neg (λe=>e.elim V (λe=>e hu))]at d;dsimp only at d;clear u J;refine⟨t.map eI,B8 _,B.row,by simp;omega,by simp;omega,aB (λy=>?_) (λy=>aB (λz=>?_) (λz=>aB (λA=>?_) (λA=>aB (λC=>?_) (λC=>aB (λG=>?_) (λG=>aB (λL=>?_) (λL=>?_))))))⟩
 .rw[beq_iff_eq]at y;rw[if_pos y]at d;refine aE (λg=>d.err (.refl _) (if_neg aC)) (λg=>aE (λn=>d.err (.refl _) (if_neg aC)) (λn=>⟨sc,s,v.table,rfl,Z,h8,λH h' f o=>?_⟩));rw[if_pos aC]at d;have:=o.slen;exact aE (λj=>d.big f rfl aC) (λj=>d.ok f rfl aC o.row)
 .rw[beq_eq_false_iff_ne]at y;rw[beq_iff_eq]at z;rw[if_neg y,if_pos z]at d;refine⟨a,p,v.where_,t,ps,w,rfl,B,hp,x.where_,aB (λg=>d.err (.refl _) (if_neg (bj g))) (λg=>?_)⟩;rw[if_pos (bj g)]at d;exact aE (λj=>d.big (.refl _) rfl (by simp at j;omega)) (λj H h' f o=>d.ok f rfl aC o)
 .rw[beq_eq_false_iff_ne]at y z;rw[beq_iff_eq]at A;rw[if_neg y,if_neg z,if_pos A]at d;refine aB (λg=>d.err (.refl _) (if_neg λe=>e.1 ((BI F).1 g))) (λg=>?_);have D:co≠[]:=λe=>by rw[(BI F).2 e]at g;cases g
  refine⟨λ⟨i,a',W,l,hx⟩=>a'=a/\W=v.columns/\hx=h/\i<=co.length/\l=(co.take i).map (λc=>t.getD c.toNat 0)/\fC (λ_ c=>EU t c=true) co i,λ⟨i,_,_,_,_⟩=>co.length-i,⟨(0,a,v.columns,[],h),⟨rfl,rfl,rfl,aC,bg,.zero⟩,MT⟩,?_⟩;rintro⟨i,a,_,l,h⟩ ⟨rfl,rfl,rfl,o,rfl,hg⟩;dsimp only;refine aE (λM=>?_) (λa4=>?_)
  .obtain⟨c,R⟩:=eN F M;obtain⟨b1,o1,X,r1⟩:=x.columns_.at' R;refine⟨b1,o1,X,aC,M,c,.imm r1,a,t,c,rfl,B,aB (λn=>d.err (.refl _) (if_neg λe=>?_)) (λn=>?_)⟩
   .have:=e.2 i c R;rw[this]at n;cases n
   have n:EU t c=true:=bj n
   have j:=eX.1 n;obtain⟨b2,o2,Y,r2⟩:=B.inb j.1 j.2;refine⟨b2,o2,Y,aC,aC,_,.imm r2,?_,?_,(i+1,a,v.columns,(co.take (i+1)).map (λc=>t.getD c.toNat 0),h),⟨rfl,rfl,rfl,aC,rfl,hg.succ R n⟩,by show co.length-(i+1)<co.length-i;omega,?_⟩
   .simp;omega
   .simp;omega
   .rw[iI R,map_append];exact MT
  .rw[if_pos ⟨D,hg.all aC⟩]at d;rw[take_of_length_le aC];exact aE (λj=>d.big (.refl _) rfl (by simp at j⊢;omega)) (λj H h' f o=>d.ok f rfl (by simp at j⊢;omega) o)
 .rw[beq_eq_false_iff_ne]at y z A;have I:=beq_iff_eq.1 C;rw[if_neg y,if_neg z,if_neg A,if_pos I]at d;refine⟨v.on,a,b,on,t,E,rfl,x.on_,B,Q,λr u=>aB (λg=>d.err (.refl _) (if_neg λe=>?_)) (λg=>aB (λ_=>⟨E.map eI,B8 _,Q.row,by simp;omega,by simp;omega,?_⟩) (λn=>?_))⟩
  .rw[u.2 e]at g;cases g
  .rw[if_pos (u.1 (bj g))]at d;rw[<-map_append];exact aE (λj=>d.big (.refl _) rfl (by simp at j⊢;omega)) (λj H h' f o=>d.ok f rfl (by simp at j⊢;omega) o)
  .rw[C]at n;cases n
 .rw[beq_eq_false_iff_ne]at y z A;have I:=beq_eq_false_iff_ne.1 C;rw[beq_iff_eq]at G;rw[if_neg y,if_neg z,if_neg A,if_neg I,if_pos G]at d;refine⟨v.on,a,b,on,t,E,rfl,x.on_,B,Q,λr u=>aB (λg=>d.err (.refl _) (if_neg λe=>?_)) (λg=>aB (λn=>?_) (λn=>?_))⟩
  .rw[u.2 e]at g;cases g
  .rw[C]at n;cases n
  .rw[if_pos (u.1 (bj g))]at d;exact aE (λj=>d.big (.refl _) rfl (by simp at j;omega)) (λj H h' f o=>d.ok f rfl aC o)
 .rw[beq_eq_false_iff_ne]at y z A C G;rw[beq_iff_eq]at L;rw[if_neg y,if_neg z,if_neg A,if_neg C,if_neg G,if_pos L]at d;refine⟨v,a,gr,od,t,rfl,x.group_,x.order_,B,λr u=>aB (λg=>d.err (.refl _) (if_neg λe=>?_)) (λg=>?_)⟩
  .rw[u.2 e]at g;cases g
  rw[if_pos (u.1 (bj g))]at d;exact aE (λj=>d.big (.refl _) rfl (by simp at j;omega)) (λj H h' f o=>d.ok f rfl aC o)
 .rw[beq_eq_false_iff_ne]at y z A C G L;rw[if_neg y,if_neg z,if_neg A,if_neg C,if_neg G,if_neg L]at d;refine⟨a,b,t,E,rfl,B,Q,λr u=>aB (λg=>d.err (.refl _) ?_) (λg=>aB (λn=>⟨v,a,gr,od,t,rfl,x.group_,x.order_,B,λr2 O=>aB (λS=>d.err (.refl _) ?_) (λS=>?_)⟩) (λn=>?_))⟩
  .have D:¬t=E:=λe=>by rw[u.2 e]at g;cases g
   by_cases P:v.op=10
   .rw[if_pos P,if_neg (λe=>D e.1)]
   .rw[if_neg P,if_neg D]
  .rw[beq_iff_eq]at n;rw[if_pos n,if_neg λe=>by rw[O.2 e.2]at S;cases S]
  .rw[beq_iff_eq]at n;rw[if_pos n,if_pos ⟨u.1 (bj g),O.1 (bj S)⟩]at d;exact aE (λj=>d.big (.refl _) rfl (by simp at j;omega)) (λj H h' f o=>d.ok f rfl aC o)
  .rw[beq_eq_false_iff_ne]at n;rw[if_neg n,if_pos (u.1 (bj g))]at d;exact aE (λj=>d.big (.refl _) rfl (by simp at j;omega)) (λj H h' f o=>d.ok f rfl aC o)
theorem alZ:bk 95 bHQ:=by
 refine iB func95 ?_;rintro c m h K ⟨sc,p,v,a,b,s,ps,q,y,z,rfl,d,e,f,g,j,n,o,t,u⟩;refine⟨boQ m,rfl,aD QK (aD Yg (aD ab (aD ae (aD HH (aD Yf (aD Ye (aD aqZ aF))))))),Ox sc p v a b m h K,bf,?_⟩;exact bPZ d e f g j n o t u
mutual
noncomputable def bH(s:mI)(ps:br):Query->br×Int
 |.mk op ta w co on gr od li args=>
  match eM s ps args with
  |(ks,e)=>if e=0 then(if(ks.length:Int)=arity op then fH s ps (.mk op ta w co on gr od li args) (ks.getD 0 []) (ks.getD 1 [])else eY 100)else eY e
noncomputable def eM(s:mI)(ps:br):ce->List br×Int
 |[]=>([],0)
 |q::qs=>
  match bH s ps q with
  |(k,e)=>if e=0 then(match eM s ps qs with|(ks,c)=>if c=0 then(k::ks,0)else([],c))else([],e)
end
theorem vF{s:mI}{ps:br}:∀{c:ce}{ks:List br},c.map (bH s ps)=ks.map (λk=>(k,0))->eM s ps c=(ks,0)
 |[],[],_=>by simp[eM]
 |q::c,k::ks,h=>by
  simp only[map_cons,List.cons.injEq]at h;simp only[eM,h.1,vF h.2,if_true]
 |[],_::_,h=>by simp at h
 |_::_,[],h=>by simp at h
theorem Fx{s:mI}{ps:br}{e:Int}(d:e≠0):∀{c:ce}{ks:List br}{i:Nat}{q:Query},(c.take i).map (bH s ps)=ks.map (λk=>(k,0))->c[i]? =some q->(bH s ps q).2=e->eM s ps c=([],e)
 |[],_,_,_,_,h,_=>by simp at h
 |q::c,_,0,g,_,h,f=>by
  simp at h;subst h;simp only[eM,f,if_neg d]
 |q::c,[],i+1,_,h,_,_=>by simp at h
 |q::c,k::ks,i+1,g,h,j,f=>by
  simp only[take_succ_cons,map_cons,List.cons.injEq]at h;have:=Fx d h.2 (bj j) f;simp only[eM,h.1,this,if_true,if_neg d]
theorem aLZ(l:br):(mG l).1.length<=12:=by unfold mG;split<;>simp_all
theorem ahZ(s:mI)(ps:br)(q:Query)(a b:br):(fH s ps q a b).1.length<=12:=by
 obtain⟨op,ta,w,co,on,gr,od,li,args⟩:=q;unfold fH;dsimp only
 repeat' split
 all_goals first|exact aLZ _|(simp[eY];done)
theorem yL(s:mI)(ps:br)(q:Query):(bH s ps q).1.length<=12:=by
 obtain⟨op,ta,w,co,on,gr,od,li,args⟩:=q;simp only[bH]
 repeat' split
 all_goals first|exact ahZ .. |simp[eY]
noncomputable def fE(s:mI)(ps:br)(q:Query):br×Int:=
 if dH s=0 then(if ps.all dC=true then(if lP q=true then bH s ps q else eY 2)else eY 1)else eY (dH s)
def Slices(h:PH)(c:ca)(ks:List br):Prop:=c.length=ks.length/\∀(j:Nat) s k,c[j]? =some s->ks[j]? =some k->Ints h s k
theorem Slices.mono{c:ca}(x:Slices h c ks)(le:PH.le h h'):Slices h' c ks:=⟨x.1,λj s k d e=>(x.2 j s k d e).mono le⟩
theorem Slices.snoc{f:ca}{s:Sl}{k:br}(x:Slices h f ks)(o:Ints h s k):Slices h (f++[s]) (ks++[k]):=by
 refine⟨by simp[x.1],λj t u c d=>?_⟩;by_cases g:j<f.length
 .rw[getElem?_append_left g]at c;rw[getElem?_append_left (by rw[<-x.1];exact g)]at d;exact x.2 j t u c d
 .rw[getElem?_append_right aC]at c;rw[getElem?_append_right (by have:=x.1;omega), <-x.1]at d;cases e:j-f.length with
  |zero=>rw[e]at c d;simp at c d;subst c d;exact o
  |succ n=>rw[e]at c;simp at c
def Ak(N:Nat):Vc.Spec:=λc m h K=>∃sc p v s ps q,c=[aS sc,cS p,aQ v]/\gO h s sc/\nK s/\Ints h p ps/\dQ h q v/\SizeOf.sizeOf q<N/\KR K m h (bH s ps q)
def AB:Vc.Spec:=λc m h K=>∃sc p v s ps q,c=[aS sc,cS p,aQ v]/\gO h s sc/\Ints h p ps/\dQ h q v/\KR K m h (fE s ps q)
noncomputable def f53_ctx(N:Nat)(sc:bY)(p:Sl)(v:QV)(m:MH):Ctx:=
 dG [(53,Ak N),(94,PL),(95,bHQ)] [(3,{A:=Nat×ca×PH,st:=λ⟨i,c,h⟩=>bO 58 61 [(1,sv p),(3,.at (.ptr 3 0)),(5,.at (.ptr 5 0)),(8,.at (.lst 35)),(14,iv v.args.len),(15,iv i)] [(3,.cells 40 (sc.enc.map .val)),(5,.cells 35 (v.enc.map .val)),(35,.lst 30 1 (c.map eS))] m h})] [] [] false
abbrev MR(a:(Nat×ca×PH->Prop)->(Nat×ca×PH)->Prop)(b:(Nat×ca×PH->Prop)->(Nat×ca×PH->Nat)->(Nat×ca×PH)->Prop):Prop:=∃(x:Nat×ca×PH->Prop)(d:Nat×ca×PH->Nat),(∃(c:Nat×ca×PH),a x c)/\∀(c:Nat×ca×PH),b x d c
noncomputable abbrev kS(a:ca):List bm:=List.map eS a
noncomputable abbrev mP(a:Nat×ca×PH):List bm:=kS a.2.1
noncomputable abbrev kH(a:Nat×ca×PH):Nat->Nat->Option Value:=a.2.2
abbrev AJ(a:bY->Sl->Prop):Prop:=∃(x:bY)(c:Sl),a x c
abbrev ET(a:mI->br->Prop):Prop:=∃(x:mI)(c:br),a x c
abbrev Gi(a:bY)(b:Sl)(c:QV)(d:PH)(e:QV->mI->br->Query->Prop):Prop:=AJ (λx g=>∃(j:QV),ET (λf n=>∃(o:Query),aA (cJ (bR a) (eJ b (dL c))=cJ (bR x) (eJ g (dL j))) (gO d f x) (aA (nK f) (Ints d g n) (e j f n o))))
abbrev iL(a:List bm):Prop:=iY (jA a 1) 24
noncomputable abbrev iN(a:List bm)(b:Sl):List bm:=jW a (aM b)
noncomputable abbrev IP(a:Nat×ca×PH):List bm:=mP a++gA::iA gA
abbrev jC(a:List bm)(b:Nat)(c:bm):Prop:=a[b]? =Option.some c
abbrev mZ(a:Nat)(b c:bm):Prop:=List.take a (List.drop 0 b)=c
attribute [push_cast] MR kS mP kH AJ ET Gi iL iN IP jC mZ
def ao(N:Nat)(sc:bY)(p:Sl)(v:QV)(m:MH)(h:PH)(K:bo):Prop:=
  MR (λI x=>aA (I x) (aH p) (aA (eP 3) dY (aA (eL 35) (bG v.args) (aA (bC x.1) (bM sc) (aA (fL v) (rB 30 1 (mP x)) (aA (m=m) (h=kH x) True)))))) (λI u x=>I x->aZ (↑x.1:Int) (aG v.args) (aK (λb o=>aA (aL v.args.a b o) (0<=(↑x.1:Int)) ((↑x.1:Int)<aG v.args/\∃(y:QV),aJ m (kH x) b (bK o x.1 21) y.enc/\Gi sc p y (kH x) (λj s f q=>aA (dQ (kH x) q j) (oR q N) (∀(d:Sl)(c:PH),dA (kH x) c (Ints c d (bH s f q).1) (cO (bH s f q).2 0 (K (CV.tup (gJ jG (CV.val (fD (bH s f q).2)))) m c) (aA (iL (mP x)) (dO (mP x)) (∃(g:Nat×ca×PH),aA (I g) (u g<u x) (aA (aH p) iM (aA dY (eL 35) (aA (bG v.args) (bD (fP (bE x.1 1)) g.1) (aA (bM sc) (fL v) (aA
 (Option.some (Own.lst 30 1 (iN (mP x) d))=Option.some (Own.lst 30 1 (mP g))) (m=m) (bX c (kH g))))))))))))))) (yX v.op (λo=>cO (lU (mP x)) (arity o) (K (CV.tup (aW jG 100)) m (kH x)) (aA (iY (jA (mP x) 2) 24) (lN (jA (mP x) 2)) (aA (cF 0) (0<lU (IP x)) (∃(e:bm),jC (IP x) 0 e/\∃(y:Sl),aA (mZ 1 e (aM y)) ((0:Int)<=1) (1<lU (IP x)/\∃(z:bm),jC (IP x) 1 z/\∃(A:Sl),mZ 1 z (aM A)/\AJ (λs f=>∃(j:QV),mS (λa b=>ET (λd t=>∃(q:Query),DO (λl n=>aA (cJ (bR sc) (cN p (cJ v.enc (cA y A)))=cJ (bR s) (cN f (cJ j.enc (cA a b)))) (gO (kH x) d s) (aA (nK d) (Ints (kH x) f t) (aA (dQ (kH x) q j)
 (Ints (kH x) a l) (aA (Ints (kH x) b n) (l.length<=12) (n.length<=12/\∀(B:Sl)(c:PH),dA (kH x) c (Ints c B (fH d t q l n).1) (K (CV.tup (eJ B (CV.val (fD (fH d t q l n).2)))) m c))))))))))))))))
abbrev Gj(a:bY)(b:PH)(c:mI->Prop)(d:Prop):Prop:=nV (λx e=>aA (pY (bR a)=pY (bR x)) (gO b e x) (cO (dH e) 0 (c e) d))
attribute [push_cast] Gj
def VK(N:Nat)(sc:bY)(p:Sl)(v:QV)(m:MH)(h:PH)(K:bo):Prop:=
  Gj sc h (λs=>K (CV.tup (aW jG (dH s))) m h) (p9 p h (λl=>mA (BD l) (K (CV.tup (aW jG 1)) m h) (oU (λd e=>aA (tT (dL v)=tT (dL d)) (dQ h e d) (mA (lP e) (K (CV.tup (aW jG 2)) m h) (Gi sc p v h (λj s f q=>aA (dQ h q j) (oR q N) (∀(g:Sl)(c:PH),dA h c (Ints c g (bH s f q).1) (K (CV.tup (eJ g (CV.val (fD (bH s f q).2)))) m c)))))))))
theorem Ks{c:ce}(h:c.map (bH s ps)=ks.map (λk=>(k,0)))(j:Nat):(ks.getD j []).length<=12:=by
 rw[getD_eq_getElem?_getD];cases e:ks[j]? with
 |none=>simp
 |some k=>
  have d:(c.map (bH s ps))[j]? =some (k,0):=by rw[h];simp[e]
  rw[getElem?_map,Option.map_eq_some_iff]at d;obtain⟨q,_,f⟩:=d;have:=yL s ps q;rw[f]at this;simpa using this
theorem Slices.pick{c:ca}(x:Slices h c ks)(j:Nat)(g:j<c.length+2):∃y:Sl,(c.map eS++[[.slice none 0 0],[.slice none 0 0]])[j]? =some [.slice y.a y.len y.cap]/\Ints h y (ks.getD j []):=by
 by_cases d:j<c.length
 .refine⟨c[j],?_,?_⟩
  .rw[getElem?_append_left (bj d)];simp[d,eS]
  .have f:j<ks.length:=by rw[<-x.1];exact d
   rw[getD_eq_getElem?_getD,getElem?_eq_getElem f];exact x.2 j _ _ (getElem?_eq_getElem d) (getElem?_eq_getElem f)
 .refine⟨⟨none,0,0⟩,?_,?_⟩
  .rw[getElem?_append_right (bj d)];simp only[length_map];have:j-c.length=0\/j-c.length=1:=by omega
   rcases this with e|e<;>rw[e]<;>rfl
  .rw[getD_eq_getElem?_getD,getElem?_eq_none (by have:=x.1;omega)];exact⟨.nil _ _,bg⟩
theorem f53_all:∀N,bk 53 (Ak N)
 |0=>by
  refine eV (fn:=Tryz.f53) (c:=cC Tryz.f53) func53 rfl bh ?_;rintro E m h K ⟨sc,p,v,s,ps,q,rfl,_,_,_,_,Z,_⟩;omega
 |N+1=>by
  refine iB func53 ?_;rintro E m h K ⟨sc,p,v,s,ps,q,rfl,Q,R,S,T,Z,t⟩;refine⟨f53_ctx N sc p v m,rfl,aD (f53_all N) (aD QK (aD alZ aF)),ao N sc p v m h K,bf,?_⟩;dsimp only[ao,push_cast];have z:=@By q;have F:=T;obtain⟨op,ta,w,co,on,gr,od,li,args⟩:=q;have x:=T.parts;have U:=x.op_;have hl:=x.args_.slen;have V:=x.args_.len;simp only[Query.args]at z;simp only[bH]at t;refine⟨λ⟨i,A,G⟩=>i<=args.length/\PH.le h G/\∃ks,Slices G A ks/\(args.take i).map (bH s ps)=ks.map (λk=>(k,0)),λ⟨i,_,_⟩=>args.length-i,⟨(0,[],h),⟨aC,.refl _,[],⟨rfl,λj s k n=>by simp at n⟩,bg⟩,MT⟩,?_⟩;rintro⟨i,A,G⟩ ⟨W,d,ks,B,g⟩;have H:ks.length=i:=by have:=congrArg List.length g;simp at this;omega
  have a':A.length=i:=by rw[B.1,H]
  dsimp only;refine aE (λy=>?_) (λa0=>?_)
  .obtain⟨C,o⟩:=eN hl y;obtain⟨b1,o1,u,I,r1,J⟩:=(x.args_.mono d).at o;refine⟨b1,o1,I,aC,y,u,.imm r1,sc,p,u,s,ps,C,rfl,Q.mono d,R,S.mono d,J,?_,λL h' f M=>aB (λn=>?_) (λn=>?_)⟩
   .have:=z (mem_of_getElem? o);omega
   .have D:(bH s ps C).2≠0:=bj n
    rw[Fx D g o rfl]at t;exact t.err (d.trans f) (if_neg D)
   .have D:(bH s ps C).2=0:=bj n
    refine⟨by simp;omega,by simp;omega,(i+1,A++[L],h'),⟨aC,d.trans f,ks++[(bH s ps C).1],(B.mono f).snoc M,?_⟩,by show args.length-(i+1)<args.length-i;omega,?_⟩
    .rw[iI o,g,map_append];simp only[map_cons,map_nil];rw[<-D]
    .rw[map_append];exact MT
  .rw[take_of_length_le aC]at g;rw[vF g]at t;simp only[if_true]at t;refine⟨v.op,rfl,aB (λn=>t.err d (if_neg λe=>?_)) (λn=>?_)⟩
   .rw[U]at n;simp at n;omega
   have n:(A.length:Int)=arity op:=by rw[U]at n;simpa using n
   rw[if_pos aC]at t;obtain⟨X,O,i0⟩:=B.pick 0 aC;obtain⟨Y,P,i1⟩:=B.pick 1 aC;exact⟨by simp;omega,by simp;omega,aC,by simp;omega,_,O,X,rfl,aC,by simp;omega,_,P,Y,rfl,sc,p,v,X,Y,s,ps,_,_,_,rfl,Q.mono d,R,S.mono d,F.mono d,i0,i1,Ks g 0,Ks g 1,λL h' f W=>t L h' (d.trans f) W⟩
theorem Qe(h:dH s=0):nK s:=by
 have c:Da s:=Classical.byContradiction λd=>by rw[uZ d]at h;cases h
 intro t e;obtain⟨j,f⟩:=mem_iff_getElem?.1 e;exact(c.2 j t f).1
theorem Rl:bk 16 AB:=by
 refine iB func16 ?_;rintro t m h K ⟨sc,p,v,s,ps,q,rfl,j,n,o,c⟩;refine⟨dG [(51,vO),(52,Pz),(21,Z1),(53,Ak (SizeOf.sizeOf q+1))] [] [] [] false,rfl,aD au (aD ak (aD auX (aD (f53_all _) aF))),VK (SizeOf.sizeOf q+1) sc p v m h K,bf,?_⟩;dsimp only[VK,push_cast];unfold fE at c;refine⟨sc,s,rfl,j,aB (λd=>c.err (.refl _) (if_neg (bj d))) (λd=>?_)⟩;have d:dH s=0:=bj d
 rw[if_pos d]at c;refine⟨p,ps,rfl,n,aB (λf=>c.err (.refl _) (if_neg λe=>by rw[e]at f;cases f)) (λf=>?_)⟩;rw[if_pos (by rw[Bool.not_eq_false']at f;exact f)]at c;refine⟨v,q,rfl,o,aB (λg=>c.err (.refl _) (if_neg λe=>by rw[e]at g;cases g)) (λg=>?_)⟩;rw[if_pos (by rw[Bool.not_eq_false']at g;exact g)]at c;exact⟨sc,p,v,s,ps,q,rfl,j,Qe d,n,o,aC,c⟩
def aN(n:NV):CV:=.val (.agg ⟨n.enc⟩)
structure AO(h:PH)(s:mI)(ps:br)(q:Query)(ks:List br)(n:NV):Prop where
 s_:gO h s n.s
 ps_:Ints h n.params ps
 q_:dQ h q n.q
 ks_:bN h 1 eS (λk sl=>Ints h sl k) n.args ks
 len:∀k∈ks,k.length<=12
def Query.withOf(u q:Query):Query:=match u,q with|.mk _ ta w co on gr od li _,.mk op _ _ _ _ _ _ _ args=>.mk op ta w co on gr od li args
def CS:Vc.Spec:=λc m h K=>∃n k u s ps q ks d,c=[aN n,cI k,aQ u]/\AO h s ps q ks n/\dQ h d u/\∀r:Bool,(r=true↔(ks.length:Int)=k/\q=d.withOf q)->K (cB r) m h
def Pq:Vc.Spec:=λc m h K=>∃n s ps q ks,c=[aN n]/\AO h s ps q ks n/\K (aQ ⟨0,0,⟨0,0,dR,dR,⟨none,0,0⟩⟩,⟨none,0,0⟩,⟨none,0,0⟩,n.q.group,n.q.order,n.q.limit,⟨none,0,0⟩⟩) m h
def Pr:Vc.Spec:=λc m h K=>∃n s ps q ks a,c=[aN n]/\AO h s ps q ks n/\ks[0]? =some a/\∀r:Bool,(r=true↔∃op ta w co on gr od li args,q= .mk op ta w co on gr od li args/\qI a gr od li)->K (cB r) m h
def Mz(ks:List br):Query->Prop
 |.mk op ta w co on gr od li _=>ks.length=2/\ta=0/\w=gS/\co=[]/\gr=[]/\od=[]/\li=0/\Good (tM (ks.getD 0 []) (ks.getD 1 [])) on
def Pw:Vc.Spec:=λc m h K=>∃n s ps q ks,c=[aN n]/\AO h s ps q ks n/\∀r:Bool,(r=true↔Mz ks q)->K (cB r) m h
noncomputable def aSZ(n:NV)(h:PH):Ctx:=
 pF [] [(4,{A:=Nat×Nat×Nat×MH,st:=λ⟨i,c,b,d⟩=>bO 72 73 [(1,.at (.ptr 1 0)),(3,iv c),(4,vv (.pointer (some ⟨b,0,none⟩))),(16,sv n.q.group),(17,iv n.q.group.len),(18,iv i)] [(1,.cells 197 (n.enc.map .val))] d h}),
  (11,{A:=Nat×Nat×MH,st:=λ⟨i,c,d⟩=>bO 72 73 [(1,.at (.ptr 1 0)),(3,iv c),(39,sv n.q.order),(40,iv n.q.order.len),(41,iv i)] [(1,.cells 197 (n.enc.map .val))] d h})] [] [] [268] [] false
noncomputable def aSJ(n:NV)(h:PH):Ctx:=
 pF [(215,CS)] [(6,{A:=Nat×Sl×Sl×Nat×Nat×MH,st:=λ⟨i,s,t,b,c,d⟩=>bO 80 81 [(3,sv s),(4,sv t),(5,vv (.pointer (some ⟨b,0,none⟩))),(6,vv (.pointer (some ⟨c,0,none⟩))),(28,sv n.q.on),(29,iv n.q.on.len),(30,iv i)] [] d h})] [] [] [268] [] false
noncomputable abbrev pX(a:QV):Value:=fD a.table
noncomputable abbrev pW(a:QV):Value:=fD a.where_.op
noncomputable abbrev pZ(a:QV):Int:=a.where_.cmp
noncomputable abbrev iZ(a:OV):Value:=fD a.kind
noncomputable abbrev jV(a:QV):OV:=a.where_.left
noncomputable abbrev xR(a:OV):Value:=fD a.index
noncomputable abbrev Fl(a:OV):Int:=a.value.int
noncomputable abbrev sB(a:OV):Value:=fD (Fl a)
noncomputable abbrev Gf(a b:QV)(c:bm):bm:=bA (fD a.op) (pX b) (bA (pW b) (fD (pZ b)) (bA (iZ (jV b)) (xR (jV b)) (bA (fD (oP (jV b))) (sB (jV b)) c)))
noncomputable abbrev oY(a:OV):Value:=Value.string a.value.text
noncomputable abbrev gY(a:QV):OV:=a.where_.right
noncomputable abbrev Fq(a:QV):Value:=dT a.where_.args
noncomputable abbrev Fs(a:QV):Value:=dT a.columns
attribute [push_cast] pX pW pZ iZ jV xR Fl sB Gf oY gY Fq Fs
def Re(n:NV)(k:Int)(u:QV)(m:MH)(h:PH)(K:bo):Prop:=
  eD (aG n.args) k (∃(v:QV),oU (λw p=>∃(q:Query),u9 (gJ (dL n.q) (jR (Gf n.q u (bA (oY (jV u)) (iZ (gY u)) (bA (xR (gY u)) (fD (oP (gY u))) (bA (sB (gY u)) (oY (gY u)) (bA (Fq u) (Fs u) (bA (dT u.on) (dT u.group) (bA (dT u.order) (fD u.limit) (aM n.q.args)))))))))) (gJ (dL v) (dL w)) (dQ h p v) (dQ h q w) (λr=>(fS r↔p=q)->K (Ah r) m h))) (K aX m h)
noncomputable abbrev Gn(a:bm):bm:=bA bJ bJ (bA bJ bJ (bA bJ bJ (bA bJ bJ a)))
noncomputable abbrev v8(a:Value)(b:bm):bm:=bA PN bJ (bA bJ bJ (bA bJ PN (bA rV a b)))
noncomputable abbrev MG(a:QV):bm:=bA rV (dT a.group) (bA (dT a.order) (fD a.limit) gA)
attribute [push_cast] Gn v8 MG
def Rc(n:NV)(m:MH)(h:PH)(K:bo):Prop:=
  K (jR (Gn (v8 rV (MG n.q)))) m h
noncomputable abbrev tU:Value:=Value.bool false
abbrev MF(a:MH)(b:PH)(c:Nat->MH->Prop):Prop:=fR (λx d=>aY (bW a b x) (cM a d x (bA tU tU (bA tU tU (bA tU tU (bA tU tU (bA tU tU (bA tU tU [])))))) 268) (c x d))
noncomputable abbrev AH(a:QV):At:=jI a.table
noncomputable abbrev CD(a:QV)(b:At)(c:Sl)(d:cr):cr:=pQ a.where_ (eZ b (qK c) (eZ (qK a.group) (qK a.order) d))
noncomputable abbrev C0(a:QV):At:=qK a.columns
noncomputable abbrev CZ(a:QV):At:=jI a.limit
abbrev DP(a:NV):Prop:=eQ (oQ 197 (eZ (Iq a.s) (Ip a.s) (eZ (qK a.params) (jI a.q.op) (AH a.q::CD a.q (C0 a.q) a.q.on (eZ (CZ a.q) (qK a.q.args) (rG (qK a.args)))))))
noncomputable abbrev qV(a:Bool):bm:=jD (Value.bool a)
abbrev sP(a:MH)(b c:Nat)(d:bm)(e:MH->Prop):Prop:=Fp (λx f=>aA (Lo a b (qL x f 0)) (c<x.size) (∀(g:MH),cM a g b (splice x.toList c d) f->e g))
attribute [push_cast] tU MF AH CD C0 CZ DP qV sP
def GP(n:NV)(m:MH)(h:PH)(K:bo):Prop:=
  aK (λb o=>aA (aL n.args.a b o) ((0:Int)<=0) (0<aG n.args/\∃(y:Sl),aJ m h b (o+0) (aM y)/\MF m h (λz A=>∃(I:Nat×Nat×Nat×MH->Prop)(t:Nat×Nat×Nat×MH->Nat),(∃(x:Nat×Nat×Nat×MH),aA (I x) dX (aA (bD (fP (↑y.len:Int)) x.2.1) (cH z (iP x.2)) (aA (aH n.q.group) (bG n.q.group) (aA (bC x.1) (DP n) (dW A (gT x.2) h h)))))/\∀(x:Nat×Nat×Nat×MH),I x->aZ (↑x.1:Int) (aG n.q.group) (aK (λe f=>aA (aL n.q.group.a e f) (0<=(↑x.1:Int)) ((↑x.1:Int)<aG n.q.group/\∃(d:Int),aJ (gT x.2) h e (bK f x.1 1) (bL d)/\aZ d 0 (nO K x.2 h) (fO d (↑x.2.1:Int) (nO K x.2 h) (aA (cF d) (d<12) (∃(u:Bool),aJ (gT x.2) h (iP x.2) (fX 0 d 1) (qV u)/\branch u (nO K x.2
 h) (aA (cF d) (d<12) (sP (gT x.2) (iP x.2) (fX 0 d 1) (jD BF) (λj=>∃(c:Nat×Nat×Nat×MH),aA (I c) (t c<t x) (aA dX (cG x.2.1 c.2.1) (aA (cH (iP x.2) (iP c.2)) (aH n.q.group) (aA (bG n.q.group) (bD (fP (bE x.1 1)) c.1) (dK (DP n) j (gT c.2) h h))))))))))))) (∃(I1:Nat×Nat×MH->Prop)(j:Nat×Nat×MH->Nat),M8 (λc=>aA (I1 c) dX (aA (cG x.2.1 (iP c)) (aH n.q.order) (aA (bG n.q.order) (bC c.1) (aA (DP n) (gT x.2=gT c) (bX h h))))) (λc=>I1 c->aZ (↑c.1:Int) (aG n.q.order) (aK (λe f=>aA (aL n.q.order.a e f) (0<=(↑c.1:Int)) ((↑c.1:Int)<aG n.q.order/\∃(d:Int×Bool),aJ (gT c) h e (bK f c.1 2) (zR d)/\aZ d.1 0 (nO K c h) (fO
 d.1 (↑(iP c):Int) (nO K c h) (∃(g:Nat×Nat×MH),aA (I1 g) (j g<j c) (aA dX (cG (iP c) (iP g)) (aA (aH n.q.order) (bG n.q.order) (aA (bD (fP (bE c.1 1)) g.1) (DP n) (dW (gT c) (gT g) h h))))))))) (branch (decide (aG n.q.order<=12)) (fO n.q.limit 0 (K (Ah (decide (n.q.limit<=100))) (gT c) h) (nO K c h)) (nO K c h)))))))
abbrev DL(a:mI->br->Query->(List br)->Prop):Prop:=ET (λx c=>∃(d:Query)(e:List br),a x c d e)
abbrev Cg(a:bm)(b:Int)(c:bm)(d:NV->Int->QV->cq)(e:PH)(g:Int->Query->(List br)->Query->Bool->Prop):Prop:=∃(x:NV)(f:Int)(j:QV),DL (λu y n o=>∃(t:Query),u9 (cJ a (gJ (fQ b) (jR c))) (d x f j) (AO e u y n o x) (dQ e t j) (λz=>g f n o t z))
noncomputable abbrev hX(a:NV)(b:bm):bm:=bA (xR (jV a.q)) (fD (oP (jV a.q))) (bA (sB (jV a.q)) (oY (jV a.q)) (bA (iZ (gY a.q)) (xR (gY a.q)) (bA (fD (oP (gY a.q))) (sB (gY a.q)) b)))
noncomputable abbrev AI(a:OV)(b:QV)(c d:Sl):bm:=bA (oY a) (Fq b) (bA (Fs b) (dT c) (bA (dT b.group) (dT b.order) (bA (fD b.limit) (dT b.args) (aM d))))
noncomputable abbrev hP(a:NV):bm:=AI (gY a.q) a.q a.q.on a.args
abbrev Cs(a:List br)(b:Int)(c d:Query):Prop:=(↑a.length:Int)=b/\c=Query.withOf d c
noncomputable abbrev kG(a:Nat×Sl×Sl×Nat×Nat×MH):Nat×Nat×MH:=a.2.2.2
attribute [push_cast] DL Cg hX AI hP Cs kG
def GQ(n:NV)(m:MH)(h:PH)(K:bo):Prop:=
  Cg (bA (xU n.s) (xT n.s) (bA (dT n.params) (fD n.q.op) (bA (pX n.q) (pW n.q) (bA (fD (pZ n.q)) (iZ (jV n.q)) (hX n (hP n)))))) 2 (Gn (v8 rV (bA (dT n.q.on) rV (bA rV bJ gA)))) (λd k u=>cJ (bA (xU d.s) (xT d.s) (bA (dT d.params) (fD d.q.op) (bA (pX d.q) (pW d.q) (bA (fD (pZ d.q)) (iZ (jV d.q)) (hX d (hP d)))))) (gJ (fQ k) (dL u))) h (λk q L u r=>fA (fS r↔Cs L k q u) (!r) (K aX m h) (aK (λb o=>aA (aL n.args.a b o) ((0:Int)<=0) (0<aG n.args/\∃(y:Sl),aJ m h b (o+0) (aM y)/\aK (λf g=>aA (aL n.args.a f g) ((0:Int)<=1) (1<aG n.args/\∃(j:Sl),aJ m h f (g+1) (aM j)/\MF m h (λM O=>MF O h (λP Q=>∃(I:Nat×Sl×Sl×Nat×Nat
 ×MH->Prop)(t:Nat×Sl×Sl×Nat×Nat×MH->Nat),(∃(x:Nat×Sl×Sl×Nat×Nat×MH),aA (I x) (bB y x.2.1) (aA (bB j x.2.2.1) (cH M (kG x).1) (aA (cH P (iP (kG x))) (aH n.q.on) (aA (bG n.q.on) (bC x.1) (dW Q (gT (kG x)) h h)))))/\∀(x:Nat×Sl×Sl×Nat×Nat×MH),I x->aZ (↑x.1:Int) (aG n.q.on) (aK (λz A=>aA (aL n.q.on.a z A) (0<=(↑x.1:Int)) ((↑x.1:Int)<aG n.q.on/\∃(c:Int×Int),aA (aJ (gT (kG x)) h z (bK A x.1 2) (uS c)) (cF 0) (aA ((0:Int)<2) (cF 1) ((1:Int)<2/\aZ c.1 0 (nO K (kG x) h) (fO c.1 (aG x.2.1) (nO K (kG x) h) (aZ c.2 0 (nO K (kG x) h) (fO c.2 (aG x.2.2.1) (nO K (kG x) h) (aK (λB C=>aA (aL x.2.1.a B C) (0<=c.1) (c.1<aG x.2.1/\∃
 (D:Int),aJ (gT (kG x)) h B (fX C c.1 1) (bL D)/\aK (λE F=>aA (aL x.2.2.1.a E F) (0<=c.2) (c.2<aG x.2.2.1/\∃(G:Int),aJ (gT (kG x)) h E (fX F c.2 1) (bL G)/\cO D G (nO K (kG x) h) (aA (cF c.1) (c.1<12) (∃(H:Bool),aJ (gT (kG x)) h (kG x).1 (fX 0 c.1 1) (qV H)/\branch H (nO K (kG x) h) (aA (cF c.2) (c.2<12) (∃(J:Bool),aJ (gT (kG x)) h (iP (kG x)) (fX 0 c.2 1) (qV J)/\branch J (nO K (kG x) h) (aA (cF c.1) (c.1<12) (sP (gT (kG x)) (kG x).1 (fX 0 c.1 1) (jD BF) (λR=>aA (cF c.2) (c.2<12) (sP R (iP (kG x)) (fX 0 c.2 1) (jD BF) (λS=>∃(e:Nat×Sl×Sl×Nat×Nat×MH),aA (I e) (t e<t x) (aA (bB x.2.1
 e.2.1) (bB x.2.2.1 e.2.2.1) (aA (cH (kG x).1 (kG e).1) (cH (iP (kG x)) (iP (kG e))) (aA (aH n.q.on) (bG n.q.on) (dK (bD (fP (bE x.1 1)) e.1) S (gT (kG e)) h h)))))))))))))))))))))))))) (K gL (gT (kG x)) h)))))))))
structure Arr(m:MH)(b:Nat)(seen:br):Prop where
 ex:∃bs:ct,m b=some (.cells ⟨bs.map Value.bool⟩ 268 (0,0))/\bs.length=12/\∀k:Nat,k<12->(bs[k]? =some true↔(k:Int)∈seen)
theorem Arr.zero(h:m b=some (.cells ⟨[.bool false,.bool false,.bool false,.bool false,.bool false,.bool false,.bool false,.bool false,.bool false,.bool false,.bool false,.bool false]⟩ 268 (0,0))):Arr m b []:=
 ⟨⟨replicate 12 false,h,rfl,λk c=>by rw[getElem?_replicate];simp[c]⟩⟩
theorem Arr.look{c:br}(x:Arr m b c){n:Int}(j:0<=n)(o:n<12):∃y:Bool,aJ m h b (0+n.toNat*1) [.bool y]/\(y=true↔n∈c):=by
 obtain⟨d,e,t,g⟩:=x.ex;have f:n.toNat<d.length:=by omega
 refine⟨d[n.toNat],.lent _ _ _ e ?_,?_⟩
 .simp only[Nat.zero_add,Nat.mul_one,length_cons,length_nil];rw[drop_eq_getElem_cons (bj f)];simp
 .have:=g n.toNat aC;rw[getElem?_eq_getElem f]at this;rw[show((n.toNat:Nat):Int)=n by omega]at this;simpa using this
theorem Arr.store{c:br}(x:Arr m b c){n:Int}(y:0<=n)(z:n<12):∃(cs:Array Value)(E:TypeId),Lo m b (.cells cs E (0,0))/\0+n.toNat*1<cs.size/\∀m',gG m m' b (.cells ⟨splice cs.toList (0+n.toNat*1) [.bool true]⟩ E (0,0))->Arr m' b (c++[n]):=by
 obtain⟨g,e,o,t⟩:=x.ex;have d:n.toNat<g.length:=by omega
 refine⟨_,_,⟨e⟩,bj d,λm' u=>⟨g.set n.toNat true,?_,bj o,λk f=>?_⟩⟩
 .rw[u.at_];congr 3;simp only[splice,Nat.zero_add,Nat.mul_one,length_cons,length_nil];rw[set_eq_take_append_cons_drop,if_pos d];simp[map_take,map_drop]
 .rw[getElem?_set,mem_append,mem_singleton];by_cases j:n.toNat=k
  .subst j;rw[if_pos rfl,if_pos d];exact⟨λ_=>.inr aC,λ_=>rfl⟩
  .rw[if_neg j,t k f];exact⟨.inl,λh=>h.elim id λe=>by omega⟩
theorem Arr.other{g:Nat}{d:br}(x:Arr m b d)(f:b≠g)(j:∀c,c≠g->m' c=m c):Arr m' b d:=by
 obtain⟨n,e,o,t⟩:=x.ex;exact⟨n,by rw[j b f,e],o,t⟩
theorem AO.arg{n:NV}(x:AO h s ps q ks n){j:Nat}{k:br}(c:ks[j]? =some k):∃b o sl,n.args.a=some ⟨b,o,none⟩/\bT h b (o+j*1) [.slice sl.a sl.len sl.cap]/\Ints h sl k/\k.length<=12/\j<n.args.len:=by
 obtain⟨b,o,sl,e,r,d⟩:=x.ks_.at c;have:=(List.getElem?_eq_some_iff.1 c).1;exact⟨b,o,sl,e,r,d,x.len k (mem_of_getElem? c),by rw[x.ks_.slen];exact this⟩
theorem bxZ{n:NV}(c:K (aQ ⟨0,0,⟨0,0,dR,dR,⟨none,0,0⟩⟩,⟨none,0,0⟩,⟨none,0,0⟩,n.q.group,n.q.order,n.q.limit,⟨none,0,0⟩⟩) m h):Rc n m h K:=c
theorem vG:bk 215 CS:=by
 refine iB func215 ?_;rintro D m h K ⟨n,k,u,s,ps,q,ks,E,rfl,c,F,C⟩;refine⟨dG [(242,bZX)] [] [] [] false,rfl,aD Xh aF,Re n k u m h K,bf,?_⟩;dsimp only[Re,push_cast];have L:=c.ks_.slen;have G:=c.q_;have d:=c.q_;obtain⟨op,ta,w,co,on,gr,od,li,args⟩:=q;obtain⟨H,f,I,g,j,o,t,z,A⟩:=E;have x:=F.parts;have y:=G.parts;refine aB (λB=>⟨n.q,⟨n.q.op,u.table,u.where_,u.columns,u.on,u.group,u.order,u.limit,n.q.args⟩,_,.mk op f I g j o t z args,rfl,d,tV.rep ⟨y.op_,x.table_,x.where_,x.columns_,x.on_,x.group_,x.order_,x.limit_,y.args_⟩,λr J=>C r (J.trans ⟨λe=>⟨?_,e⟩,λe=>e.2⟩)⟩) (λB=>C false ⟨λe=>(by cases e),λe=>?_⟩)
 .have:(n.args.len:Int)=k:=bj B
  omega
 .have:(n.args.len:Int)≠k:=bj B
  have:=e.1;omega
theorem ON:bk 217 Pq:=by
 refine iB func217 ?_;rintro c m h K ⟨n,s,ps,q,ks,rfl,e,d⟩;refine⟨dG [] [] [] [] false,rfl,aF,Rc n m h K,bf,?_⟩;exact bxZ d
theorem bxX{n:NV}{op:Int}{on:bx}{args:ce}(u:AO h s ps (.mk op ta w co on gr od li args) ks n)(ha:ks[0]? =some a)(X:∀r:Bool,(r=true↔qI a gr od li)->K (cB r) m h):GP n m h (kA h K):=by
 dsimp only[GP,push_cast];have x:=u.q_.parts;have gl:=x.group_.slen;have Y:=x.group_.len;have ol:=x.order_.slen;have Z:=x.order_.len;have el:=x.limit_;obtain⟨b0,o0,sl,e0,r0,M,a',a0⟩:=u.arg ha;have O:=M.slen;have bad:∀f,Sub m f->¬qI a gr od li->kA h K (.val (.bool false)) f h:=λf hm u=>.sub hm (X false ⟨λe=>(by cases e),λe=>(u e).elim⟩);refine⟨b0,o0,e0,aC,aC,sl,.imm (bj r0),λb m1 hb C=>?_⟩;refine⟨λ⟨i,D,b',f⟩=>D=a.length/\b'=b/\i<=gr.length/\Sub m f/\Arr f b (gr.take i)/\fC (FU a) gr i,λ⟨i,_,_,_⟩=>gr.length-i,⟨(0,sl.len,b,m1),⟨O,rfl,aC,(Sub.refl m).upd hb.m_ C.other,.zero C.at_,.zero⟩,MT⟩,?_⟩;rintro⟨i,D,b,f⟩ ⟨rfl,rfl,hi,d,j,P⟩;dsimp only;refine aE (λo=>?_) (λF=>?_)
 .obtain⟨c,z⟩:=eN gl o;obtain⟨Q,R,S,T⟩:=x.group_.at' z;have t:¬FU a (gr.take i) c->kA h K (.val (.bool false)) f h:=λu=>bad f d λg=>Good.not z u g.group_;refine⟨Q,R,S,aC,o,c,.imm T,aE (λG=>t λg=>?_) (λG=>aE (λB=>t λg=>?_) (λB=>?_))⟩
  .have:=eX.1 g.1;omega
  .have:=eX.1 g.1;omega
  obtain⟨y,hy,H⟩:=j.look (h:=h) (n:=c) aC aC;refine⟨aC,aC,y,hy,aB (λL=>t λg=>g.2 (H.1 L)) (λL=>?_)⟩;obtain⟨cs,E,U,V,W⟩:=j.store (n:=c) aC aC;refine⟨aC,aC,cs,E,U,V,λm2 I=>⟨(i+1,a.length,b,m2),⟨rfl,rfl,aC,d.upd hb.m_ I.other,?_,P.succ z ⟨eX.2 ⟨aC,aC⟩,λe=>?_⟩⟩,by show gr.length-(i+1)<gr.length-i;omega,MT⟩⟩
  .have:=W m2 I
   rwa [take_add_one,z]
  .rw[H.2 e]at L;cases L
 have gg:=P.all aC;refine⟨λ⟨i,D,f⟩=>D=a.length/\i<=od.length/\Sub m f/\fC (HQ a) od i,λ⟨i,_,_⟩=>od.length-i,⟨(0,a.length,f),⟨rfl,aC,d,.zero⟩,MT⟩,?_⟩;clear hi P F d j f;rintro⟨i,D,f⟩ ⟨rfl,hi,d,J⟩;dsimp only;refine aE (λo=>?_) (λF=>?_)
 .obtain⟨c,z⟩:=eN ol o;obtain⟨Q,R,S,T⟩:=x.order_.at z;have A:¬HQ a (od.take i) c->kA h K (.val (.bool false)) f h:=λu=>bad f d λg=>Good.not z u g.order_;refine⟨Q,R,S,aC,o,c,.imm T,aE (λG=>A λg=>?_) (λG=>aE (λB=>A λg=>?_) (λB=>⟨(i+1,a.length,f),⟨rfl,aC,d,J.succ z (eX.2 ⟨aC,aC⟩)⟩,by show od.length-(i+1)<od.length-i;omega,MT⟩))⟩
  .have:=eX.1 (show EU a c.1=true from g);omega
  .have:=eX.1 (show EU a c.1=true from g);omega
 have oo:=J.all aC;rw[el];refine aE (λG=>aE (λB=>?_) (λB=>bad f d λg=>?_)) (λG=>bad f d λg=>?_)
 .exact .sub d (X (decide (li<=100)) ⟨λe=>⟨gg,oo,aC,B,bj e⟩,λe=>decide_eq_true e.high⟩)
 .have:=g.low;omega
 .have:=g.len_;omega
theorem OM:bk 218 Pr:=by
 refine ED func218 ?_;rintro d m h K ⟨n,s,ps,q,ks,a,rfl,f,g,j⟩;refine⟨aSZ n h,rfl,aF,GP n m h (kA h K),bf,?_⟩;dsimp only[GP,push_cast];obtain⟨op,ta,w,co,on,gr,od,li,args⟩:=q;refine bxX f g (λr c=>j r (c.trans ⟨λe=>⟨_,_,_,_,_,_,_,_,_,rfl,e⟩,?_⟩));rintro⟨_,_,_,_,_,_,_,_,_,e,c⟩;cases e;exact c
theorem WC{on:bx}{sl:Sl}(c:jK h sl on):dQ h (.mk 0 0 gS [] on [] [] 0 []) ⟨0,0,⟨0,0,dR,dR,⟨none,0,0⟩⟩,⟨none,0,0⟩,sl,⟨none,0,0⟩,⟨none,0,0⟩,0,⟨none,0,0⟩⟩:=
 tV.rep ⟨rfl,rfl,Dz h,⟨.nil _ _,bg⟩,c,⟨.nil _ _,bg⟩,⟨.nil _ _,bg⟩,rfl,.nil _ _ _ _⟩
theorem OO:bk 216 Pw:=by
 refine ED func216 ?_;rintro b4 m h K ⟨n,s,ps,q,ks,rfl,t,hK⟩;refine⟨aSJ n h,rfl,aD vG aF,GQ n m h (kA h K),bf,?_⟩;dsimp only[GQ,push_cast];obtain⟨op,ta,w,co,on,gr,od,li,args⟩:=q;show GQ n m h (kA h K);dsimp only[GQ,push_cast];have x:=t.q_.parts;have ol:=x.on_.slen;have a9:=x.on_.len;have bad:∀g,Sub m g->¬Mz ks (.mk op ta w co on gr od li args)->kA h K (.val (.bool false)) g h:=λg hm t=>.sub hm (hK false ⟨λe=>(by cases e),λe=>(t e).elim⟩);refine⟨n,2,⟨0,0,⟨0,0,dR,dR,⟨none,0,0⟩⟩,⟨none,0,0⟩,n.q.on,⟨none,0,0⟩,⟨none,0,0⟩,0,⟨none,0,0⟩⟩,s,ps,_,ks,.mk 0 0 gS [] on [] [] 0 [],rfl,t,WC x.on_,λr hr=>aB (λW=>bad m (Sub.refl m) λf=>?_) (λW=>?_)⟩
 .have:r=true:=hr.2 ⟨by have:=f.1;omega,by obtain⟨_,rfl,rfl,rfl,rfl,rfl,rfl,_⟩:=f;rfl⟩;rw[this]at W;cases W
 obtain⟨a',I⟩:=hr.1 (bj W);simp only[Query.withOf,Query.mk.injEq]at I;obtain⟨_,rfl,rfl,rfl,_,rfl,rfl,rfl,_⟩:=I
 obtain⟨u,A,rfl⟩:∃u A,ks=[u,A]:=by
  match ks,a' with
  |[u,A],_=>exact⟨u,A,rfl⟩
  |[],h=>simp at h
  |[_],h=>simp at h
  |_::_::_::_,h=>simp at h;omega
 obtain⟨b0,o0,J,e0,r0,i0,l0,j0⟩:=t.arg (j:=0) rfl;obtain⟨b1,o1,L,e1,r1,i1,l1,j1⟩:=t.arg (j:=1) rfl;have b5:=i0.slen;have b6:=i1.slen;have bad:∀g,Sub m g->¬Good (tM u A) on->kA h K (.val (.bool false)) g h:=λg hm t=>bad g hm λf=>t f.2.2.2.2.2.2.2;refine⟨b0,o0,e0,aC,aC,J,.imm (bj r0),b1,o1,e1,aC,aC,L,.imm (bj r1),λb m1 hb B c m2 hc C=>?_⟩;have D:b≠c:=λe=>by have:=hc.m_;rw[<-e,B.at_]at this;cases this
 have M:Sub m m1:=(Sub.refl m).upd hb.m_ B.other;have O:m c=none:=M.free hc.m_
 refine⟨λ⟨i,s',t',b',c',g⟩=>s'=J/\t'=L/\b'=b/\c'=c/\i<=on.length/\Sub m g/\Arr g b ((on.take i).map Prod.fst)/\Arr g c ((on.take i).map Prod.snd)/\fC (tM u A) on i,λ⟨i,_,_,_,_,_⟩=>on.length-i,
  ⟨(0,J,L,b,c,m2),⟨rfl,rfl,rfl,rfl,aC,M.upd O C.other,(Arr.zero B.at_).other D C.other,.zero C.at_,.zero⟩,MT⟩,?_⟩
 rintro⟨i,J,L,b,c,g⟩ ⟨rfl,rfl,rfl,rfl,hi,o,hA,hB,hg⟩;dsimp only;refine aE (λP=>?_) (λb7=>.sub o (hK true ⟨λ_=>⟨rfl,rfl,rfl,rfl,rfl,rfl,rfl,hg.all aC⟩,λ_=>rfl⟩));obtain⟨p,Q⟩:=eN ol P;obtain⟨bp,a2,ep,rp⟩:=x.on_.at Q;have d:¬tM u A (on.take i) p->kA h K (.val (.bool false)) g h:=λt=>bad g o (Good.not Q t);refine⟨bp,a2,ep,aC,P,p,.imm rp,aC,aC,aC,aC,aE (λd1=>d λf=>?_) (λd1=>aE (λd2=>d λf=>?_) (λd2=>aE (λd3=>d λf=>?_) (λd3=>aE (λd4=>d λf=>?_) (λd4=>?_))))⟩
 .have:=eX.1 f.1;omega
 .have:=eX.1 f.1;omega
 .have:=eX.1 f.2.1;omega
 .have:=eX.1 f.2.1;omega
 obtain⟨b2,o2,e2,r2⟩:=i0.inb (n:=p.1) aC aC;obtain⟨b3,o3,e3,r3⟩:=i1.inb (n:=p.2) aC aC;obtain⟨y,hy,R⟩:=hA.look (h:=h) (n:=p.1) aC aC;obtain⟨z,hz,S⟩:=hB.look (h:=h) (n:=p.2) aC aC;obtain⟨cs,E,a3,a4,a5⟩:=hA.store (n:=p.1) aC aC;refine⟨b2,o2,e2,aC,aC,_,.imm r2,b3,o3,e3,aC,aC,_,.imm r3,aB (λX=>d λf=>?_) (λX=>⟨aC,aC,y,hy,aB (λY=>d λf=>?_) (λY=>⟨aC,aC,z,hz,aB (λZ=>d λf=>?_) (λZ=>⟨aC,aC,cs,E,a3,a4,λm3 F=>?_⟩)⟩)⟩)⟩
 .rw[f.2.2.1]at X;simp at X
 .obtain⟨q,H,e⟩:=mem_map.1 (R.1 Y);exact(f.2.2.2 q H).1 e
 .obtain⟨q,H,e⟩:=mem_map.1 (S.1 Z);exact(f.2.2.2 q H).2 e
 have a6:=a5 m3 F;have a7:=hB.other D.symm F.other;obtain⟨a8,E2,T,U,V⟩:=a7.store (n:=p.2) aC aC;refine⟨aC,aC,a8,E2,T,U,λm4 G=>⟨(i+1,J,L,b,c,m4),⟨rfl,rfl,rfl,rfl,aC,(o.upd hb.m_ F.other).upd O G.other,?_,?_,hg.succ Q ⟨eX.2 ⟨aC,aC⟩,eX.2 ⟨aC,aC⟩,bj X,λq H=>⟨λe=>?_,λe=>?_⟩⟩⟩,by show on.length-(i+1)<on.length-i;omega,MT⟩⟩
 .rw[iI Q];exact a6.other D G.other
 .rw[iI Q];exact V m4 G
 .rw[R.2 (mem_map.2 ⟨q,H,e⟩)]at Y;cases Y
 .rw[S.2 (mem_map.2 ⟨q,H,e⟩)]at Z;cases Z
def fin(r:br×Int):br×Int:=if r.2=0 then mG r.1 else eY r.2
def Query.op:Query->Int
 |.mk op .. =>op
noncomputable def AQ(s:mI)(ps:br)(q:Query)(ks:List br):br×Int:=if(ks.length:Int)=arity q.op then fH s ps q (ks.getD 0 []) (ks.getD 1 [])else eY 100
def AT(P:Int->Prop):Vc.Spec:=λc m h K=>∃n s ps q ks,c=[aN n]/\AO h s ps q ks n/\nK s/\P q.op/\∀r,fin r=AQ s ps q ks->KR K m h r
def bSJ(h:PH)(c:Sl)(ks:List br):Prop:=bN h 1 eS (λk d=>Ints h d k) c ks
def JT:Vc.Spec:=λc m h K=>∃d ks,c=[cS d]/\bSJ h d ks/\ks.length<=10/\(∀k∈ks,k.length<=12)/\∀e h',PH.le h h'->Ints h' e ks.flatten->K (cS e) m h'
noncomputable def aUX(n:NV)(m:MH)(h:PH):Ctx:=
 dG [(215,CS)] [(5,{A:=Nat×br,st:=λ⟨i,l⟩=>bO 57 58 [(1,.at (.ptr 1 0)),(4,.at (.lst 25)),(28,sv n.q.columns),(29,iv n.q.columns.len),(30,iv i)] [(1,.cells 197 (n.enc.map .val)),(25,.lst 3 1 (l.map eI))] m h})] [] [] false
noncomputable abbrev AF(a:bm):bm:=bA rV rV (bA rV bJ a)
noncomputable abbrev S5(a b:Value):bm:=bA a b (bA bJ bJ (bA bJ bJ (bA bJ bJ (v8 rV (AF gA)))))
attribute [push_cast] AF S5
def GZ(n:NV)(m:MH)(h:PH)(K:bo):Prop:=
  Cg (bA (xU n.s) (xT n.s) (bA (dT n.params) (fD n.q.op) (bA (pX n.q) (pW n.q) (bA (fD (pZ n.q)) (iZ (jV n.q)) (hX n (hP n)))))) 0 (S5 bJ (pX n.q)) (λc k u=>cJ (bA (xU c.s) (xT c.s) (bA (dT c.params) (fD c.q.op) (bA (pX c.q) (pW c.q) (bA (fD (pZ c.q)) (iZ (jV c.q)) (hX c (hP c)))))) (gJ (fQ k) (dL u))) h (λk q d u r=>fA (fS r↔Cs d k q u) (!r) (K (CV.tup (aW jG 100)) m h) (aZ n.q.table 0 (K (CV.tup (aW jG 100)) m h) (fO n.q.table (iX n.s) (K (CV.tup (aW jG 100)) m h) (Cn (aW (jR (bR n.s)) n.q.table) h (λs e=>K (CV.tup (aW (rC s) 0)) m e)))))
def GY(n:NV)(m:MH)(h:PH)(K:bo):Prop:=
  Cg (bA (xU n.s) (xT n.s) (bA (dT n.params) (fD n.q.op) (bA (pX n.q) (pW n.q) (bA (fD (pZ n.q)) (iZ (jV n.q)) (hX n (hP n)))))) 1 (bA bJ bJ (bA (pW n.q) (fD (pZ n.q)) (bA (iZ (jV n.q)) (xR (jV n.q)) (bA (fD (oP (jV n.q))) (sB (jV n.q)) (bA (oY (jV n.q)) (iZ (gY n.q)) (bA (xR (gY n.q)) (fD (oP (gY n.q))) (bA (sB (gY n.q)) (oY (gY n.q)) (bA (Fq n.q) rV (AF gA))))))))) (λd k u=>cJ (bA (xU d.s) (xT d.s) (bA (dT d.params) (fD d.q.op) (bA (pX d.q) (pW d.q) (bA (fD (pZ d.q)) (iZ (jV d.q)) (hX d (hP d)))))) (gJ (fQ k) (dL u))) h (λk q z u r=>fA (fS r↔Cs z k q u) (!r) (K (CV.tup (aW jG 100)) m h) (aK (λb o=>aA (aL n.args.a b o) ((0
 :Int)<=0) (0<aG n.args/\∃(y:Sl),aJ m h b (o+0) (aM y)/\∃(s t:Sl)(v:PV),DO (λc p=>∃(e:Pred),aA (cN y (eJ n.params (jR n.q.where_.enc))=cN s (eJ t (jR v.enc))) (Ints h s c) (aA (Ints h t p) (eW h e v) (cO (fI c p e) 0 (K (CV.tup (aW jG (fI c p e))) m h) (aK (λf g=>aA (aL n.args.a f g) ((0:Int)<=0) (0<aG n.args/\∃(j:Sl),aJ m h f (g+0) (aM j)/\K (CV.tup (aW (rC j) 0)) m h))))))))))
noncomputable abbrev yW(a:NV):Sl:=a.q.columns
abbrev MW(a:(Nat×br->Prop)->(Nat×br)->Prop)(b:(Nat×br->Prop)->(Nat×br->Nat)->(Nat×br)->Prop):Prop:=∃(x:Nat×br->Prop)(d:Nat×br->Nat),(∃(c:Nat×br),a x c)/\∀(c:Nat×br),b x d c
noncomputable abbrev pO(a:Nat×br):List bm:=oW a.2
attribute [push_cast] yW MW pO
def GX(n:NV)(m:MH)(h:PH)(K:bo):Prop:=
  Cg (bA (xU n.s) (xT n.s) (bA (dT n.params) (fD n.q.op) (bA (pX n.q) (pW n.q) (bA (fD (pZ n.q)) (iZ (jV n.q)) (hX n (hP n)))))) 1 (Gn (v8 (Fs n.q) (AF gA))) (λc k u=>cJ (bA (xU c.s) (xT c.s) (bA (dT c.params) (fD c.q.op) (bA (pX c.q) (pW c.q) (bA (fD (pZ c.q)) (iZ (jV c.q)) (hX c (hP c)))))) (gJ (fQ k) (dL u))) h (λk q E u r=>(fS r↔Cs E k q u)->dN (!r) (K (CV.tup (aW jG 100)) m h) (aG n.q.columns==0) (K (CV.tup (aW jG 100)) m h) (aA (cF 0) (cF (aG n.q.columns)) (aA (z8 (yW n) 8) (yJ (aG (yW n))) (MW (λI x=>aA (I x) dX (aA (eL 25) (aH (yW n)) (aA (bG (yW n)) (bC x.1) (aA (DP n) (wE (pO x)) (dW m m h h))))) (λI f x=>
 I x->aZ (↑x.1:Int) (aG (yW n)) (aK (λb o=>aA (aL (yW n).a b o) (0<=(↑x.1:Int)) ((↑x.1:Int)<aG (yW n)/\∃(y:Int),aJ m h b (bK o x.1 1) (bL y)/\aZ y 0 (K (CV.tup (aW jG 100)) m h) (aK (λg j=>aA (aL n.args.a g j) ((0:Int)<=0) (0<aG n.args/\∃(t:Sl),aJ m h g (j+0) (aM t)/\fO y (aG t) (K (CV.tup (aW jG 100)) m h) (aK (λz A=>aA (aL n.args.a z A) ((0:Int)<=0) (0<aG n.args/\∃(e:Sl),aJ m h z (A+0) (aM e)/\aK (λB C=>aA (aL e.a B C) (0<=y) (y<aG e/\∃(D:Int),aA (aJ m h B (fX C y 1) (bL D)) (Cf (pO x)) (dO (pO x)/\∃(d:Nat×br),aA (I d) (f d<f x) (aA dX (eL 25) (aA (aH (yW n)) (bG (yW n)) (aA (bD (fP (bE x.1 1))
 d.1) (DP n) (dK (wF (pO x) D (pO d)) m m h h)))))))))))))))) (sR h (pO x) K m))))))
noncomputable abbrev jX(a:NV)(b:bm):cq:=pY (bA (xU a.s) (xT a.s) (bA (dT a.params) (fD a.q.op) (bA (pX a.q) (pW a.q) (bA (fD (pZ a.q)) (iZ (jV a.q)) b))))
attribute [push_cast] jX
def GW(n:NV)(m:MH)(h:PH)(K:bo):Prop:=
  ∃(c:NV),DL (λs p q k=>aA (jX n (hX n (hP n))=jX c (hX c (hP c))) (AO h s p q k c) (∀(r:Bool),fA (fS r↔Mz k q) (!r) (K (CV.tup (aW jG 100)) m h) (aK (λb o=>aA (aL n.args.a b o) ((0:Int)<=0) (0<aG n.args/\∃(y:Sl),aJ m h b (o+0) (aM y)/\aK (λe f=>aA (aL n.args.a e f) ((0:Int)<=1) (1<aG n.args/\∃(g:Sl),aA (aJ m h e (f+1) (aM g)) (bT h b (o+0) (aM y)) (bT h e (f+1) (aM g)/\bZ h 1 (aM y::iA (aM g)) (λB t=>∃(u:Sl)(d:List br),aA (gW B=gW u) (bSJ t u d) (aA (d.length<=10) (∀(z:br),List.Mem z d->z.length<=12) (∀(A:Sl)(j:PH),dA t j (Ints j A d.flatten) (K (CV.tup (aW (rC A) 0)) m j))))))))))))
def GV(n:NV)(m:MH)(h:PH)(K:bo):Prop:=
  ∃(c:NV),DL (λs p q k=>aA (jX n (hX n (hP n))=jX c (hX c (hP c))) (AO h s p q k c) (∀(r:Bool),fA (fS r↔Mz k q) (!r) (K (CV.tup (aW jG 100)) m h) (aK (λb o=>aA (aL n.args.a b o) ((0:Int)<=0) (0<aG n.args/\∃(y:Sl),aJ m h b (o+0) (aM y)/\K (CV.tup (aW (rC y) 0)) m h)))))
def KU(n:NV)(m:MH)(h:PH)(K:bo):Prop:=
  Cg (bA (xU n.s) (xT n.s) (bA (dT n.params) (fD n.q.op) (bA (pX n.q) (pW n.q) (bA (fD (pZ n.q)) (iZ (jV n.q)) (hX n (hP n)))))) 2 zV (λc k u=>cJ (bA (xU c.s) (xT c.s) (bA (dT c.params) (fD c.q.op) (bA (pX c.q) (pW c.q) (bA (fD (pZ c.q)) (iZ (jV c.q)) (hX c (hP c)))))) (gJ (fQ k) (dL u))) h (λk q C u r=>fA (fS r↔Cs C k q u) (!r) (K (CV.tup (aW jG 100)) m h) (aK (λb o=>aA (aL n.args.a b o) ((0:Int)<=0) (0<aG n.args/\∃(y:Sl),aJ m h b (o+0) (aM y)/\aK (λd e=>aA (aL n.args.a d e) ((0:Int)<=1) (1<aG n.args/\∃(f:Sl),aJ m h d (e+1) (aM f)/\∃(s:Sl),vE (λt a g=>u9 (cA y f) (cA s t) (Ints h s a) (Ints h t g) (λj=>fA (fS j↔a=g)
 (!j) (K (CV.tup (aW jG 100)) m h) (aK (λz A=>aA (aL n.args.a z A) ((0:Int)<=0) (0<aG n.args/\∃(B:Sl),aJ m h z (A+0) (aM B)/\K (CV.tup (aW (rC B) 0)) m h)))))))))))
abbrev GC(a:Int->Int->Prop):Prop:=∃(x c:Int),a x c
abbrev Km(a:br->bz->Prop):Prop:=∃(x:br)(c:bz),a x c
attribute [push_cast] GC Km
def GU(n:NV)(m:MH)(h:PH)(K:bo):Prop:=
  ∃(e:NV),DL (λs p q k=>aA (jX n (hX n (hP n))=jX e (hX e (hP e))) (AO h s p q k e) (Cg (bA (xU n.s) (xT n.s) (bA (dT n.params) (fD n.q.op) (bA (pX n.q) (pW n.q) (bA (fD (pZ n.q)) (iZ (jV n.q)) (hX n (hP n)))))) 1 (Gn (v8 rV (MG e.q))) (λd f u=>cJ (bA (xU d.s) (xT d.s) (bA (dT d.params) (fD d.q.op) (bA (pX d.q) (pW d.q) (bA (fD (pZ d.q)) (iZ (jV d.q)) (hX d (hP d)))))) (gJ (fQ f) (dL u))) h (λf C D u r=>fA (fS r↔Cs D f C u) (!r) (K (CV.tup (aW jG 100)) m h) (∃(d:NV),DL (λE F j z=>∃(a:br),u9 (jX n (hX n (hP n))) (jX d (hX d (hP d))) (AO h E F j z d) (z[0]? =Option.some a) (λA=>fA (fS A↔
 GC (λo t=>∃(w:Pred)(c:br)(G:bx),Km (λg B=>∃(l:Int)(H:ce),j=Query.mk o t w c G g B l H/\qI a g B l))) (!A) (K (CV.tup (aW jG 100)) m h) (aK (λb o=>aA (aL n.args.a b o) ((0:Int)<=0) (0<aG n.args/\∃(y:Sl),aJ m h b (o+0) (aM y)/\K (CV.tup (aW (rC y) 0)) m h)))))))))
def GS(n:NV)(m:MH)(h:PH)(K:bo):Prop:=
  ∃(e:NV),DL (λs p q k=>aA (jX n (hX n (hP n))=jX e (hX e (hP e))) (AO h s p q k e) (Cg (bA (xU n.s) (xT n.s) (bA (dT n.params) (fD n.q.op) (bA (pX n.q) (pW n.q) (bA (fD (pZ n.q)) (iZ (jV n.q)) (hX n (hP n)))))) 2 (Gn (v8 rV (MG e.q))) (λd B u=>cJ (bA (xU d.s) (xT d.s) (bA (dT d.params) (fD d.q.op) (bA (pX d.q) (pW d.q) (bA (fD (pZ d.q)) (iZ (jV d.q)) (hX d (hP d)))))) (gJ (fQ B) (dL u))) h (λB O P u r=>fA (fS r↔Cs P B O u) (!r) (K (CV.tup (aW jG 100)) m h) (aK (λb o=>aA (aL n.args.a b o) ((0:Int)<=0) (0<aG n.args/\∃(y:Sl),aJ m h b (o+0) (aM y)/\aK (λf j=>aA (aL n.args.a f j) ((0:Int)<=1) (1<aG n.args/\∃(z:
 Sl),aJ m h f (j+1) (aM z)/\∃(C:Sl),vE (λt a D=>u9 (cA y z) (cA C t) (Ints h C a) (Ints h t D) (λE=>fA (fS E↔a=D) (!E) (aA (bT h b (o+0) (aM y)) (bT h f (j+1) (aM z)) (K (CV.tup (aW jG 100)) m h)) (aA (bT h b (o+0) (aM y)) (bT h f (j+1) (aM z)) (∃(d:NV),DL (λQ R F G=>∃(H:br),u9 (jX n (hX n (hP n))) (jX d (hX d (hP d))) (AO h Q R F G d) (G[0]? =Option.some H) (λI=>fA (fS I↔GC (λA S=>∃(w:Pred)(c:br)(T:bx),Km (λg J=>∃(l:Int)(U:ce),F=Query.mk A S w c T g J l U/\qI H g J l))) (!I) (K (CV.tup (aW jG 100)) m h) (aK (λL A=>aA (aL n.args.a L A) ((0:Int)<=0) (0<aG n.args/\∃(M:
 Sl),aJ m h L (A+0) (aM M)/\K (CV.tup (aW (rC M) 0)) m h)))))))))))))))))
theorem To{e:Int}(h:e≠0):fin (eY e)=eY e:=by unfold fin;rw[if_neg (by simpa[eY]using h)];rfl
theorem ZB(l:br):fin (l,0)=mG l:=by unfold fin;rw[if_pos rfl]
structure Tst(K:bo)(m:MH)(h:PH)(full:br×Int):Prop where
 all:∀r,fin r=full->KR K m h r
theorem Tst.err{f:br×Int}{e:Int}(x:Tst K m h f)(d:f=eY e)(g:e≠0)(c:PH.le h h'):K (.tup [.val (.slice none 0 0),.val (.int .i64 e)]) m h':=
 (x.all (eY e) (by rw[d,To g])).err c rfl
theorem Tst.ok{f:br×Int}{sl:Sl}(x:Tst K m h f)(d:f=mG l)(c:PH.le h h')(e:Ints h' sl l):K (.tup [.val (.slice sl.a sl.len sl.cap),.val (.int .i64 0)]) m h':=
 x.all (l,0) (by rw[d,ZB]) sl h' c e
theorem xG(h:¬((ks.length:Int)=arity q.op/\dM q)):AQ s ps q ks=eY 100:=by
 unfold AQ;by_cases c:(ks.length:Int)=arity q.op
 .rw[if_pos c];unfold fH;rw[if_pos (.inr λe=>h ⟨c,e⟩)]
 .rw[if_neg c]
theorem qR{s:mI}{ps:br}{op ta:Int}{w:Pred}{co:br}{on:bx}{gr:br}{od:bz}{li:Int}{args:ce}{ks:List br}(c:(ks.length:Int)=arity op)(d:dM (.mk op ta w co on gr od li args))(f:0<=arity op):
 AQ s ps (.mk op ta w co on gr od li args) ks=fH s ps (.mk op ta w co on gr od li args) (ks.getD 0 []) (ks.getD 1 [])/\¬(arity op<0\/¬dM (.mk op ta w co on gr od li args)):=by
 unfold AQ;rw[if_pos (show(ks.length:Int)=arity (Query.op (.mk op ta w co on gr od li args))from c)];exact⟨rfl,λe=>e.elim (λe=>by omega) λe=>e d⟩
section
variable{n:NV}{s:mI}{ps:br}{ta:Int}{w:Pred}{co:br}{on:bx}{gr:br}{od:bz}{li:Int}{args:ce}{ks:List br}{m:MH}{h:PH}{K:bo}
theorem WR(c:(ks.length:Int)=1):∃a,ks=[a]:=by
 match ks,c with
 |[a],_=>exact⟨a,rfl⟩
 |[],h=>simp at h
 |_::_::_,h=>simp at h;omega
theorem SG(c:(ks.length:Int)=2):∃a b,ks=[a,b]:=by
 match ks,c with
 |[a,b],_=>exact⟨a,b,rfl⟩
 |[],h=>simp at h
 |[_],h=>simp at h
 |_::_::_::_,h=>simp at h;omega
theorem bzJ(f:AO h s ps (.mk 1 ta w co on gr od li args) ks n)(y:nK s)(c:Tst K m h (AQ s ps (.mk 1 ta w co on gr od li args) ks)):GZ n m h K:=by
 dsimp only[GZ,push_cast];have x:=f.q_.parts;have o:=x.table_;have z:=f.s_.tables.slen;refine⟨n,0,⟨0,n.q.table,⟨0,0,dR,dR,⟨none,0,0⟩⟩,⟨none,0,0⟩,⟨none,0,0⟩,⟨none,0,0⟩,⟨none,0,0⟩,0,⟨none,0,0⟩⟩,s,ps,_,ks,.mk 0 ta gS [] [] [] [] 0 [],rfl,f,tV.rep ⟨rfl,o,Dz h,⟨.nil _ _,bg⟩,⟨.nil _ _,bg⟩,⟨.nil _ _,bg⟩,⟨.nil _ _,bg⟩,rfl,.nil _ _ _ _⟩,λr t=>aB (λg=>c.err (xG λe=>?_) aC (.refl _)) (λg=>?_)⟩
 .have:r=true:=t.2 ⟨e.1,by have:=e.2;simp[dM]at this;obtain⟨rfl,rfl,rfl,rfl,rfl,rfl⟩:=this;rfl⟩;rw[this]at g;cases g
 obtain⟨A,d⟩:=t.1 (bj g);simp only[Query.withOf,Query.mk.injEq]at d;obtain⟨_,_,rfl,rfl,rfl,rfl,rfl,rfl,_⟩:=d;obtain⟨B,C⟩:=qR (s:=s) (ps:=ps) (op:=1) (ta:=ta) (w:=gS) (co:=[]) (on:=[]) (gr:=[]) (od:=[]) (li:=0) (args:=args) (ks:=ks) A (by simp[dM]) bh;rw[B]at c;unfold fH at c;rw[if_neg C]at c;dsimp only at c;rw[if_pos rfl]at c;refine aE (λD=>c.err (if_neg aC) aC (.refl _)) (λD=>aE (λE=>c.err (if_neg aC) aC (.refl _)) (λE=>⟨n.s,s,n.q.table,rfl,f.s_,y,λz h' j u=>?_⟩));rw[o]at u;exact c.ok (if_pos aC) j u
theorem bzZ(f:AO h s ps (.mk 2 ta w co on gr od li args) ks n)(c:Tst K m h (AQ s ps (.mk 2 ta w co on gr od li args) ks)):GY n m h K:=by
 dsimp only[GY,push_cast];have x:=f.q_.parts;refine⟨n,1,⟨0,0,n.q.where_,⟨none,0,0⟩,⟨none,0,0⟩,⟨none,0,0⟩,⟨none,0,0⟩,0,⟨none,0,0⟩⟩,s,ps,_,ks,.mk 0 0 w [] [] [] [] 0 [],rfl,f,tV.rep ⟨rfl,rfl,x.where_,⟨.nil _ _,bg⟩,⟨.nil _ _,bg⟩,⟨.nil _ _,bg⟩,⟨.nil _ _,bg⟩,rfl,.nil _ _ _ _⟩,λr u=>aB (λg=>c.err (xG λe=>?_) aC (.refl _)) (λg=>?_)⟩
 .have:r=true:=u.2 ⟨e.1,by have:=e.2;simp[dM]at this;obtain⟨rfl,rfl,rfl,rfl,rfl,rfl⟩:=this;rfl⟩;rw[this]at g;cases g
 obtain⟨y,d⟩:=u.1 (bj g);simp only[Query.withOf,Query.mk.injEq]at d;obtain⟨_,rfl,_,rfl,rfl,rfl,rfl,rfl,_⟩:=d;obtain⟨E,F⟩:=qR (s:=s) (ps:=ps) (op:=2) (ta:=0) (w:=w) (co:=[]) (on:=[]) (gr:=[]) (od:=[]) (li:=0) (args:=args) (ks:=ks) y (by simp[dM]) bh;rw[E]at c;unfold fH at c;rw[if_neg F]at c;dsimp only at c;rw[if_neg bh,if_pos rfl]at c;obtain⟨a,rfl⟩:=WR y;obtain⟨z,A,t,B,C,D,G,H⟩:=f.arg (j:=0) rfl;simp only[getD_cons_zero]at c;refine⟨z,A,B,aC,aC,t,.imm (bj C),t,n.params,n.q.where_,a,ps,w,rfl,D,f.ps_,x.where_,aB (λo=>c.err (if_neg (bj o)) (bj o) (.refl _)) (λo=>⟨z,A,B,aC,aC,t,.imm (bj C),c.ok (if_pos (bj o)) (.refl _) D⟩)⟩
theorem byJ(u:AO h s ps (.mk 5 ta w co on gr od li args) ks n)(d:Tst K m h (AQ s ps (.mk 5 ta w co on gr od li args) ks)):GV n m h K:=by
 dsimp only[GV,push_cast];refine⟨n,s,ps,_,ks,rfl,u,λr y=>aB (λg=>d.err ?_ aC (.refl _)) (λg=>?_)⟩
 .by_cases f:((ks.length:Int)=arity 5/\dM (.mk 5 ta w co on gr od li args))
  .obtain⟨o,t⟩:=qR (s:=s) (ps:=ps) f.1 f.2 bh;rw[o];unfold fH;rw[if_neg t];dsimp only;rw[if_neg bh,if_neg bh,if_neg bh,if_neg bh,if_pos rfl,if_neg];intro c;have e:=f.2;simp[dM]at e;have:r=true:=y.2 ⟨by have:=f.1;simp[arity]at this;omega,e.1,e.2.1,e.2.2.1,e.2.2.2.1,e.2.2.2.2.1,e.2.2.2.2.2,c⟩;rw[this]at g;cases g
  .exact xG f
 obtain⟨z,rfl,rfl,rfl,rfl,rfl,rfl,c⟩:=y.1 (bj g);obtain⟨o,t⟩:=qR (s:=s) (ps:=ps) (op:=5) (ta:=0) (w:=gS) (co:=[]) (on:=on) (gr:=[]) (od:=[]) (li:=0) (args:=args) (ks:=ks) (by rw[z];rfl) (by simp[dM]) bh;rw[o]at d;unfold fH at d;rw[if_neg t]at d;dsimp only at d;rw[if_neg bh,if_neg bh,if_neg bh,if_neg bh,if_pos rfl,if_pos c]at d;obtain⟨a,b,rfl⟩:=SG (ks:=ks) aC;obtain⟨A,B,C,D,E,F,G,H⟩:=u.arg (j:=0) rfl;exact⟨A,B,D,aC,aC,C,.imm (bj E),d.ok rfl (.refl _) F⟩
theorem bzQ(y:AO h s ps (.mk 4 ta w co on gr od li args) ks n)(f:Tst K m h (AQ s ps (.mk 4 ta w co on gr od li args) ks)):GW n m h K:=by
 dsimp only[GW,push_cast];refine⟨n,s,ps,_,ks,rfl,y,λr F=>aB (λz=>f.err ?_ aC (.refl _)) (λz=>?_)⟩
 .by_cases o:((ks.length:Int)=arity 4/\dM (.mk 4 ta w co on gr od li args))
  .obtain⟨A,B⟩:=qR (s:=s) (ps:=ps) o.1 o.2 bh;rw[A];unfold fH;rw[if_neg B];dsimp only;rw[if_neg bh,if_neg bh,if_neg bh,if_pos rfl,if_neg];intro c;have e:=o.2;simp[dM]at e;have:r=true:=F.2 ⟨by have:=o.1;simp[arity]at this;omega,e.1,e.2.1,e.2.2.1,e.2.2.2.1,e.2.2.2.2.1,e.2.2.2.2.2,c⟩;rw[this]at z;cases z
  .exact xG o
 obtain⟨d,rfl,rfl,rfl,rfl,rfl,rfl,c⟩:=F.1 (bj z);obtain⟨A,B⟩:=qR (s:=s) (ps:=ps) (op:=4) (ta:=0) (w:=gS) (co:=[]) (on:=on) (gr:=[]) (od:=[]) (li:=0) (args:=args) (ks:=ks) (by rw[d];rfl) (by simp[dM]) bh;rw[A]at f;unfold fH at f;rw[if_neg B]at f;dsimp only at f;rw[if_neg bh,if_neg bh,if_neg bh,if_pos rfl,if_pos c]at f;obtain⟨a,b,rfl⟩:=SG (ks:=ks) aC;obtain⟨I,J,C,L,G,M,U,V⟩:=y.arg (j:=0) rfl;obtain⟨O,P,D,Q,H,R,W,X⟩:=y.arg (j:=1) rfl;refine⟨I,J,L,aC,aC,C,.imm (bj G),O,P,Q,aC,aC,D,.imm (bj H),bj G,bj H,λS h' g t=>⟨S,[a,b],rfl,⟨⟨[C,D],t,rfl,λj k d=>?_⟩,bg⟩,bg,λk d=>y.len k d,λT e u E=>f.ok (l:=a++b) bg (g.trans u) (bj E)⟩⟩
 match j,d with
 |0,d=>simp at d;subst d;exact⟨C,rfl,M.mono g⟩
 |1,d=>simp at d;subst d;exact⟨D,rfl,R.mono g⟩
 |_+2,d=>simp at d
theorem byZ{op:Int}(y:op=6\/op=7\/op=8)(o:AO h s ps (.mk op ta w co on gr od li args) ks n)(d:Tst K m h (AQ s ps (.mk op ta w co on gr od li args) ks)):KU n m h K:=by
 dsimp only[KU,push_cast];have x:=o.q_.parts;have R:arity op=2:=by rcases y with rfl|rfl|rfl<;>rfl
 have c:op≠1/\op≠2/\op≠3/\op≠4/\op≠5/\op≠9/\op≠10:=by omega
 refine⟨n,2,⟨0,0,⟨0,0,dR,dR,⟨none,0,0⟩⟩,⟨none,0,0⟩,⟨none,0,0⟩,⟨none,0,0⟩,⟨none,0,0⟩,0,⟨none,0,0⟩⟩,s,ps,_,ks,.mk 0 0 gS [] [] [] [] 0 [],rfl,o,tV.rep ⟨rfl,rfl,Dz h,⟨.nil _ _,bg⟩,⟨.nil _ _,bg⟩,⟨.nil _ _,bg⟩,⟨.nil _ _,bg⟩,rfl,.nil _ _ _ _⟩,λr A=>aB (λt=>d.err (xG λe=>?_) aC (.refl _)) (λt=>?_)⟩
 .have B:(ks.length:Int)=arity op:=e.1;have:r=true:=A.2 ⟨aC,by have:=e.2;simp[dM,c]at this;obtain⟨rfl,rfl,rfl,rfl,rfl,rfl,rfl⟩:=this;rfl⟩;rw[this]at t;cases t
 obtain⟨I,f⟩:=A.1 (bj t);simp only[Query.withOf,Query.mk.injEq]at f;obtain⟨_,rfl,rfl,rfl,rfl,rfl,rfl,rfl,_⟩:=f;obtain⟨J,L⟩:=qR (s:=s) (ps:=ps) (op:=op) (ta:=0) (w:=gS) (co:=[]) (on:=[]) (gr:=[]) (od:=[]) (li:=0) (args:=args) (ks:=ks) aC (by simp[dM]) aC;rw[J]at d;unfold fH at d;rw[if_neg L]at d;dsimp only at d;rw[if_neg c.1,if_neg c.2.1,if_neg c.2.2.1,if_neg c.2.2.2.1,if_neg c.2.2.2.2.1,if_neg c.2.2.2.2.2.1,if_neg c.2.2.2.2.2.2]at d;obtain⟨a,b,rfl⟩:=SG I;obtain⟨C,D,z,E,F,G,S,T⟩:=o.arg (j:=0) rfl;obtain⟨M,O,H,B,P,Q,U,V⟩:=o.arg (j:=1) rfl;refine⟨C,D,E,aC,aC,z,.imm (bj F),M,O,B,aC,aC,H,.imm (bj P),z,H,a,b,rfl,G,Q,λW g=>aB (λu=>d.err (if_neg λe=>?_) aC (.refl _)) (λu=>⟨C,D,E,aC,aC,z,.imm (bj F),d.ok (if_pos (g.1 (bj u))) (.refl _) G⟩)⟩;have e:a=b:=e;rw[g.2 e]at u;cases u
theorem bzX(B:AO h s ps (.mk 3 ta w co on gr od li args) ks n)(d:Tst K m h (AQ s ps (.mk 3 ta w co on gr od li args) ks)):GX n m h K:=by
 dsimp only[GX,push_cast];have x:=B.q_.parts;have C:=x.columns_.slen;have H:=x.columns_.len;refine⟨n,1,⟨0,0,⟨0,0,dR,dR,⟨none,0,0⟩⟩,n.q.columns,⟨none,0,0⟩,⟨none,0,0⟩,⟨none,0,0⟩,0,⟨none,0,0⟩⟩,s,ps,_,ks,.mk 0 0 gS co [] [] [] 0 [],rfl,B,tV.rep ⟨rfl,rfl,Dz h,x.columns_,⟨.nil _ _,bg⟩,⟨.nil _ _,bg⟩,⟨.nil _ _,bg⟩,rfl,.nil _ _ _ _⟩,λr I=>aB (λy=>d.err (xG λe=>?_) aC (.refl _)) (λy=>?_)⟩
 .have:r=true:=I.2 ⟨e.1,by have:=e.2;simp[dM]at this;obtain⟨rfl,rfl,rfl,rfl,rfl,rfl⟩:=this;rfl⟩;rw[this]at y;cases y
 obtain⟨J,o⟩:=I.1 (bj y);simp only[Query.withOf,Query.mk.injEq]at o;obtain⟨_,rfl,rfl,_,rfl,rfl,rfl,rfl,_⟩:=o;obtain⟨S,T⟩:=qR (s:=s) (ps:=ps) (op:=3) (ta:=0) (w:=gS) (co:=co) (on:=[]) (gr:=[]) (od:=[]) (li:=0) (args:=args) (ks:=ks) J (by simp[dM]) bh;rw[S]at d;unfold fH at d;rw[if_neg T]at d;dsimp only at d;rw[if_neg bh,if_neg bh,if_pos rfl]at d;obtain⟨a,rfl⟩:=WR J;obtain⟨L,M,O,P,Q,R,l0,j0⟩:=B.arg (j:=0) rfl;have U:=R.slen;simp only[getD_cons_zero]at d;refine aB (λz=>d.err (if_neg λe=>e.1 ((BI C).1 z)) aC (.refl _)) (λz=>?_);have D:co≠[]:=λe=>by rw[(BI C).2 e]at z;cases z
 refine⟨aC,aC,aC,aC,λ⟨i,l⟩=>i<=co.length/\l=(co.take i).map (λc=>a.getD c.toNat 0)/\fC (λ_ c=>EU a c=true) co i,λ⟨i,_⟩=>co.length-i,⟨(0,[]),⟨aC,bg,.zero⟩,MT⟩,?_⟩;rintro⟨i,_⟩ ⟨hi,rfl,t⟩;dsimp only;refine aE (λu=>?_) (λV sl h' E f=>?_)
 .obtain⟨c,A⟩:=eN C u;obtain⟨W,X,F,Y⟩:=x.columns_.at' A;have g:¬EU a c=true->K (.tup [.val (.slice none 0 0),.val (.int .i64 100)]) m h:=λZ=>d.err (if_neg λe=>Z (e.2 i c A)) aC (.refl _);refine⟨W,X,F,aC,u,c,.imm Y,aE (λd2=>g λe=>?_) (λd2=>⟨L,M,P,aC,aC,O,.imm (bj Q),aE (λd3=>g λe=>?_) (λd3=>?_)⟩)⟩
  .have:=eX.1 e;omega
  .have:=eX.1 e;omega
  obtain⟨b2,o2,G,r2⟩:=R.inb (n:=c) aC aC;refine⟨L,M,P,aC,aC,O,.imm (bj Q),b2,o2,G,aC,aC,_,.imm r2,?_,?_,(i+1,(co.take (i+1)).map (λc=>a.getD c.toNat 0)),⟨aC,rfl,t.succ A (eX.2 ⟨aC,aC⟩)⟩,by show co.length-(i+1)<co.length-i;omega,?_⟩
  .simp;omega
  .simp;omega
  .rw[iI A,map_append];exact MT
 .rw[take_of_length_le aC]at f;exact d.ok (if_pos ⟨D,t.all aC⟩) E ⟨f,by simp;omega⟩
theorem byX(d:AO h s ps (.mk 9 ta w co on gr od li args) ks n)(c:Tst K m h (AQ s ps (.mk 9 ta w co on gr od li args) ks)):GU n m h K:=by
 dsimp only[GU,push_cast];have x:=d.q_.parts;refine⟨n,s,ps,_,ks,rfl,d,n,1,⟨0,0,⟨0,0,dR,dR,⟨none,0,0⟩⟩,⟨none,0,0⟩,⟨none,0,0⟩,n.q.group,n.q.order,n.q.limit,⟨none,0,0⟩⟩,s,ps,_,ks,.mk 0 0 gS [] [] gr od li [],rfl,d,tV.rep ⟨rfl,rfl,Dz h,⟨.nil _ _,bg⟩,⟨.nil _ _,bg⟩,x.group_,x.order_,x.limit_,.nil _ _ _ _⟩,λr u=>aB (λo=>c.err (xG λe=>?_) aC (.refl _)) (λo=>?_)⟩
 .have:r=true:=u.2 ⟨e.1,by have:=e.2;simp[dM]at this;obtain⟨rfl,rfl,rfl,rfl⟩:=this;rfl⟩;rw[this]at o;cases o
 obtain⟨y,f⟩:=u.1 (bj o);simp only[Query.withOf,Query.mk.injEq]at f;obtain⟨_,rfl,rfl,rfl,rfl,_,_,_,_⟩:=f;obtain⟨z,A⟩:=qR (s:=s) (ps:=ps) (op:=9) (ta:=0) (w:=gS) (co:=[]) (on:=[]) (gr:=gr) (od:=od) (li:=li) (args:=args) (ks:=ks) y (by simp[dM]) bh;rw[z]at c;unfold fH at c;rw[if_neg A]at c;dsimp only at c;rw[if_neg bh,if_neg bh,if_neg bh,if_neg bh,if_neg bh,if_pos rfl]at c;obtain⟨a,rfl⟩:=WR y;obtain⟨B,C,D,E,F,G,I,J⟩:=d.arg (j:=0) rfl;refine⟨n,s,ps,_,[a],a,rfl,d,rfl,λL g=>aB (λt=>c.err (if_neg λe=>?_) aC (.refl _)) (λt=>⟨B,C,E,aC,aC,D,.imm (bj F),c.ok (if_pos ?_) (.refl _) G⟩)⟩
 .rw[g.2 ⟨_,_,_,_,_,_,_,_,_,rfl,e⟩]at t;cases t
 .obtain⟨_,_,_,_,_,_,_,_,_,e,H⟩:=g.1 (bj t);cases e;exact H
theorem byQ(d:AO h s ps (.mk 10 ta w co on gr od li args) ks n)(c:Tst K m h (AQ s ps (.mk 10 ta w co on gr od li args) ks)):GS n m h K:=by
 dsimp only[GS,push_cast];have x:=d.q_.parts;refine⟨n,s,ps,_,ks,rfl,d,n,2,⟨0,0,⟨0,0,dR,dR,⟨none,0,0⟩⟩,⟨none,0,0⟩,⟨none,0,0⟩,n.q.group,n.q.order,n.q.limit,⟨none,0,0⟩⟩,s,ps,_,ks,.mk 0 0 gS [] [] gr od li [],rfl,d,tV.rep ⟨rfl,rfl,Dz h,⟨.nil _ _,bg⟩,⟨.nil _ _,bg⟩,x.group_,x.order_,x.limit_,.nil _ _ _ _⟩,λr C=>aB (λt=>c.err (xG λe=>?_) aC (.refl _)) (λt=>?_)⟩
 .have:r=true:=C.2 ⟨e.1,by have:=e.2;simp[dM]at this;obtain⟨rfl,rfl,rfl,rfl⟩:=this;rfl⟩;rw[this]at t;cases t
 obtain⟨D,f⟩:=C.1 (bj t);simp only[Query.withOf,Query.mk.injEq]at f;obtain⟨_,rfl,rfl,rfl,rfl,_,_,_,_⟩:=f;obtain⟨J,L⟩:=qR (s:=s) (ps:=ps) (op:=10) (ta:=0) (w:=gS) (co:=[]) (on:=[]) (gr:=gr) (od:=od) (li:=li) (args:=args) (ks:=ks) D (by simp[dM]) bh;rw[J]at c;unfold fH at c;rw[if_neg L]at c;dsimp only at c;rw[if_neg bh,if_neg bh,if_neg bh,if_neg bh,if_neg bh,if_neg bh,if_pos rfl]at c;obtain⟨a,b,rfl⟩:=SG D;obtain⟨E,F,A,G,u,H,S,T⟩:=d.arg (j:=0) rfl;obtain⟨M,O,I,P,B,Q,U,V⟩:=d.arg (j:=1) rfl;refine⟨E,F,G,aC,aC,A,.imm (bj u),M,O,P,aC,aC,I,.imm (bj B),A,I,a,b,rfl,H,Q,λW g=>aB (λy=>⟨bj u,bj B,c.err (if_neg λe=>?_) aC (.refl _)⟩) (λy=>⟨bj u,bj B,n,s,ps,_,[a,b],a,rfl,d,rfl,λX o=>aB (λz=>c.err (if_neg λe=>?_) aC (.refl _)) (λz=>⟨E,F,G,aC,aC,A,.imm (bj u),c.ok (if_pos ⟨g.1 (bj y),?_⟩) (.refl _) H⟩)⟩)⟩
 .have e:a=b:=e.1;rw[g.2 e]at y;cases y
 .rw[o.2 ⟨_,_,_,_,_,_,_,_,_,rfl,e.2⟩]at z;cases z
 .obtain⟨_,_,_,_,_,_,_,_,_,e,R⟩:=o.1 (bj z);cases e;exact R
end
end Go.Ps
