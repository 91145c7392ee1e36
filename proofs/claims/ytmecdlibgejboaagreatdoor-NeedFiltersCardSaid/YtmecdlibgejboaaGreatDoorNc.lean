/-
  Part 3 of a proof that a law of the given program returns true: a condition generator that is proved sound, and contracts of functions. No condition of its own. Own work, joined by a program (pack2.py).
-/
import Derived.Test.YtmecdlibgejboaaGreatDoorNb
set_option linter.unusedVariables false
set_option linter.unusedSimpArgs false
namespace Go.Ps
open Go Go.Vc Go.Proofs List Tryz
variable{K:bu}{m:MH}{h:PH}{ps:bt}{cb:Nat}{sc:cN}{v:QV}{p:Pred}{l:bt}{i:Nat}{N:Nat}{m':MH}{h':PH}{co:bt}{gr:bt}{od:ca}{ta:Int}{li:Int}{xs:List bw}{sz:Nat}{ks:List bt}{rs:bt}{r:Sl}{a:bt}{b:Nat}
structure Ref where
 columns:bt
 table:Int
structure yB where
 name:ByteArray
 columns:List nP
 key:Int
 refs:List Ref
 checks:cq
structure iJ where
 version:Int
 tables:List yB
variable{s:iJ}
structure SB(h:PH)(r:Ref)(v:EX):Prop where
 columns:Ints h v.columns r.columns
 table:v.table=r.table
def E0(h:PH)(s:Sl)(l:List nP):Prop:=bV h 2 nP.enc Eq s l
structure OE(h:PH)(t:yB)(v:cM):Prop where
 name:v.name=t.name
 columns:E0 h v.columns t.columns
 key:v.key=t.key
 refs:bV h 2 EX.enc (SB h) v.references t.refs
 checks:FO h v.checks t.checks
structure gA(h:PH)(s:iJ)(v:cN):Prop where
 version:v.version=s.version
 tables:bV h 5 cM.enc (OE h) v.tables s.tables
theorem SB.mono{r:Ref}{v:EX}(x:SB h r v)(le:PH.le h h'):SB h' r v:=⟨x.columns.mono le,x.table⟩
theorem OE.mono{t:yB}{v:cM}(x:OE h t v)(le:PH.le h h'):OE h' t v:=
 ⟨x.name,bV.mono x.columns le λ_ _ e=>e,x.key,x.refs.mono le λ_ _ e=>e.mono le,x.checks.mono le⟩
theorem gA.mono{v:cN}(x:gA h s v)(le:PH.le h h'):gA h' s v:=⟨x.version,x.tables.mono le λ_ _ e=>e.mono le⟩
def lower(c:Nat):Bool:=97<=c&&c<=122
def xK(c:Nat):Bool:=lower c||(48<=c&&c<=57)||c==95
def pW(s:ByteArray):cu:=s.data.toList.map UInt8.toNat
def nT(s:ByteArray):Bool:=1<=s.size&&s.size<=32&&lower ((pW s).headD 0)&&(pW s).all xK
theorem Q9(s:ByteArray):(pW s).length=s.size:=by simp[pW]
theorem ajQ{s:ByteArray}{c:Nat}(h:(pW s)[i]? =some c):(s.get! i).toNat=c/\c<256:=by
 simp only[pW,getElem?_map,Option.map_eq_some_iff]at h;obtain⟨b,d,rfl⟩:=h;refine⟨?_,b.toNat_lt⟩
 have f:i<s.data.size:=by
  have:=(List.getElem?_eq_some_iff.1 d).1;simpa using this
 have:s.data[i]? =some b:=bo d
 cases s with
 |mk e=>
  show(e[i]!).toNat=b.toNat;rw[getElem!_def,this]
theorem KW{s:ByteArray}(h:(s.get! i).toNat<128):Utf8.decode s i=((s.get! i).toNat,1):=by
 simp only[Utf8.decode,Nat.add_zero];rw[if_pos h]
theorem aiJ{s:ByteArray}(h:¬(s.get! i).toNat<128):128<=(Utf8.decode s i).1:=by
 simp only[Utf8.decode,Nat.add_zero];rw[if_neg h]
 repeat' split
 all_goals simp_all [Utf8.runeError]
 all_goals omega
def U7(s:ByteArray):CV:=.val (.string s)
def YQ:Vc.Spec:=λc m h K=>∃s,c=[U7 s]/\K (cB (nT s)) m h
noncomputable def aHX(s:ByteArray)(m:MH)(h:PH):Ctx:=
 ctx [] [(4,{A:=Nat×Nat×MH,st:=λx=>bY 44 45 [(15,vv (.pointer (some ⟨x.2.1,0,none⟩)))] [] x.2.2 h,inv:=λx=>x.1<=s.size/\fC m h x.2.1/\iV m x.2.2 x.2.1 (.stringIter s x.1)/\(x.1=0\/lower ((pW s).headD 0)=true)/\((pW s).take x.1).all xK=true,mu:=λx=>s.size-x.1})] [] [] false
noncomputable def aIX(s:ByteArray)(m:MH)(h:PH):Ctx:=
 ctx [] [Fs 4 (λi=>bY 50 51 [(0,vv (.string s)),(3,iv i)] [] m h) (λi=>i<=s.size/\((pW s).take i).all xK=true) (λi=>s.size-i)] [] [] false
abbrev MF(a b:(Nat×Nat×MH)->Prop):Prop:=(∃(x:Nat×Nat×MH),a x)/\∀(x:Nat×Nat×MH),b x
abbrev mA(a b c:Prop)(d e:PH):Prop:=aA a b (aA c (d=e) True)
noncomputable abbrev iL(a:Nat×Nat×MH):Nat:=a.2.1
noncomputable abbrev gQ(a:Nat×Nat×MH):Nat->Option Obj:=a.2.2
abbrev B6(a:Nat×Nat×MH)(b:ByteArray)(c:MH)(d:PH):Prop:=aA (a.1<=b.size) (fC c d (iL a)) (aA (iV c (gQ a) (iL a) (Obj.stringIter b a.1)) (a.1=0\/C4 (lower (headD (pW b) 0))) (C4 (List.all (List.take a.1 (pW b)) xK)))
abbrev eU(a b:Nat):Prop:=sQo a 0=sQo b 0
noncomputable abbrev DC(a:ByteArray)(b:Nat):Nat:=(Utf8.decode a b).1
abbrev Ga(a:(Nat×Nat×MH)->Prop)(b:ByteArray)(c:Nat×Nat×MH)(d:MH)(e:PH):Prop:=∃(x:Nat×Nat×MH),aA (a x) (b.size-x.1<b.size-c.1) (aA (eU (iL c) (iL x)) (d=gQ x) (bD e e))
attribute [push_cast] MF mA iL gQ B6 eU DC Ga
def KG(s:ByteArray)(m:MH)(h:PH)(K:bu):Prop:=
  bA (↑s.size:Int) 1 (K bB m h) (gM (↑s.size:Int) 32 (K bB m h) (∀(b:Nat)(e:MH),fC m h b->iV m e b (Obj.stringIter s 0)->MF (λx=>mA (B6 x s m h) (eU b (iL x)) (e=gQ x) h h) (λx=>B6 x s m h->∃(c:ByteArray)(p:Nat),aA (MAt (gQ x) (iL x) (Obj.stringIter c p)) (c.size<=p->fJ K (gQ x) h) (p<c.size->∀(d:MH),iV (gQ x) d (iL x) (Obj.stringIter c (p+(Utf8.decode c p).2))->dJ (decide ((↑(DC c p):Int)>=97)) (qB (decide ((↑(DC c p):Int)<=122)) (dJ ((↑p:Int)==0) (K bB d h) ((↑(DC c p):Int) !=95) (bA (↑(DC c p):Int) 48 (K bB d h) (gM (↑(DC c p):Int) 57 (K bB d h) (Ga (λy=>B6 y s m h) s x d h))) (Ga (λy=>B6 y s m h) s x d h)) (Ga (λy=>B6 y s m h) s x
 d h)) ((↑p:Int)==0) (K bB d h) (dC (↑(DC c p):Int) 95 (bA (↑(DC c p):Int) 48 (K bB d h) (gM (↑(DC c p):Int) 57 (K bB d h) (Ga (λy=>B6 y s m h) s x d h))) (Ga (λy=>B6 y s m h) s x d h))))))
abbrev mS(a:Bool)(b:Prop)(c d:Int)(e g:Prop):Prop:=dJ a b (decide (c>d)) e g
abbrev Mk(a:Prop)(b:ByteArray)(c:Nat)(d:UInt8->UInt8)(e:UInt8->Prop):Prop:=a/\∃(x:UInt8),b.data.toList[c]? =Option.some (d x)/\e x
noncomputable abbrev wY(a:UInt8):Int:=(↑a.toNat:Int)
abbrev yK(a:Nat)(b:ByteArray):Prop:=a<=b.size/\C4 (List.all (List.take a (pW b)) xK)
attribute [push_cast] mS Mk wY yK
def Qx(s:ByteArray)(m:MH)(h:PH)(K:bu):Prop:=
  mS ((↑s.size:Int)==0) (K bB m h) (↑s.size:Int) 32 (K bB m h) (Mk (bZ 0) s 0 (λb=>b) (λb=>bA (↑b.toNat:Int) 97 (K bB m h) (Mk (bZ 0) s 0 (λd=>d) (λd=>gM (wY d) 122 (K bB m h) (jO (∃(x:Nat),aA (yK x s) (eQ (SV.at (K6 s))) (aA (bF x) (m=m) (bD h h))) (λx=>yK x s->bA (↑x:Int) (↑s.size:Int) (Mk (bZ (↑x:Int)) s (↑x:Int).toNat (λc=>c) (λc=>bA (↑c.toNat:Int) 97 (bA (↑c.toNat:Int) 48 (dC (wY c) 95 (K bB m h) (∃(y:Nat),aA (yK y s) (s.size-y<s.size-x) (aA (eQ (SV.at (K6 s))) (fU (bG x 1)=bP y) (bS (m=m) h h)))) (gM (wY c) 57 (dC (wY c) 95 (K bB m h) (∃(y:Nat),aA (yK y s) (s.size-y<s.size-x) (aA (eQ (SV.at (K6 s))) (fU (bG x 1)=bP y) (bS (m
 =m) h h)))) (∃(y:Nat),aA (yK y s) (s.size-y<s.size-x) (aA (eQ (SV.at (K6 s))) (fU (bG x 1)=bP y) (bS (m=m) h h))))) (gM (wY c) 122 (bA (↑c.toNat:Int) 48 (dC (wY c) 95 (K bB m h) (∃(y:Nat),aA (yK y s) (s.size-y<s.size-x) (aA (eQ (SV.at (K6 s))) (fU (bG x 1)=bP y) (bS (m=m) h h)))) (gM (wY c) 57 (dC (wY c) 95 (K bB m h) (∃(y:Nat),aA (yK y s) (s.size-y<s.size-x) (aA (eQ (SV.at (K6 s))) (fU (bG x 1)=bP y) (bS (m=m) h h)))) (∃(y:Nat),aA (yK y s) (s.size-y<s.size-x) (aA (eQ (SV.at (K6 s))) (fU (bG x 1)=bP y) (bS (m=m) h h))))) (∃(y:Nat),aA (yK y s) (s.size-y<s.size-x) (aA (eQ (SV.at (K6 s))) (fU (bG x 1)=bP y) (bS (m=m) h h)))))) (fJ K m h)))))))
def kE(h:PH)(K:bu):CV->MH->PH->Prop:=λr m' h'=>∃d c,(∀b o,d b=some o->m' b=some o)/\PH.le h c/\PH.le c h'/\K r d c
theorem kE.here{r:CV}(c:K r m h):kE h K r m h:=⟨m,h,λ_ _ e=>e,.refl _,.refl _,c⟩
theorem kE.sub{r:CV}(c:∀b o,m b=some o->m' b=some o)(d:K r m h):kE h K r m' h:=⟨m,h,c,.refl _,.refl _,d⟩
theorem iV.keeps{o:Obj}(f:fC m h b)(g:iV m m' b o):∀b o,m b=some o->m' b=some o:=λd n e=>by
 have c:d≠b:=λj=>by rw[j,f.m_]at e;cases e
 rw[g.other d c,e]
theorem WW:br 152 YQ:=by
 refine EU func152 ?_;rintro Q m h K ⟨s,rfl,B⟩;refine⟨aHX s m h,rfl,aH,KG s m h (kE h K),bi,?_⟩;show KG s m h (kE h K);dsimp only[KG,push_cast];have Y:=Q9 s;refine aF (λR=>?_) (λR=>aF (λS=>?_) (λS b T A C=>?_))
 .refine .here (iW B ?_);have:¬1<=s.size:=by omega
  simp[nT,this]
 .refine .here (iW B ?_);have:¬s.size<=32:=by omega
  simp[nT,this]
 refine⟨⟨(0,b,T),⟨bj,A,C,.inl rfl,bj⟩,MT⟩,?_⟩;rintro⟨d,b,Z⟩ ⟨U,A,n,f,g⟩;simp only at U A n f g;refine⟨s,d,⟨n.at_⟩,λV=>?_,λW H D=>?_⟩
 .refine .sub (iV.keeps A n) (iW B ?_);rw[take_of_length_le aD]at g
  have X:lower ((pW s).headD 0)=true:=by
   rcases f with e|e
   .omega
   .exact e
  have I:1<=s.size:=by omega
  have J:s.size<=32:=by omega
  simp only[nT,g,X,decide_eq_true I,decide_eq_true J];rfl
 .have o:=n.trans D;obtain⟨c,t⟩:∃c,(pW s)[d]? =some c:=⟨(pW s)[d]'(by omega),getElem?_eq_getElem _⟩
  obtain⟨P,L⟩:=ajQ t
  have u:d=0->(pW s).headD 0=c:=λe=>by
   subst e;cases E:pW s with
   |nil=>rw[E]at t;simp at t
   |cons x l=>rw[E]at t;simp at t;simpa using t
  have F:¬((97<=(Utf8.decode s d).1/\(Utf8.decode s d).1<=122)\/(d≠0/\((Utf8.decode s d).1=95\/(48<=(Utf8.decode s d).1/\(Utf8.decode s d).1<=57))))->kE h K (.val (.bool false)) H h:=by
   intro M;refine .sub (iV.keeps A o) (iW B ?_);by_cases j:(s.get! d).toNat<128
   .rw[KW j,P]at M;by_cases O:d=0
    .have:lower c=false:=by
      simp only[lower,Bool.and_eq_false_iff,decide_eq_false_iff_not];simp only at M;omega
     simp only[nT,u O,this,Bool.and_false,Bool.false_and]
    .have:xK c=false:=by
      simp only[xK,lower,Bool.or_eq_false_iff,Bool.and_eq_false_iff,decide_eq_false_iff_not,beq_eq_false_iff_ne];simp only at M;omega
     simp[nT,Cz t this]
   .have:xK c=false:=by
     simp only[xK,lower,Bool.or_eq_false_iff,Bool.and_eq_false_iff,decide_eq_false_iff_not,beq_eq_false_iff_ne];omega
    simp[nT,Cz t this]
  have G:((97<=(Utf8.decode s d).1/\(Utf8.decode s d).1<=122)\/(d≠0/\((Utf8.decode s d).1=95\/(48<=(Utf8.decode s d).1/\(Utf8.decode s d).1<=57))))->d+1<=s.size/\iV m H b (.stringIter s (d+1))/\lower ((pW s).headD 0)=true/\((pW s).take (d+1)).all xK=true:=by
   intro z
   have j:(s.get! d).toNat<128:=by
    refine Decidable.byContradiction λj=>?_;have:=aiJ j;omega
   rw[KW j]at o;rw[KW j,P]at z;simp only at z;refine⟨aD,o,?_,?_⟩
   .rcases f with e|e
    .rw[u e];simp only[lower,Bool.and_eq_true,decide_eq_true_eq];omega
    .exact e
   .rw[Ah t,g];simp only[xK,lower,Bool.true_and,Bool.or_eq_true,Bool.and_eq_true,decide_eq_true_eq,beq_iff_eq];omega
  have next:((97<=(Utf8.decode s d).1/\(Utf8.decode s d).1<=122)\/(d≠0/\((Utf8.decode s d).1=95\/(48<=(Utf8.decode s d).1/\(Utf8.decode s d).1<=57))))->_:=λz=>(⟨(d+1,b,H),⟨(G z).1,A,(G z).2.1,.inr (G z).2.2.1,(G z).2.2.2⟩,by show s.size-(d+1)<s.size-d;omega,MT⟩:∃(y:Nat×Nat×MH),(y.fst<=s.size/\fC m h y.snd.fst/\iV m y.snd.2 y.snd.fst (Obj.stringIter s y.fst)/\(y.fst=0\/lower ((pW s).headD 0)=true)/\(List.take y.fst (pW s)).all xK=true)/\s.size-y.fst<s.size-d/\SV.at (At.val (Value.pointer (some (Addr.mk b 0 none))))=SV.at (At.val (Value.pointer (some (Addr.mk y.snd.fst 0 none))))/\H=y.snd.2/\h=h/\True)
  clear G o D g f u n C B
  repeat' (first|(refine aC (λ_=>?_) (λ_=>?_))|exact F (by simp only[decide_eq_true_eq,decide_eq_false_iff_not,bne_iff_ne,ne_eq,beq_iff_eq,beq_eq_false_iff_ne,bne_eq_false_iff_eq,Bool.not_eq_true',Bool.not_eq_false']at*;omega)|exact next (by simp only[decide_eq_true_eq,decide_eq_false_iff_not,bne_iff_ne,ne_eq,beq_iff_eq,beq_eq_false_iff_ne,bne_eq_false_iff_eq,Bool.not_eq_true',Bool.not_eq_false']at*;omega))
theorem W0:br 147 YQ:=by
 refine hJ func147 ?_;rintro F m h K ⟨s,rfl,j⟩;refine⟨aIX s m h,rfl,aH,Qx s m h K,bi,?_⟩;dsimp only[Qx,push_cast];have O:=Q9 s;refine aC (λt=>iW j ?_) (λt=>aF (λG=>iW j ?_) (λG=>?_))
 .have:¬1<=s.size:=by have:(s.size:Int)=0:=(bo t);omega
  simp[nT,this]
 .have:¬s.size<=32:=by omega
  simp[nT,this]
 have t:s.size≠0:=by intro e;rw[e]at t;simp at t
 obtain⟨o,d⟩:∃c,s.data.toList[0]? =some c:=⟨s.data.toList[0]'(by simpa using(by omega:0<s.size)),getElem?_eq_getElem _⟩
 have g:(pW s).headD 0=o.toNat:=by
  unfold pW;cases u:s.data.toList with
  |nil=>rw[u]at d;simp at d
  |cons x l=>rw[u]at d;simp at d;simp[d]
 refine⟨aD,o,d,aF (λH=>iW j ?_) (λH=>⟨aD,o,d,aF (λI=>iW j ?_) (λI=>?_)⟩)⟩
 .have:lower o.toNat=false:=by simp only[lower,Bool.and_eq_false_iff,decide_eq_false_iff_not];omega
  simp only[nT,g,this,Bool.and_false,Bool.false_and]
 .have:lower o.toNat=false:=by simp only[lower,Bool.and_eq_false_iff,decide_eq_false_iff_not];omega
  simp only[nT,g,this,Bool.and_false,Bool.false_and]
 refine⟨⟨0,⟨aD,bj⟩,MT⟩,λi A=>aF (λJ=>?_) (λL=>iW j ?_)⟩
 .obtain⟨c,E⟩:∃c,s.data.toList[i]? =some c:=⟨s.data.toList[i]'(by simpa using(by omega:i<s.size)),getElem?_eq_getElem _⟩
  have n:(pW s)[i]? =some c.toNat:=by simp[pW,E]
  have f:xK c.toNat=false->K (.val (.bool false)) m h:=λe=>iW j (by simp[nT,Cz n e]);have next:xK c.toNat=true->∃(y:Nat),(y<=s.size/\(List.take y (pW s)).all xK=true)/\s.size-y<s.size-i/\SV.at (At.val (Value.string s))=SV.at (At.val (Value.string s))/\SV.at (At.val (Value.int IntKind.i64 (IntKind.i64.wrap ((i:Int)+1))))=SV.at (At.val (Value.int IntKind.i64 (y:Int)))/\m=m/\h=h/\True:=λe=>⟨i+1,⟨aD,by rw[Ah n,A.2,e];rfl⟩,aD,MT⟩
  have z:xK c.toNat=true↔(97<=c.toNat/\c.toNat<=122)\/(48<=c.toNat/\c.toNat<=57)\/c.toNat=95:=by
   simp only[xK,lower,Bool.or_eq_true,Bool.and_eq_true,decide_eq_true_eq,beq_iff_eq];omega
  have B:xK c.toNat=false↔¬((97<=c.toNat/\c.toNat<=122)\/(48<=c.toNat/\c.toNat<=57)\/c.toNat=95):=by
   rw[<-z];simp
  refine⟨aD,c,bo E,?_⟩;clear j A g n B;rw[z]at next
  have f:=λe=>f (by rw[<-Bool.not_eq_true,z];exact e);clear z
  repeat' (first|(refine aC (λ_=>?_) (λ_=>?_))|exact f (by simp only[decide_eq_true_eq,decide_eq_false_iff_not,bne_iff_ne,ne_eq,beq_iff_eq,beq_eq_false_iff_ne,bne_eq_false_iff_eq,Bool.not_eq_true',Bool.not_eq_false']at*;omega)|exact next (by simp only[decide_eq_true_eq,decide_eq_false_iff_not,bne_iff_ne,ne_eq,beq_iff_eq,beq_eq_false_iff_ne,bne_eq_false_iff_eq,Bool.not_eq_true',Bool.not_eq_false']at*;omega))
 .have:=A.2;rw[take_of_length_le aD]at this;have M:lower o.toNat=true:=by simp only[lower,Bool.and_eq_true,decide_eq_true_eq];omega
  have C:1<=s.size:=by omega
  have D:s.size<=32:=by omega
  simp only[nT,this,g,M,decide_eq_true C,decide_eq_true D];rfl
theorem RB:Tryz.prog.underlying 9=some .string:=bi
theorem Bm:KeyLaw Tryz.prog 9 (λv=>∃s,v= .string s):=by
 refine⟨⟨_,RB⟩,?_,?_,?_⟩
 .rintro _ w b ⟨s,rfl⟩
  have e:∀n:Nat,(Instr.checkKey b (n+1) 9 (.string s)).run Tryz.prog w= .ok () w:=λn=>by
   unfold Instr.checkKey;simp only[Sem.run_bind,run_underlying RB,Result.andThen];simp
  exact e 9999
 .rintro _ _ w ⟨s,rfl⟩ ⟨t,rfl⟩;refine⟨_,run_equalIn_string w 9999 9 s t RB,?_⟩;rw[beq_iff_eq];exact⟨λe=>by rw[Bi e],λe=>by injection e with e;rw[e]⟩
 .rintro d _ _ r c ⟨s,rfl⟩ ⟨t,rfl⟩ h;rw[RB]at c;cases c;simp only[Instr.sameNow,Option.some.injEq]at h;subst h;rw[beq_toListBytes,beq_iff_eq];exact⟨λe=>by rw[Bi e],λe=>by injection e with e;rw[e]⟩
def fD{α:Type}(T:List α->α->Prop)(l:List α)(i:Nat):Prop:=∀j x,j<i->l[j]? =some x->T (l.take j) x
def Good{α:Type}(T:List α->α->Prop)(l:List α):Prop:=∀(j:Nat) x,l[j]? =some x->T (l.take j) x
theorem fD.zero{α:Type}{T:List α->α->Prop}{l:List α}:fD T l 0:=λ_ _ h=>by omega
theorem fD.succ{α:Type}{T:List α->α->Prop}{l:List α}{x:α}(h:fD T l i)(d:l[i]? =some x)(t:T (l.take i) x):fD T l (i+1):=by
 intro j y f c;by_cases e:j=i
 .subst e;rw[d]at c;cases c;exact t
 .exact h j y aD c
theorem fD.all{α:Type}{T:List α->α->Prop}{l:List α}(h:fD T l i)(d:l.length<=i):Good T l:=λj x c=>h j x (by have:=(List.getElem?_eq_some_iff.1 c).1;omega) c
theorem Good.not{α:Type}{T:List α->α->Prop}{l:List α}{x:α}(c:l[i]? =some x)(t:¬T (l.take i) x):¬Good T l:=λh=>t (h i x c)
def Vt(d:List nP)(c:nP):Prop:=nT c.name=true/\eD c.kind=true/\c.name∉d.map nP.name
def Di(c:List yB)(t:yB):Prop:=nT t.name=true/\1<=t.key/\t.key<=t.columns.length/\t.name∉c.map yB.name/\Good Vt t.columns
def iA(s:iJ)(t:Int):bt:=if t<0 then[]else match s.tables[t.toNat]? with|none=>[]|some t=>t.columns.map nP.kind
def xY(s:iJ)(t:Int):Bool:=decide (0<=t)&&decide (t<s.tables.length)
def aS(v:cN):CV:=.val (.agg ⟨v.enc⟩)
def lK(s:iJ):Prop:=∀t∈s.tables,t.columns.length<=8
def bKZ:Vc.Spec:=λc m h K=>∃v s t,c=[aS v,cI t]/\gA h s v/\K (cB (xY s t)) m h
def uK:Vc.Spec:=λc m h K=>∃v s t,c=[aS v,cI t]/\gA h s v/\lK s/\∀d h',PH.le h h'->Ints h' d (iA s t)->K (cS d) m h'
noncomputable def f59_ctx(m:MH)(h:PH):Ctx:=
 cW [] [(5,{A:=Nat×Sl×bt,st:=λx=>bY 35 37 [(5,.at (.lst 32)),(22,sv x.2.1),(23,iv x.2.1.len),(24,iv x.1)] [(32,.lst 3 1 (x.2.2.map eI))] m h})] [] [] false
noncomputable def baJ(m:MH)(h:PH):Ctx:=
 cW [(143,bKZ)] [(5,{A:=Nat×Sl×bt,st:=λx=>bY 38 40 [(5,.at (.lst 19)),(25,sv x.2.1),(26,iv x.2.1.len),(27,iv x.1)] [(19,.lst 3 1 (x.2.2.map eI))] m h})] [] [] false
noncomputable abbrev i6(a:cN):Int:=aG a.tables
attribute [push_cast] i6
def Qz(v:cN)(t:Int)(m:MH)(h:PH)(K:bu):Prop:=
  fQ t 0 (K (xZ (decide (t<i6 v))) m h) (K bB m h)
noncomputable abbrev tX(a:cN):Option Addr:=a.tables.a
noncomputable abbrev aY(a:Sl):bw:=kL (gU a)
abbrev Mr(a:cN)(b:Int)(c:MH)(d:PH)(e g:Nat->Nat)(i:Nat)(j:Sl->Sl)(k:Sl->(Nat×Sl×bt->Prop)->(Nat×Sl×bt)->Prop)(l:(Nat×Sl×bt->Prop)->(Nat×Sl×bt->Nat)->(Nat×Sl×bt)->Prop):Prop:=aW (λx n=>aI (aX (tX a) x n) (0<=b) (b<aG a.tables) (∃(o:Sl),aU c d (e x) (gC (g n) b 5+i) (aY (j o))/\∃(t:Nat×Sl×bt->Prop)(u:Nat×Sl×bt->Nat),(∃(f:Nat×Sl×bt),k o t f)/\∀(f:Nat×Sl×bt),l t u f))
abbrev bH(a b:Sl):Prop:=sQs a=sQs b
noncomputable abbrev mR(a:Nat×Sl×bt):Sl:=a.2.1
abbrev cF(a b:Sl):Prop:=bP a.len=bP b.len
noncomputable abbrev cH(a b:Nat)(c:List bw):Option Go.Vc.Own:=Option.some (Own.lst a b c)
abbrev tY(a b:Nat)(c:List bw):Prop:=cH a b []=cH a b c
abbrev rJ(a:List bw):Prop:=tY 3 1 a
noncomputable abbrev oE(a:bt):List bw:=List.map eI a
noncomputable abbrev u6(a:Nat×Sl×bt):List bw:=oE a.2.2
abbrev oL(a:Nat):Prop:=a<=140737488355328
abbrev iF(a b:Nat):Prop:=oL (a*b)
noncomputable abbrev jJ(a:List bw)(b:Nat):Nat:=a.length+b
abbrev lO(a:List bw):Prop:=a.length<140737488355328
abbrev Mq(a:Prop)(b:Nat×Sl×bt)(c:Int)(d:Nat->Nat->nP->Prop)(e:nP->(Nat×Sl×bt)->Prop)(g:Prop):Prop:=a->bA (↑b.1:Int) (aG (mR b)) (aW (λx f=>aI (aX (mR b).a x f) (c<=(↑b.1:Int)) ((↑b.1:Int)<aG (mR b)) (∃(j:nP),aI (d x f j) (iF (jJ (u6 b) 1) 8) (lO (u6 b)) (∃(n:Nat×Sl×bt),e j n)))) g
noncomputable abbrev qE(a:ByteArray)(b:Int):bw:=nA (Value.string a) (dY b)
noncomputable abbrev iZ(a:bw):List bw:=[a]
noncomputable abbrev fK(a:List bw)(b:bw):List bw:=a++iZ b
abbrev rK(a:List bw)(b:Int)(c:List bw):Prop:=cH 3 1 (fK a (bJ b))=cH 3 1 c
abbrev cD(a b:PH)(c d:Prop):Prop:=PH.le a b->c->d
abbrev cG(a:Nat->Nat->Option Value)(b:Nat)(c:List bw)(d:Sl->PH->Prop):Prop:=∀(x:Sl)(e:PH),cD a e (dK e x b c) (d x e)
abbrev sW(a:PH)(b:List bw)(c:bu)(d:MH):Prop:=cG a 1 b (λx e=>c (dN x) d e)
attribute [push_cast] tX aY Mr bH mR cF cH tY rJ oE u6 oL iF jJ lO Mq qE iZ fK rK cD cG sW
def an(v:cN)(t:Int)(m:MH)(h:PH)(K:bu):Prop:=
  bA t 0 (K CZ m h) (fQ t (i6 v) (K CZ m h) (Mr v t m h (λb=>b) (λo=>o) 1 (λy=>y) (λy I x=>aA (I x) (eL 32) (aA (bH y (mR x)) (cF y (mR x)) (aA (bF x.1) (rJ (u6 x)) (aA (m=m) (h=h) True)))) (λI d x=>Mq (I x) x 0 (λb o y=>aU m h b (bN o x.1 2) (qE y.name y.kind)) (λy c=>aA (I c) (d c<d x) (aA (eL 32) (bH (mR x) (mR c)) (aA (cF (mR x) (mR c)) (fU (bG x.1 1)=bP c.1) (aA (rK (u6 x) y.kind (u6 c)) (m=m) (bD h h))))) (sW h (u6 x) K m))))
abbrev oG(a:cN->iJ->Prop):Prop:=∃(x:cN)(c:iJ),a x c
noncomputable abbrev bQ(a:cN):CV:=lG (nA (dY a.version) (gU a.tables))
abbrev rF(a:Int):Prop:=a<=281474976710656
abbrev tF(a:Sl)(b:Int):Prop:=rF (aG a*b)
attribute [push_cast] oG bQ rF tF
def Ue(v:cN)(t:Int)(m:MH)(h:PH)(K:bu):Prop:=
  oG (λg s=>∃(j:Int),aA (bT (bQ v) t=bT (bQ g) j) (gA h s g) (qB (xY s j) (K CZ m h) (aW (λb o=>aI (aX (tX v) b o) (0<=t) (t<aG v.tables) (∃(y:Sl),aA (aU m h b (gC o t 5+1) (aY y)) (bZ 0) (aA (bZ (aG y)) (tF y 8) (rF (aG y)/\Mr v t m h (λe=>e) (λf=>f) 1 (λc=>c) (λc I x=>aA (I x) (eL 19) (aA (bH c (mR x)) (cF c (mR x)) (aA (bF x.1) (rJ (u6 x)) (aA (m=m) (h=h) True)))) (λI n x=>Mq (I x) x 0 (λe f c=>aU m h e (bN f x.1 2) (qE c.name c.kind)) (λc d=>aA (I d) (n d<n x) (aA (eL 19) (bH (mR x) (mR d)) (aA (cF (mR x) (mR d)) (fU (bG x.1 1)=bP d.1) (aA (rK (u6 x) c.kind (u6 d)) (m=m) (bD h h))))) (sW h
 (u6 x) K m)))))))))
theorem bO.part{o:Nat}{l:bw}(r:bO h b o l)(k n:Nat):bO h b (o+k) ((l.drop k).take n):=
 ⟨λi v e=>by
  have:l[k+i]? =some v:=by
   rw[getElem?_take]at e;split at e
   .rwa [getElem?_drop]at e
   .cases e
  have:=r.rd (k+i) v this
  rwa [<-Nat.add_assoc]at this⟩
theorem E0.at{s:Sl}{l:List nP}(r:E0 h s l){x:nP}(c:l[i]? =some x):∃b o,s.a=some ⟨b,o,none⟩/\bO h b (o+i*2) (nP.enc x):=by
 obtain⟨b,o,v,e,k,rfl⟩:=bV.at r c;exact⟨b,o,e,k⟩
theorem Fu{t:Int}(h:¬(0<=t/\t<s.tables.length)):iA s t=[]:=by
 unfold iA;split
 .rfl
 .rw[getElem?_eq_none aD]
theorem LG{t:Int}{x:yB}(h:0<=t)(c:s.tables[t.toNat]? =some x):iA s t=x.columns.map nP.kind:=by
 unfold iA;rw[if_neg aD,c]
theorem gA.table{v:cN}(c:gA h s v){t:Int}(f:0<=t)(g:t<(v.tables.len:Int)):∃x b o w,s.tables[t.toNat]? =some x/\v.tables.a=some ⟨b,o,none⟩/\bO h b (o+t.toNat*5) (cM.enc w)/\OE h x w:=by
 have j:=c.tables.slen;have d:s.tables[t.toNat]? =some (s.tables[t.toNat]'(by omega)):=getElem?_eq_getElem _;obtain⟨b,o,w,e,r,k⟩:=c.tables.at d;exact⟨_,b,o,w,d,e,r,k⟩
theorem iH{α β:Type}{f:α->β}{l:List α}{x:α}(c:l[i]? =some x):(l.take (i+1)).map f=(l.take i).map f++[f x]:=by
 rw[take_add_one,c];simp
theorem Oi:br 143 bKZ:=by
 refine hJ func143 ?_;rintro e m h K ⟨v,s,t,rfl,f,d⟩;refine⟨cW [] [] [] [] false,rfl,aH,Qz v t m h K,bi,?_⟩;dsimp only[Qz,push_cast];have g:=f.tables.slen;refine aF (λc=>iW d ?_) (λc=>iW d ?_)
 .have c:0<=t:=c;simp only[xY,g,decide_eq_true c,Bool.true_and]
 .have c:¬0<=t:=by omega
  simp only[xY,decide_eq_false c,Bool.false_and]
theorem aa:br 59 uK:=by
 refine hJ func59 ?_;rintro D m h K ⟨v,s,t,rfl,A,E,n⟩;refine⟨f59_ctx m h,rfl,aH,an v t m h K,bi,?_⟩;dsimp only[an,push_cast];have M:=A.tables.slen;have d:iA s t=[]->K (.val (.slice none 0 0)) m h:=λe=>n ⟨none,0,0⟩ h (.refl _) (by rw[e];exact⟨.nil _ _,bj⟩);refine aF (λF=>d (Fu aD)) (λF=>aF (λG=>d (Fu aD)) (λG=>?_));obtain⟨x,b,o,w,B,H,I,f⟩:=A.table (t:=t) aD aD;have J:=E x (mem_of_getElem? B);have u:=bV.slen f.columns;rw[LG aD B]at n;refine⟨b,o,H,aD,aD,w.columns,.imm (bO.part I 1 1),λ⟨i,y,l⟩=>y=w.columns/\i<=x.columns.length/\l=(x.columns.take i).map nP.kind,λ⟨i,_,_⟩=>x.columns.length-i,⟨(0,w.columns,[]),⟨rfl,bj,bj⟩,MT⟩,?_⟩;rintro⟨i,_,_⟩ ⟨rfl,O,rfl⟩;dsimp only;refine aF (λj=>?_) (λL y h' z g=>?_)
 .obtain⟨c,C⟩:=eF u j;obtain⟨b,o,e,r⟩:=E0.at f.columns C;refine⟨b,o,e,aD,j,c,.imm r,?_,?_,(i+1,w.columns,(x.columns.take (i+1)).map nP.kind),⟨rfl,aD,rfl⟩,by show x.columns.length-(i+1)<x.columns.length-i;omega,?_⟩
  .simp;omega
  .simp;omega
  .rw[iH C,map_append];exact MT
 .rw[take_of_length_le aD]at g;exact n y h' z ⟨g,by simp;omega⟩
theorem GL:br 81 uK:=by
 refine hJ func81 ?_;rintro G m h K ⟨v,s,t,rfl,n,H,u⟩;refine⟨baJ m h,rfl,aE Oi aH,Ue v t m h K,bi,?_⟩;dsimp only[Ue,push_cast];have L:=n.tables.slen;have g:iA s t=[]->K (.val (.slice none 0 0)) m h:=λe=>u ⟨none,0,0⟩ h (.refl _) (by rw[e];exact⟨.nil _ _,bj⟩);refine⟨v,s,t,rfl,n,aC (λy=>g (Fu ?_)) (λy=>?_)⟩
 .simp only[xY,Bool.not_eq_true',Bool.and_eq_false_iff,decide_eq_false_iff_not]at y;omega
 simp only[xY,Bool.not_eq_false',Bool.and_eq_true,decide_eq_true_eq]at y;obtain⟨x,b,o,w,C,D,E,d⟩:=n.table (t:=t) aD aD;have I:=H x (mem_of_getElem? C);have z:=bV.slen d.columns;rw[LG aD C]at u;refine⟨b,o,D,aD,aD,w.columns,.imm (bO.part E 1 1),aD,aD,aD,aD,b,o,D,aD,aD,w.columns,.imm (bO.part E 1 1),λ⟨i,A,l⟩=>A=w.columns/\i<=x.columns.length/\l=(x.columns.take i).map nP.kind,λ⟨i,_,_⟩=>x.columns.length-i,⟨(0,w.columns,[]),⟨rfl,bj,bj⟩,MT⟩,?_⟩;rintro⟨i,_,_⟩ ⟨rfl,M,rfl⟩;dsimp only;refine aF (λj=>?_) (λJ A h' B f=>?_)
 .obtain⟨c,F⟩:=eF z j;obtain⟨b,o,e,r⟩:=E0.at d.columns F;refine⟨b,o,e,aD,j,c,.imm r,?_,?_,(i+1,w.columns,(x.columns.take (i+1)).map nP.kind),⟨rfl,aD,rfl⟩,by show x.columns.length-(i+1)<x.columns.length-i;omega,?_⟩
  .simp;omega
  .simp;omega
  .rw[iH F,map_append];exact MT
 .rw[take_of_length_le aD]at f;exact u A h' B ⟨f,by simp;omega⟩
def Sub(m m':MH):Prop:=∀b o,m b=some o->m' b=some o
theorem Sub.refl(m:MH):Sub m m:=λ_ _ e=>e
theorem Sub.free(h:Sub m m')(c:m' b=none):m b=none:=by
 cases e:m b with
 |none=>rfl
 |some o=>rw[h b o e]at c;cases c
theorem Sub.upd{f:MH}(h:Sub m f)(g:m b=none)(j:∀c,c≠b->m' c=f c):Sub m m':=λc o e=>by
 have d:c≠b:=λn=>by rw[n,g]at e;cases e
 rw[j c d,h c o e]
def La(m:MH)(b:Nat)(c:db):Prop:=vR m b (c.map λn=>(.string n,.bool true))
theorem La.other{e:Nat}{f:db}(h:La m b f)(d:b≠e)(g:∀c,c≠e->m' c=m c):La m' b f:=by
 obtain⟨j,n,o,t⟩:=h.ex;exact⟨j,n,by rw[g b d,o],t⟩
def aWJ:Vc.Spec:=λc m h K=>∃v s,c=[aS v]/\gA h s v/\∀r:Bool,(r=true↔Good Di s.tables)->K (cB r) m h
def aSQ:Vc.Spec:=λc m h K=>∃v s t,∃i:Nat,c=[aS v,cI i]/\gA h s v/\s.tables[i]? =some t/\∀r:Bool,(r=true↔Di (s.tables.take i) t)->K (cB r) m h
noncomputable def a8Q(v:cN)(h:PH):Ctx:=
 cW [(152,YQ)] [(3,{A:=Nat×Nat×MH,st:=λ⟨i,c,d⟩=>bY 79 80 [(3,vv (.map (some c))),(11,sv v.tables),(12,iv v.tables.len),(13,iv i)] [] d h}),
  (10,{A:=Nat×Nat×Nat×Nat×Sl×MH,st:=λ⟨i,k,c,f,e,d⟩=>bY 79 80 [(3,vv (.map (some c))),(6,vv (.map (some f))),(11,sv v.tables),(12,iv v.tables.len),(13,iv i),(45,sv e),(46,iv e.len),(47,iv k)] [] d h})] [] [] false
noncomputable def a8J(v:cN)(i:Nat)(m:MH)(h:PH):Ctx:=
 cW [(147,YQ),(93,aXZ)] [(5,{A:=Nat×cM,st:=λ⟨k,w⟩=>bY 94 96 [(1,iv i),(2,.at (.ptr 2 0)),(5,.at (.ptr 5 0)),(6,iv k)] [(2,.cells 40 (v.enc.map .val)),(5,.cells 82 (w.enc.map .val))] m h}),
  (10,{A:=Nat×cM,st:=λ⟨k,w⟩=>bY 94 96 [(5,.at (.ptr 5 0)),(53,iv w.columns.len),(54,iv k)] [(5,.cells 82 (w.enc.map .val))] m h}),
  (15,{A:=Nat×Nat×cM,st:=λ⟨k,j,w⟩=>bY 94 96 [(5,.at (.ptr 5 0)),(7,iv k),(8,iv j),(53,iv w.columns.len),(54,iv k)] [(5,.cells 82 (w.enc.map .val))] m h})] [] [] false
abbrev B7(a:MH)(b:PH)(c:Nat->MH->Prop):Prop:=∀(x:Nat)(d:MH),fC a b x->iV a d x (Obj.map (Array.mk []) 0)->c x d
abbrev jG(a b:Nat):Prop:=SV.at (At.val (Value.map (Option.some a)))=SV.at (At.val (Value.map (Option.some b)))
abbrev rD(a:cN):Prop:=aJ a.tables
abbrev iU(a:cN):Prop:=bI a.tables
abbrev F5(a:Prop)(b:Nat)(c:cN)(d:Nat->Nat->cM->Prop)(e:Prop):Prop:=a->bA (↑b:Int) (aG c.tables) (aW (λx f=>aI (aX (tX c) x f) (0<=(↑b:Int)) ((↑b:Int)<aG c.tables) (∃(g:cM),d x f g))) e
noncomputable abbrev yY(a:cM):bw:=aR (Value.string a.name) (gU a.columns) (aR (dY a.key) (gU a.references) (aY a.checks))
noncomputable abbrev jU(a:ByteArray):CV:=CV.val (Value.string a)
abbrev nW(a:bu)(b:Nat×Nat×MH)(c:PH):Prop:=a bB (gQ b) c
abbrev Et(a:Value->Prop):Prop:=KeyLaw Proofs.Tryz.prog 9 a
abbrev IA(a:MH)(b:Nat)(c:(Value->Prop)->Prop)(d:(Value×Bool)->Prop)(e:Prop)(g:(List (Value×Bool))->Bool->Prop):Prop:=∃(x:List (Value×Bool))(j:Value->Prop),aA (vR a b (List.map (fun(f:Value×Bool)=>(f.1,Value.bool f.2)) x)) (Et j) (aA (c j) (∀(f:Value×Bool),List.Mem f x->j f.1) (((∀(f:Value×Bool),List.Mem f x->d f->False)->e)/\∀(f:Bool),g x f))
noncomputable abbrev zE(a:cM):Value:=Value.string a.name
noncomputable abbrev zM(a:cM):Int:=aG a.columns
abbrev VS(a:ci->(Value->Prop)->Prop):Prop:=∃(x:ci)(c:Value->Prop),a x c
abbrev IZ(a:Nat->Option Obj)(b:Nat)(c:(Value->Prop)->Prop)(d:ci->ci)(e:(Value×Value)->Value×Value)(g:Value)(i:ci->Prop):Prop:=VS (λx j=>aA (vR a b x) (Et j) (aA (c j) (∀(f:Value×Value),List.Mem f x->j f.1) ((∀(f:Value×Value),List.Mem f (d x)->(e f).1=g->False)/\i x)))
noncomputable abbrev CL(a b:Value):ci:=[(a,b)]
noncomputable abbrev Ap:Value:=Value.bool true
noncomputable abbrev CO(a:Nat×Nat×Nat×Nat×Sl×MH):Nat:=a.2.2.2.1
abbrev cJ(a b:Nat):Prop:=bP a=bP b
noncomputable abbrev vE(a:Nat×Nat×Nat×Nat×Sl×MH):Sl:=a.2.2.2.2.1
noncomputable abbrev tW(a:Nat×Nat×Nat×Nat×Sl×MH):Nat->Option Obj:=a.2.2.2.2.2
noncomputable abbrev CJ(a:nP):Value:=Value.string a.name
abbrev Io(a:Nat×Nat×Nat×Nat×Sl×MH)(b:nP)(c:MH->Prop):Prop:=IZ (tW a) (CO a) (λx=>x (CJ b)) (λx=>x) (λx=>x) (CJ b) (λx=>∀(d:MH),pX (tW a) d (CO a)->vR d (CO a) (x++CL (CJ b) Ap)->c d)
abbrev sV(a:nP)(b:Int)(c:Prop)(d:Nat×Nat×Nat×Nat×Sl×MH->Prop)(e:Nat×Nat×Nat×Nat×Sl×MH->Nat)(g:Nat×Nat×Nat×Nat×Sl×MH)(i:cN)(j:(Nat×Nat×Nat×Nat×Sl×MH)->Prop):Prop:=branch (a.kind !=b) c (∃(x:Nat×Nat×Nat×Nat×Sl×MH),aA (d x) (e x<e g) (aA (jG g.2.2.1 x.2.2.1) (jG (CO g) (CO x)) (aA (aJ i.tables) (iU i) (aA (cJ g.1 x.1) (bH (vE g) (vE x)) (j x)))))
abbrev sY(a b:Nat×Nat×Nat×Nat×Sl×MH)(c:MH)(d:PH):Prop:=mA (cF (vE a) (vE b)) (fU (bG a.2.1 1)=bP b.2.1) (c=tW b) d d
attribute [push_cast] B7 jG rD iU F5 yY jU nW Et IA zE zM VS IZ CL Ap CO cJ vE tW CJ Io sV sY
def NX(v:cN)(m:MH)(h:PH)(K:bu):Prop:=
  B7 m h (λb G=>∃(I:Nat×Nat×MH->Prop)(C:Nat×Nat×MH->Nat),MF (λx=>aA (I x) (jG b (iL x)) (aA (rD v) (iU v) (aI (bF x.1) (G=gQ x) (h=h) True))) (λx=>F5 (I x) x.1 v (λH o y=>aU (gQ x) h H (bN o x.1 5) (yY y)/\∃(s:ByteArray),fB (nE (jU y.name) (jU s)) (!(nT s)) (nW K x h) (IA (gQ x) (iL x) (λO=>O (zE y)) (λe=>e.1=zE y) (bA y.key 1 (nW K x h) (gM y.key (zM y) (nW K x h) (IZ (gQ x) (iL x) (λO=>O (zE y)) (λk=>k) (λe=>e) (zE y) (λk=>∀(t:MH),pX (gQ x) t (iL x)->vR t (iL x) (k++CL (zE y) Ap)->B7 t h (λD E=>∃(I1:Nat×Nat×Nat×Nat×Sl×MH->Prop)(n:Nat×Nat×Nat×Nat×Sl×MH->Nat),(∃(c:Nat×
 Nat×Nat×Nat×Sl×MH),aA (I1 c) (jG (iL x) c.2.2.1) (aA (jG D (CO c)) (rD v) (aA (iU v) (cJ x.1 c.1) (aA (bH y.columns (vE c)) (cF y.columns (vE c)) (aI (bF c.2.1) (E=tW c) (h=h) True)))))/\∀(c:Nat×Nat×Nat×Nat×Sl×MH),I1 c->bA (↑c.2.1:Int) (aG (vE c)) (aW (λu z=>aI (aX (vE c).a u z) (0<=(↑c.2.1:Int)) ((↑c.2.1:Int)<aG (vE c)) (∃(g:nP),aU (tW c) h u (bN z c.2.1 2) (qE g.name g.kind)/\∃(A:ByteArray),fB (nE (jU g.name) (jU A)) (!(nT A)) (K bB (tW c) h) (IA (tW c) (CO c) (λO=>O (CJ g)) (λe=>e.1=CJ g) (Io c g (λf=>sV g 3 (sV g 4 (sV g 5 (K bB f h) I1 n c v (λd=>sY c d f h)) I1 n c v (fun
 d=>sY c d f h)) I1 n c v (λd=>sY c d f h))) (λB j=>gL (List.Mem (CJ g,j) B) j (K bB (tW c) h) (Io c g (λf=>sV g 3 (sV g 4 (sV g 5 (K bB f h) I1 n c v (λd=>sY c d f h)) I1 n c v (λd=>sY c d f h)) I1 n c v (λd=>sY c d f h)))))))) (∃(d:Nat×Nat×MH),aA (I d) (C d<C x) (aA (jG c.2.2.1 (iL d)) (rD v) (aA (iU v) (fU (bG c.1 1)=bP d.1) (aA (tW c=gQ d) (h=h) True))))))))) (λk g=>gL (List.Mem (zE y,g) k) g (nW K x h) (bA y.key 1 (nW K x h) (gM y.key (zM y) (nW K x h) (IZ (gQ x) (iL x) (λO=>O (zE y)) (λB=>B) (λe=>e) (zE y) (λB=>∀(t:MH),pX (gQ x) t (iL x)->vR t (iL x) (B++CL
 (zE y) Ap)->B7 t h (λD E=>∃(I1:Nat×Nat×Nat×Nat×Sl×MH->Prop)(n:Nat×Nat×Nat×Nat×Sl×MH->Nat),(∃(c:Nat×Nat×Nat×Nat×Sl×MH),aA (I1 c) (jG (iL x) c.2.2.1) (aA (jG D (CO c)) (rD v) (aA (iU v) (cJ x.1 c.1) (aA (bH y.columns (vE c)) (cF y.columns (vE c)) (aI (bF c.2.1) (E=tW c) (h=h) True)))))/\∀(c:Nat×Nat×Nat×Nat×Sl×MH),I1 c->bA (↑c.2.1:Int) (aG (vE c)) (aW (λu z=>aI (aX (vE c).a u z) (0<=(↑c.2.1:Int)) ((↑c.2.1:Int)<aG (vE c)) (∃(j:nP),aU (tW c) h u (bN z c.2.1 2) (qE j.name j.kind)/\∃(A:ByteArray),fB (nE (jU j.name) (jU A)) (!(nT A)) (K bB (tW c) h) (IA (tW c) (CO c) (λO=>O (CJ j)) (λe=>
 e.1=CJ j) (Io c j (λf=>sV j 3 (sV j 4 (sV j 5 (K bB f h) I1 n c v (λd=>sY c d f h)) I1 n c v (λd=>sY c d f h)) I1 n c v (λd=>sY c d f h))) (λJ F=>gL (List.Mem (CJ j,F) J) F (K bB (tW c) h) (Io c j (λf=>sV j 3 (sV j 4 (sV j 5 (K bB f h) I1 n c v (λd=>sY c d f h)) I1 n c v (λd=>sY c d f h)) I1 n c v (λd=>sY c d f h)))))))) (∃(d:Nat×Nat×MH),aA (I d) (C d<C x) (aA (jG c.2.2.1 (iL d)) (rD v) (aA (iU v) (fU (bG c.1 1)=bP d.1) (aA (tW c=gQ d) (h=h) True)))))))))))) (fJ K (gQ x) h)))
abbrev Ml(a:(Nat×cM->Prop)->(Nat×cM)->Prop)(b:(Nat×cM->Prop)->(Nat×cM->Nat)->(Nat×cM)->Prop):Prop:=∃(x:Nat×cM->Prop)(d:Nat×cM->Nat),(∃(c:Nat×cM),a x c)/\∀(c:Nat×cM),b x d c
noncomputable abbrev Ik(a:cN):At:=iI a.version
noncomputable abbrev Ij(a:cN):At:=oM a.tables
abbrev cE(a:cN):Prop:=eQ (oQ 40 (mN (Ik a) (Ij a)))
noncomputable abbrev rI(a:At):cr:=[a]
noncomputable abbrev gK(a:cM):cr:=fF (K6 a.name) (oM a.columns) (fF (iI a.key) (oM a.references) (rI (oM a.checks)))
abbrev DZ(a:cM)(b:Nat×cM):Prop:=oQ 82 (gK a)=oQ 82 (gK b.2)
abbrev ME(a:Option Addr)(b:Int)(c:Nat)(d:Sl)(e:Nat->Nat->ByteArray->Prop):Prop:=aW (λx f=>aI (aX a x f) (b<=(↑c:Int)) ((↑c:Int)<aG d) (∃(g:ByteArray),e x f g))
noncomputable abbrev rU(a:Nat×Nat×cM):Nat:=a.2.1
noncomputable abbrev lD(a:Nat×Nat×cM):cM:=a.2.2
attribute [push_cast] Ml Ik Ij cE rI gK DZ ME rU lD
def T6(v:cN)(i:Nat)(m:MH)(h:PH)(K:bu):Prop:=
  aW (λb o=>aI (aX (tX v) b o) (0<=(↑i:Int)) ((↑i:Int)<aG v.tables) (∃(y:cM),aU m h b (bN o i 5) (yY y)/\∃(s:ByteArray),nE (jU y.name) (jU s)/\dJ (!(nT s)) (K bB m h) (zM y==0) (K bB m h) (bA y.key 1 (K bB m h) (gM y.key (zM y) (K bB m h) (Ml (λI x=>aA (I x) (eQ (bP i)) (aA fG dL (aA (bF x.1) (cE v) (aA (DZ y x) (m=m) (bD h h))))) (λI n x=>I x->bA (↑x.1:Int) (↑i:Int) (ME (tX v) 0 x.1 v.tables (λg j f=>aU m h g (bN j x.1 5+0) (kL (Value.string f))/\branch (f.toList==x.2.name.toList) (K bB m h) (∃(c:Nat×cM),aA (I c) (n c<n x) (aA (eQ (bP i)) fG (aA dL (fU (bG x.1 1)=bP c.1) (aA (cE v) (DZ x.2 c) (bS (m=m) h h))))))) (Ml (λI1 c
 =>aA (I1 c) dL (aA (cF x.2.columns c.2.columns) (bF c.1) (aI (DZ x.2 c) (m=m) (h=h) True))) (λI1 t c=>I1 c->bA (↑c.1:Int) (aG c.2.columns) (aW (λg j=>aI (aX c.2.columns.a g j) (0<=(↑c.1:Int)) ((↑c.1:Int)<aG c.2.columns) (∃(f:ByteArray),aU m h g (bN j c.1 2+0) (kL (Value.string f))/\∃(u:ByteArray),fB (nE (jU f) (jU u)) (!(nT u)) (K bB m h) (aW (λz A=>aI (aX c.2.columns.a z A) (0<=(↑c.1:Int)) ((↑c.1:Int)<aG c.2.columns) (∃(B:Int),aU m h z (bN A c.1 2+1) (bJ B)/\∃(k:Int),fB (kH B k) (!(eD k)) (K bB m h) (∃(I2:Nat×Nat×cM->Prop)(C:Nat×Nat×cM->Nat),(∃(d:Nat×Nat×cM),aA (I2 d) dL (aA (cJ c.1 d.1) (bF (rU d)) (aA (cF
 c.2.columns (lD d).columns) (cJ c.1 d.1) (aA (oQ 82 (gK c.2)=oQ 82 (gK (lD d))) (m=m) (bD h h)))))/\∀(d:Nat×Nat×cM),I2 d->bA (↑(rU d):Int) (↑d.1:Int) (ME (lD d).columns.a 0 (rU d) (lD d).columns (λF G D=>aU m h F (bN G (rU d) 2+0) (kL (Value.string D))/\ME (lD d).columns.a 0 d.1 (lD d).columns (λH J E=>aU m h H (bN J d.1 2+0) (kL (Value.string E))/\branch (D.toList==E.toList) (K bB m h) (∃(e:Nat×Nat×cM),aA (I2 e) (C e<C d) (aA dL (cJ d.1 e.1) (aA (fU (bG (rU d) 1)=bP (rU e)) (cF (lD d).columns (lD e).columns) (aA (cJ d.1 e.1) (oQ 82 (gK (lD d))=oQ 82 (gK (lD e))) (bS (m=m) h h)))))))) (∃(e:Nat×cM),aA (I1 e) (t e<
 t c) (aA dL (cF (lD d).columns e.2.columns) (aA (fU (bG d.1 1)=bP e.1) (DZ (lD d) e) (aA (m=m) (h=h) True))))))))))) (fJ K m h)))))))))
theorem La.snoc{c:db}{n:ByteArray}(h:vR m b ((c.map λn=>(Value.string n,Value.bool true))++[(.string n,.bool true)])):La m b (c++[n]):=by
 unfold La;rw[map_append];exact h
theorem La.look{c:db}(h:La m b c):vR m b (List.map (λp:Value×Bool=>(p.fst,Value.bool p.snd)) (c.map λn=>(Value.string n,true))):=by
 rw[map_map];exact h
theorem Ii{β:Type}{c:db}{x:β}:∀e:Value×β,e∈(c.map λn=>(Value.string n,x))->∃s,e.fst= .string s:=λe d=>by
 obtain⟨n,_,rfl⟩:=mem_map.1 d;exact⟨n,rfl⟩
theorem TH{β:Type}{c:db}{x:β}{n:ByteArray}(h:n∉c):∀e:Value×β,e∈(c.map λn=>(Value.string n,x))->e.fst= .string n->False:=λe d h'=>by
 obtain⟨f,g,rfl⟩:=mem_map.1 d;exact h (by have:f=n:=(by injection h');rwa [<-this])
theorem F4{β:Type}{c:db}{x:β}{n:ByteArray}(h:∀e:Value×β,e∈(c.map λn=>(Value.string n,x))->e.fst= .string n->False):n∉c:=λd=>h (.string n,x) (mem_map.2 ⟨n,d,rfl⟩) rfl
theorem TI{β:Type}{c:db}{x y:β}{n:ByteArray}(h:(Value.string n,y)∈(c.map λn=>(Value.string n,x))):n∈c/\y=x:=by
 obtain⟨d,f,e⟩:=mem_map.1 h;injection e with e1 e2;injection e1 with e1;exact⟨by rwa [<-e1],e2.symm⟩
theorem ZF:br 96 aWJ:=by
 refine EU func96 ?_;rintro b0 m h K ⟨v,s,rfl,hs,hK⟩;refine⟨a8Q v h,rfl,aE WW aH,NX v m h (kE h K),bi,?_⟩;show NX v m h (kE h K);dsimp only[NX,push_cast];have hl:=hs.tables.slen;have a9:=hs.tables.len;have hf:¬Good Di s.tables->K (cB false) m h:=λh=>hK false ⟨λe=>(by cases e),λe=>(h e).elim⟩;intro b m1 hb U;refine⟨λ⟨i,C,mx⟩=>i<=s.tables.length/\Sub m mx/\m C=none/\La mx C ((s.tables.take i).map yB.name)/\fD Di s.tables i,λ⟨i,_,_⟩=>s.tables.length-i,⟨(0,b,m1),⟨aD,(Sub.refl m).upd hb.m_ U.other,hb.m_,⟨_,_,U.at_,rfl⟩,.zero⟩,MT⟩,?_⟩;rintro⟨i,C,mx⟩ ⟨hi,n,V,E,u⟩;dsimp only;refine aF (λW=>?_) (λb3=>.sub n (hK true ⟨λ_=>u.all aD,λ_=>rfl⟩));obtain⟨t,X⟩:=eF hl W;obtain⟨bb,o,w,ea,hr,f⟩:=hs.tables.at X;have a4:=bV.slen f.columns;have b4:=bV.len f.columns;have x:=f.name;have Y:=f.key;have bad:¬Di (s.tables.take i) t->kE h K (.val (.bool false)) mx h:=λhn=>.sub n (hf (Good.not X hn));have Z:t.name∉(s.tables.take i).map yB.name->nT w.name=true->1<=w.key->w.key<=w.columns.len->Good Vt t.columns->Di (s.tables.take i) t:=λS h2 h3 h4 h5=>⟨by rw[<-x];exact h2,by rw[<-Y];exact h3,by rw[<-Y];omega,S,h5⟩
 refine⟨bb,o,ea,aD,W,w,.imm hr,w.name,rfl,aC (λS=>bad λg=>?_) (λS=>⟨_,_,E.look,Bm,⟨_,rfl⟩,Ii,λa'=>aF (λh2=>bad λg=>?_) (λh2=>aF (λh3=>bad λg=>?_) (λh3=>⟨_,_,E,Bm,⟨_,rfl⟩,Ii,TH (F4 a'),λm2 a5 z T m3 J L=>?_⟩)),λy hy=>?_⟩)⟩
 .have:=g.1;rw[<-x]at this;rw[this]at S;cases S
 .have:=g.2.1;omega
 .have:=g.2.2.1;omega
 .have z:=La.snoc z;have j:Sub m m2:=n.upd V a5.other;have M:Sub m m3:=j.upd (j.free J.m_) L.other
  have a0:C≠T:=λe=>by
   obtain⟨es,cl,e1,_⟩:=z.ex;rw[e,J.m_]at e1;cases e1
  have a1:t.name∉(s.tables.take i).map yB.name:=by rw[<-x];exact F4 a'
  rw[x, <-iH X]at z
  refine⟨λ⟨i',k,a6,a7,sl,O⟩=>i'=i/\a6=C/\a7=T/\sl=w.columns/\k<=t.columns.length/\Sub m O/\La O C ((s.tables.take (i+1)).map yB.name)/\La O T ((t.columns.take k).map nP.name)/\fD Vt t.columns k,λ⟨_,k,_,_,_,_⟩=>t.columns.length-k,
   ⟨(i,0,C,T,w.columns,m3),⟨rfl,rfl,rfl,rfl,aD,M,z.other a0 L.other,⟨_,_,L.at_,rfl⟩,.zero⟩,MT⟩,?_⟩
  rintro⟨i,k,C,T,_,O⟩ ⟨rfl,rfl,rfl,rfl,hk,d,F,G,a2⟩;dsimp only;refine aF (λH=>?_) (λb'=>?_)
  .obtain⟨c,hc⟩:=eF a4 H;obtain⟨bc,oc,ec,rc⟩:=E0.at f.columns hc;have A:∀mz,Sub m mz->¬Vt (t.columns.take k) c->kE h K (.val (.bool false)) mz h:=λmz hz hn=>.sub hz (hf (Good.not X (λg=>Good.not hc hn g.2.2.2.2)));refine⟨bc,oc,ec,aD,H,c,.imm rc,c.name,rfl,aC (λh4=>A O d λg=>?_) (λh4=>⟨_,_,G.look,Bm,⟨_,rfl⟩,Ii,λI=>⟨_,_,G,Bm,⟨_,rfl⟩,Ii,TH (F4 I),λm4 a3 D=>?_⟩,λy hy=>?_⟩)⟩
   .rw[g.1]at h4;cases h4
   .have D:=La.snoc D;rw[<-iH hc]at D;have B:Sub m m4:=d.upd (j.free J.m_) a3.other;have P:eD c.kind=true->Vt (t.columns.take k) c:=λe=>⟨bo h4,e,F4 I⟩
    have Q:eD c.kind=false->¬Vt (t.columns.take k) c:=λe g=>by rw[g.2.1]at e;cases e
    have a8:=F.other a0 a3.other
    repeat' (first|(refine aC (λ_=>?_) (λ_=>?_))|(refine A m4 B (Q ?_);simp_all [eD];done)|exact⟨(i,k+1,C,T,w.columns,m4),⟨rfl,rfl,rfl,rfl,by show k+1<=t.columns.length;omega,B,a8,D,a2.succ hc (P (by simp_all [eD]))⟩,by show t.columns.length-(k+1)<t.columns.length-k;omega,MT⟩)
   .obtain⟨R,rfl⟩:=TI hy;exact aC (λ_=>A O d λg=>g.2.2 R) (λe=>by cases e)
  .refine⟨(i+1,C,O),⟨aD,d,V,F,u.succ X (Z a1 (bo S) aD aD (a2.all aD))⟩,?_,MT⟩;show s.tables.length-(i+1)<s.tables.length-i;omega
 .obtain⟨R,rfl⟩:=TI hy;exact aC (λ_=>bad λg=>g.2.2.2.1 (by rw[<-x];exact R)) (λe=>by cases e)
theorem Nq{α:Type}{f:α->ByteArray}{l:List α}{x:α}{n:ByteArray}(c:l[i]? =some x)(h:n∉(l.take i).map f)(d:f x≠n):n∉(l.take (i+1)).map f:=by
 rw[iH c,mem_append];rintro(e|e)
 .exact h e
 .simp at e;exact d e.symm
theorem bsQ{α:Type}{f:α->ByteArray}{l:List α}{k:Nat}{x:α}{n:ByteArray}(c:l[i]? =some x)(d:i<k)(e:f x=n):n∈(l.take k).map f:=
 mem_map.2 ⟨x,mem_of_getElem? (i:=i) (by rw[getElem?_take,if_pos d,c]),e⟩
theorem ZI:br 91 aSQ:=by
 refine hJ func91 ?_;rintro a2 m h K ⟨v,s,t,i,rfl,F,W,X⟩;refine⟨a8J v i m h,rfl,aE W0 (aE PI aH),T6 v i m h K,bi,?_⟩;dsimp only[T6,push_cast];have hl:=F.tables.slen;have Y:=F.tables.len;have a3:i<s.tables.length:=(List.getElem?_eq_some_iff.1 W).1;have bad:¬Di (s.tables.take i) t->K (.val (.bool false)) m h:=λh=>X false ⟨λe=>(by cases e),λe=>(h e).elim⟩;obtain⟨bb,o,w,ea,hr,d⟩:=F.tables.at W;have L:=bV.slen d.columns;have a4:=bV.len d.columns;have z:=d.name;have a5:=d.key;refine⟨bb,o,ea,aD,aD,w,.imm hr,w.name,rfl,aC (λG=>bad λf=>?_) (λG=>aC (λZ=>bad λf=>?_) (λZ=>aF (λh3=>bad λf=>?_) (λh3=>aF (λh4=>bad λf=>?_) (λh4=>?_))))⟩
 .have:=f.1;rw[<-z]at this;rw[this]at G;cases G
 .have:=f.2.1;have:=f.2.2.1;have:(w.columns.len:Int)=0:=(bo Z);omega
 .have:=f.2.1;omega
 .have:=f.2.2.1;omega
 refine⟨λ⟨k,B⟩=>B=w/\k<=i/\t.name∉(s.tables.take k).map yB.name,λ⟨k,_⟩=>i-k,⟨(0,w),⟨rfl,aD,bj⟩,MT⟩,?_⟩;rintro⟨k,w⟩ ⟨rfl,hk,E⟩;dsimp only;refine aF (λg=>?_) (λa6=>?_)
 .obtain⟨t',C⟩:∃t',s.tables[k]? =some t':=⟨s.tables[k]'(by omega),getElem?_eq_getElem _⟩
  obtain⟨b',o',B,M,O,n⟩:=F.tables.at C;refine⟨b',o',M,aD,aD,B.name,.imm (bO.part O 0 1),aC (λe=>bad λf=>?_) (λe=>?_)⟩
  .refine f.2.2.2.1 (bsQ C aD ?_);rw[<-n.name, <-z];exact Bi (bo e)
  .refine⟨(k+1,w),⟨rfl,aD,Nq C E λH=>?_⟩,by show i-(k+1)<i-k;omega,MT⟩;rw[<-n.name, <-z]at H;rw[H]at e;simp at e
 .have P:k=i:=by omega
  subst P;refine⟨λ⟨k,B⟩=>B=w/\k<=t.columns.length/\fD Vt t.columns k,λ⟨k,_⟩=>t.columns.length-k,⟨(0,w),⟨rfl,aD,.zero⟩,MT⟩,?_⟩;rintro⟨c,w⟩ ⟨rfl,hc,hg⟩;dsimp only;refine aF (λg=>?_) (λa'=>X true ⟨λ_=>⟨by rw[<-z];simpa using G,aD,aD,E,hg.all aD⟩,λ_=>rfl⟩);obtain⟨x,D⟩:=eF L g;obtain⟨Q,R,S,T⟩:=E0.at d.columns D;have u:¬Vt (t.columns.take c) x->K (.val (.bool false)) m h:=λhn=>bad λf=>Good.not D hn f.2.2.2.2;refine⟨Q,R,S,aD,g,x.name,.imm (bO.part T 0 1),x.name,rfl,aC (λI=>u λf=>?_) (λI=>⟨Q,R,S,aD,g,x.kind,.imm (bO.part T 1 1),x.kind,rfl,aC (λJ=>u λf=>?_) (λJ=>?_)⟩)⟩
  .rw[f.1]at I;cases I
  .rw[f.2.1]at J;cases J
  refine⟨λ⟨c',j,B⟩=>B=w/\c'=c/\j<=c/\x.name∉(t.columns.take j).map nP.name,λ⟨_,j,_⟩=>c-j,⟨(c,0,w),⟨rfl,rfl,aD,bj⟩,MT⟩,?_⟩;rintro⟨c,j,w⟩ ⟨rfl,rfl,hj,A⟩;dsimp only;refine aF (λa0=>?_) (λa1=>?_)
  .obtain⟨y,U⟩:∃y,t.columns[j]? =some y:=⟨t.columns[j]'(by omega),getElem?_eq_getElem _⟩
   obtain⟨V,oy,ey,ry⟩:=E0.at d.columns U;refine⟨V,oy,ey,aD,aD,y.name,.imm (bO.part ry 0 1),Q,R,S,aD,g,x.name,.imm (bO.part T 0 1),aC (λe=>u λf=>?_) (λe=>?_)⟩
   .exact f.2.2 (bsQ U aD (Bi (bo e)))
   .refine⟨(c,j+1,w),⟨rfl,rfl,by show j+1<=c;omega,Nq U A λH=>?_⟩,by show c-(j+1)<c-j;omega,MT⟩;rw[H]at e;simp at e
  .have:j=c:=by omega
   subst this;exact⟨(j+1,w),⟨rfl,aD,hg.succ D ⟨bo I,bo J,A⟩⟩,by show t.columns.length-(j+1)<t.columns.length-j;omega,MT⟩
def HQ(t g:yB)(k:Nat)(c:Int):Prop:=0<=c/\c<t.columns.length/\∃x y,t.columns[c.toNat]? =some x/\g.columns[k]? =some y/\x.kind=y.kind
def aUJ(tabs:List yB)(t:yB)(_:List Ref)(r:Ref):Prop:=0<=r.table/\r.table<tabs.length/\∃g,tabs[r.table.toNat]? =some g/\(r.columns.length:Int)=g.key/\Good (λd c=>HQ t g d.length c) r.columns
def ES(tabs:List yB)(_:List yB)(t:yB):Prop:=Good (aUJ tabs t) t.refs
def aUZ:Vc.Spec:=λc m h K=>∃v s,c=[aS v]/\gA h s v/\Good Di s.tables/\∀r:Bool,(r=true↔Good (ES s.tables) s.tables)->K (cB r) m h
def YJ:Vc.Spec:=λc m h K=>∃v s t,∃i:Nat,c=[aS v,cI i]/\gA h s v/\Good Di s.tables/\s.tables[i]? =some t/\∀r:Bool,(r=true↔ES s.tables [] t)->K (cB r) m h
noncomputable def a7J(v:cN)(m:MH)(h:PH):Ctx:=
 cW [] [(2,{A:=Nat,st:=λi=>bY 82 83 [(1,.at (.ptr 1 0)),(11,sv v.tables),(12,iv v.tables.len),(13,iv i)] [(1,.cells 40 (v.enc.map .val))] m h}),
  (5,{A:=Nat×Nat×cM,st:=λ⟨i,k,w⟩=>bY 82 83 [(1,.at (.ptr 1 0)),(4,.at (.ptr 4 0)),(11,sv v.tables),(12,iv v.tables.len),(13,iv i),(18,sv w.references),(19,iv w.references.len),(20,iv k)] [(1,.cells 40 (v.enc.map .val)),(4,.cells 82 (w.enc.map .val))] m h}),
  (13,{A:=Nat×Nat×Nat×cM×cM×Sl,st:=λ⟨i,k,j,w,g,c⟩=>bY 82 83 [(1,.at (.ptr 1 0)),(4,.at (.ptr 4 0)),(7,.at (.ptr 7 0)),(11,sv v.tables),(12,iv v.tables.len),(13,iv i),(18,sv w.references),(19,iv w.references.len),(20,iv k),(48,sv c),(49,iv c.len),(50,iv j)] [(1,.cells 40 (v.enc.map .val)),(4,.cells 82 (w.enc.map .val)),(7,.cells 82 (g.enc.map .val))] m h})] [] [] false
noncomputable def a8Z(v:cN)(m:MH)(h:PH):Ctx:=
 cW [] [(3,{A:=Nat×cM,st:=λ⟨k,w⟩=>bY 85 87 [(2,.at (.ptr 2 0)),(5,.at (.ptr 5 0)),(16,sv w.references),(17,iv w.references.len),(18,iv k)] [(2,.cells 40 (v.enc.map .val)),(5,.cells 82 (w.enc.map .val))] m h}),
  (8,{A:=Nat×Nat×cM×EX,st:=λ⟨k,j,w,r⟩=>bY 85 87 [(2,.at (.ptr 2 0)),(5,.at (.ptr 5 0)),(7,.at (.ptr 7 0)),(16,sv w.references),(17,iv w.references.len),(18,iv k),(47,sv r.columns),(48,iv r.columns.len),(49,iv j)] [(2,.cells 40 (v.enc.map .val)),(5,.cells 82 (w.enc.map .val)),(7,.cells 138 (r.enc.map .val))] m h})] [] [] false
abbrev mP(a:(Nat->Prop)->Nat->Prop)(b:(Nat->Prop)->(Nat->Nat)->Nat->Prop):Prop:=∃(x:Nat->Prop)(d:Nat->Nat),jO (∃(c:Nat),a x c) (λc=>b x d c)
abbrev eM:Prop:=eP 1
abbrev Dz(a b:cM):Prop:=bH a.references b.references
abbrev DA(a b:cM):Prop:=cF a.references b.references
abbrev F7(a:cN)(b:Int)(c:Nat->Nat->Prop):Prop:=aW (λx d=>aI (aX (tX a) x d) (0<=b) (b<aG a.tables) (c x d))
abbrev iR:Prop:=eP 7
noncomputable abbrev tU(a:Nat×Nat×Nat×cM×cM×Sl):cM:=a.2.2.2.1
noncomputable abbrev yL(a:Nat×Nat×Nat×cM×cM×Sl):Sl:=a.2.2.2.2.2
noncomputable abbrev wP(a:Nat×Nat×Nat×cM×cM×Sl):Nat:=a.2.2.1
noncomputable abbrev GG(a:Nat×Nat×Nat×cM×cM×Sl):cM:=a.2.2.2.2.1
attribute [push_cast] mP eM Dz DA F7 iR tU yL wP GG
def NW(v:cN)(m:MH)(h:PH)(K:bu):Prop:=
  mP (λI x=>aA (I x) eM (aA (rD v) (iU v) (aA (bF x) (cE v) (aA (m=m) (h=h) True)))) (λI n x=>F5 (I x) x v (λb o y=>aU m h b (bN o x 5) (yY y)/\∃(I1:Nat×Nat×cM->Prop)(t:Nat×Nat×cM->Nat),(∃(d:Nat×Nat×cM),aA (I1 d) eM (aA (eP 4) (rD v) (aA (iU v) (cJ x d.1) (aA (Dz y (lD d)) (DA y (lD d)) (aA (bF (rU d)) (cE v) (aA (oQ 82 (gK y)=oQ 82 (gK (lD d))) (m=m) (bD h h)))))))/\∀(d:Nat×Nat×cM),I1 d->bA (↑(rU d):Int) (aG (lD d).references) (aW (λu z=>aI (aX (lD d).references.a u z) (0<=(↑(rU d):Int)) ((↑(rU d):Int)<aG (lD d).references) (∃(f:EX),aU m h u (bN z (rU d) 2) (nA (gU f.columns) (dY f.table))/\
 bA f.table 0 (K bB m h) (fQ f.table (i6 v) (K bB m h) (F7 v f.table (λL M=>∃(j:cM),aU m h L (gC M f.table 5) (yY j)/\dC (aG f.columns) j.key (K bB m h) (∃(I2:Nat×Nat×Nat×cM×cM×Sl->Prop)(A:Nat×Nat×Nat×cM×cM×Sl->Nat),(∃(c:Nat×Nat×Nat×cM×cM×Sl),aA (I2 c) eM (aA (eP 4) iR (aA (rD v) (iU v) (aA (cJ d.1 c.1) (Dz (lD d) (tU c)) (aA (DA (lD d) (tU c)) (cJ (rU d) c.2.1) (aA (bH f.columns (yL c)) (cF f.columns (yL c)) (aA (bF (wP c)) (cE v) (aA (oQ 82 (gK (lD d))=oQ 82 (gK (tU c))) (oQ 82 (gK j)=oQ 82 (gK (GG c))) (bS (m=m) h h)))))))))/\∀(c:Nat×Nat×Nat×cM×cM×Sl),I2 c->bA (↑(wP c):Int)
 (aG (yL c)) (aW (λB C=>aI (aX (yL c).a B C) (0<=(↑(wP c):Int)) ((↑(wP c):Int)<aG (yL c)) (∃(g:Int),aU m h B (bN C (wP c) 1) (bJ g)/\bA g 0 (K bB m h) (fQ g (zM (tU c)) (K bB m h) (aW (λD E=>aI (aX (tU c).columns.a D E) (0<=g) (g<aG (tU c).columns) (∃(F:Int),aU m h D (gC E g 2+1) (bJ F)/\aW (λG H=>aI (aX (GG c).columns.a G H) (0<=(↑(wP c):Int)) ((↑(wP c):Int)<aG (GG c).columns) (∃(J:Int),aU m h G (bN H (wP c) 2+1) (bJ J)/\dC F J (K bB m h) (∃(e:Nat×Nat×Nat×cM×cM×Sl),aA (I2 e) (A e<A c) (aA eM (eP 4) (aA iR (rD v) (aA (iU v) (cJ c.1 e.1) (aA (Dz (tU c) (tU e))
 (DA (tU c) (tU e)) (aA (cJ c.2.1 e.2.1) (bH (yL c) (yL e)) (aA (cF (yL c) (yL e)) (fU (bG (wP c) 1)=bP (wP e)) (aA (cE v) (oQ 82 (gK (tU c))=oQ 82 (gK (tU e))) (aI (oQ 82 (gK (GG c))=oQ 82 (gK (GG e))) (m=m) (h=h) True)))))))))))))))))) (∃(e:Nat×Nat×cM),aA (I1 e) (t e<t d) (aA eM (eP 4) (aA (aJ v.tables) (iU v) (aA (cJ c.1 e.1) (Dz (tU c) (lD e)) (aA (DA (tU c) (lD e)) (fU (bG c.2.1 1)=bP (rU e)) (aA (cE v) (oQ 82 (gK (tU c))=oQ 82 (gK (lD e))) (bS (m=m) h h)))))))))))))) (∃(c:Nat),aA (I c) (n c<n x) (aA eM (rD v) (aA (iU v) (fU (bG d.1 1)=bP c) (aA (cE v) (m=m) (bD h h)))))) (fJ K m h))
noncomputable abbrev tV(a:Nat×Nat×cM×EX):cM:=a.2.2.1
noncomputable abbrev sZ(a:Nat×Nat×cM×EX):Sl:=a.2.2.2.columns
noncomputable abbrev DY(a:Nat×Nat×cM×EX):Int:=a.2.2.2.table
attribute [push_cast] tV sZ DY
def NZ(v:cN)(i:Nat)(m:MH)(h:PH)(K:bu):Prop:=
  aW (λb o=>aI (aX (tX v) b o) (0<=(↑i:Int)) ((↑i:Int)<aG v.tables) (∃(y:cM),aU m h b (bN o i 5) (yY y)/\Ml (λI x=>aA (I x) fG (aA dL (Dz y x.2) (aA (DA y x.2) (bF x.1) (aA (cE v) (DZ y x) (bS (m=m) h h))))) (λI j x=>I x->bA (↑x.1:Int) (aG x.2.references) (aW (λn t=>aI (aX x.2.references.a n t) (0<=(↑x.1:Int)) ((↑x.1:Int)<aG x.2.references) (∃(e:EX),aU m h n (bN t x.1 2) (nA (gU e.columns) (dY e.table))/\bA e.table 0 (K bB m h) (fQ e.table (i6 v) (K bB m h) (aW (λu z=>aI (aX (tX v) u z) (0<=e.table) (e.table<aG v.tables) (∃(A:Int),aU m h u (gC z e.table 5+2) (bJ A)/\dC (aG e.columns) A (K bB m h) (∃(I1:Nat×Nat×cM×EX->Prop)(B
 :Nat×Nat×cM×EX->Nat),(∃(c:Nat×Nat×cM×EX),aA (I1 c) fG (aA dL iR (aA (Dz x.2 (tV c)) (DA x.2 (tV c)) (aA (cJ x.1 c.1) (bH e.columns (sZ c)) (aA (cF e.columns (sZ c)) (bF c.2.1) (aA (cE v) (oQ 82 (gK x.2)=oQ 82 (gK (tV c))) (aI (oQ 138 (mN (oM e.columns) (iI e.table))=oQ 138 (mN (oM (sZ c)) (iI (DY c)))) (m=m) (h=h) True)))))))/\∀(c:Nat×Nat×cM×EX),I1 c->bA (↑c.2.1:Int) (aG (sZ c)) (aW (λC D=>aI (aX (sZ c).a C D) (0<=(↑c.2.1:Int)) ((↑c.2.1:Int)<aG (sZ c)) (∃(f:Int),aU m h C (bN D c.2.1 1) (bJ f)/\bA f 0 (K bB m h) (fQ f (zM (tV c)) (K bB m h) (aW (λE F=>aI (aX (tV c).columns.a E F) (0<=f) (f
 <aG (tV c).columns) (∃(G:Int),aU m h E (gC F f 2+1) (bJ G)/\aW (λH J=>aI (aX (tX v) H J) (0<=DY c) (DY c<aG v.tables) (∃(g:Sl),aU m h H (gC J (DY c) 5+1) (aY g)/\aW (λL M=>aI (aX g.a L M) (0<=(↑c.2.1:Int)) ((↑c.2.1:Int)<aG g) (∃(O:Int),aU m h L (bN M c.2.1 2+1) (bJ O)/\dC G O (K bB m h) (∃(d:Nat×Nat×cM×EX),aA (I1 d) (B d<B c) (aA fG dL (aA iR (Dz (tV c) (tV d)) (aA (DA (tV c) (tV d)) (cJ c.1 d.1) (aA (bH (sZ c) (sZ d)) (cF (sZ c) (sZ d)) (aA (fU (bG c.2.1 1)=bP d.2.1) (cE v) (aA (oQ 82 (gK (tV c))=oQ 82 (gK (tV d))) (oQ 138 (mN (oM (sZ c)) (iI (DY c)))=oQ 138 (mN
 (oM (sZ d)) (iI (DY d)))) (aA (m=m) (h=h) True))))))))))))))))))) (∃(d:Nat×cM),aA (I d) (j d<j x) (aA fG dL (aA (Dz (tV c) d.2) (DA (tV c) d.2) (aA (fU (bG c.1 1)=bP d.1) (cE v) (aI (DZ (tV c) d) (m=m) (h=h) True))))))))))))) (fJ K m h))))
theorem Ints.at'{s:Sl}(r:Ints h s l){x:Int}(c:l[i]? =some x):∃b o,s.a=some ⟨b,o,none⟩/\bO h b (o+i*1) [.int .i64 x]:=by
 obtain⟨b,o,e,k⟩:=r.at c;exact⟨b,o,e,by rwa [Nat.mul_one]⟩
theorem S5{α:Type}{l:List α}{x:α}(h:l[i]? =some x):(l.take i).length=i:=by
 have:=(List.getElem?_eq_some_iff.1 h).1;rw[length_take];omega
theorem Good.key_le{tabs:List yB}(h:Good Di tabs){g:yB}(c:tabs[i]? =some g):g.key<=g.columns.length:=(h i g c).2.2.1
theorem bFJ{v:cN}(Q:gA h s v)(E:Good Di s.tables)(hK:∀r:Bool,(r=true↔Good (ES s.tables) s.tables)->K (cB r) m h):NW v m h K:=by
 dsimp only[NW,push_cast];have hl:=Q.tables.slen;have b':=Q.tables.len;have hf:¬Good (ES s.tables) s.tables->K (.val (.bool false)) m h:=λh=>hK false ⟨λe=>(by cases e),λe=>(h e).elim⟩;refine⟨λi=>i<=s.tables.length/\fD (ES s.tables) s.tables i,λi=>s.tables.length-i,⟨0,⟨aD,.zero⟩,MT⟩,λi⟨hi,hg⟩=>aF (λL=>?_) (λb8=>hK true ⟨λ_=>hg.all aD,λ_=>rfl⟩)⟩;obtain⟨t,U⟩:=eF hl L;obtain⟨b,o,w,ea,hr,f⟩:=Q.tables.at U;have b9:=bV.slen f.columns;have V:=bV.slen f.refs;have c':=bV.len f.refs;refine⟨b,o,ea,aD,L,w,.imm hr,λ⟨W,k,X⟩=>W=i/\X=w/\k<=t.refs.length/\fD (aUJ s.tables t) t.refs k,λ⟨_,k,_⟩=>t.refs.length-k,⟨(i,0,w),⟨rfl,rfl,aD,.zero⟩,MT⟩,?_⟩;rintro⟨i,k,w⟩ ⟨rfl,rfl,hk,M⟩;dsimp only;refine aF (λC=>?_) (λb0=>⟨i+1,⟨aD,hg.succ U (M.all aD)⟩,by show s.tables.length-(i+1)<s.tables.length-i;omega,MT⟩);obtain⟨r,F⟩:=eF V C;obtain⟨b2,o2,G,Y,Z,d⟩:=f.refs.at F;have a':=d.columns.slen;have c0:=d.columns.len;have rt:=d.table;have bad:¬aUJ s.tables t (t.refs.take k) r->K (.val (.bool false)) m h:=λhn=>hf (Good.not U (Good.not F hn));refine⟨b2,o2,Y,aD,C,G,.imm Z,aF (λh1=>bad λu=>?_) (λh1=>aF (λh2=>bad λu=>?_) (λh2=>?_))⟩
 .have:=u.1;omega
 .have:=u.2.1;omega
 obtain⟨g,b3,o3,H,B,a0,a1,n⟩:=Q.table (t:=G.table) aD aD;have c1:=bV.slen n.columns;have b1:=E.key_le B;have gk:=n.key;refine⟨b3,o3,a0,aD,aD,H,.imm a1,aC (λR=>bad λu=>?_) (λR=>?_)⟩
 .obtain⟨_,_,g',z,c2,_⟩:=u;rw[<-rt,B]at z;cases z;have:(G.columns.len:Int)≠H.key:=bo R
  omega
 have R:(G.columns.len:Int)=H.key:=bo R
 refine⟨λ⟨W,k',j,X,g',sl⟩=>W=i/\k'=k/\X=w/\g'=H/\sl=G.columns/\j<=r.columns.length/\fD (λa2 c=>HQ t g a2.length c) r.columns j,λ⟨_,_,j,_,_,_⟩=>r.columns.length-j,⟨(i,k,0,w,H,G.columns),⟨rfl,rfl,rfl,rfl,rfl,aD,.zero⟩,MT⟩,?_⟩;rintro⟨i,k,j,w,H,_⟩ ⟨rfl,rfl,rfl,rfl,rfl,hj,O⟩;dsimp only;refine aF (λD=>?_) (λb7=>⟨(i,k+1,w),⟨rfl,rfl,by show k+1<=t.refs.length;omega,M.succ F ⟨aD,aD,g,by rw[<-rt];exact B,aD,O.all aD⟩⟩,by show t.refs.length-(k+1)<t.refs.length-k;omega,MT⟩);obtain⟨c,S⟩:=eF a' D;obtain⟨b4,o4,a3,a4⟩:=d.columns.at' S;have P:=S5 S
 have A:¬HQ t g j c->K (.val (.bool false)) m h:=λhn=>bad λu=>by
  obtain⟨_,_,g',z,_,a5⟩:=u;rw[<-rt,B]at z;cases z;have:=a5 j c S;dsimp only at this;rw[P]at this;exact hn this
 refine⟨b4,o4,a3,aD,D,c,.imm a4,aF (λh5=>A λu=>?_) (λh5=>aF (λh6=>A λu=>?_) (λh6=>?_))⟩
 .have:=u.1;omega
 .have:=u.2.1;omega
 obtain⟨x,I⟩:∃x,t.columns[c.toNat]? =some x:=⟨t.columns[c.toNat]'(by omega),getElem?_eq_getElem _⟩
 obtain⟨y,J⟩:∃y,g.columns[j]? =some y:=⟨g.columns[j]'(by omega),getElem?_eq_getElem _⟩
 obtain⟨b5,o5,a6,a7⟩:=E0.at f.columns I;obtain⟨b6,o6,a8,a9⟩:=E0.at n.columns J;refine⟨b5,o5,a6,aD,aD,x.kind,.imm (bO.part a7 1 1),b6,o6,a8,aD,aD,y.kind,.imm (bO.part a9 1 1),aC (λT=>A λu=>?_) (λT=>?_)⟩
 .obtain⟨_,_,x',y',e1,e2,e3⟩:=u;rw[I]at e1;rw[J]at e2;cases e1;cases e2;rw[e3]at T;simp at T
 .exact⟨(i,k,j+1,w,H,G.columns),⟨rfl,rfl,rfl,rfl,rfl,by show j+1<=r.columns.length;omega,O.succ S (by show HQ t g (List.take j r.columns).length c;rw[P];exact⟨aD,aD,x,y,I,J,bo T⟩)⟩,by show r.columns.length-(j+1)<r.columns.length-j;omega,MT⟩
theorem ZE:br 97 aUZ:=by
 refine hJ func97 ?_;rintro c m h K ⟨v,s,rfl,d,e,f⟩;refine⟨a7J v m h,rfl,aH,NW v m h K,bi,?_⟩;exact bFJ d e f
theorem bGX{v:cN}{t:yB}(Q:gA h s v)(F:Good Di s.tables)(hx:s.tables[i]? =some t)(hK:∀r:Bool,(r=true↔ES s.tables [] t)->K (cB r) m h):NZ v i m h K:=by
 dsimp only[NZ,push_cast];have hl:=Q.tables.slen;have a7:=Q.tables.len;have b0:i<s.tables.length:=(List.getElem?_eq_some_iff.1 hx).1;have hf:¬ES s.tables [] t->K (.val (.bool false)) m h:=λh=>hK false ⟨λe=>(by cases e),λe=>(h e).elim⟩;obtain⟨b,o,w,ea,hr,f⟩:=Q.tables.at hx;have b1:=bV.slen f.columns;have V:=bV.slen f.refs;have b7:=bV.len f.refs;refine⟨b,o,ea,aD,aD,w,.imm hr,λ⟨k,W⟩=>W=w/\k<=t.refs.length/\fD (aUJ s.tables t) t.refs k,λ⟨k,_⟩=>t.refs.length-k,⟨(0,w),⟨rfl,aD,.zero⟩,MT⟩,?_⟩;rintro⟨k,w⟩ ⟨rfl,hk,J⟩;dsimp only;refine aF (λC=>?_) (λa8=>hK true ⟨λ_=>J.all aD,λ_=>rfl⟩);obtain⟨r,G⟩:=eF V C;obtain⟨b2,o2,D,X,Y,d⟩:=f.refs.at G;have Z:=d.columns.slen;have b8:=d.columns.len;have rt:=d.table;have bad:¬aUJ s.tables t (t.refs.take k) r->K (.val (.bool false)) m h:=λhn=>hf (Good.not G hn);refine⟨b2,o2,X,aD,C,D,.imm Y,aF (λh1=>bad λu=>?_) (λh1=>aF (λh2=>bad λu=>?_) (λh2=>?_))⟩
 .have:=u.1;omega
 .have:=u.2.1;omega
 obtain⟨g,b3,o3,R,B,L,M,n⟩:=Q.table (t:=D.table) aD aD;have b9:=bV.slen n.columns;have a9:=F.key_le B;have gk:=n.key;refine⟨b3,o3,L,aD,aD,R.key,.imm (bO.part M 2 1),aC (λS=>bad λu=>?_) (λS=>?_)⟩
 .obtain⟨_,_,g',z,c',_⟩:=u;rw[<-rt,B]at z;cases z;have:(D.columns.len:Int)≠R.key:=bo S
  omega
 have S:(D.columns.len:Int)=R.key:=bo S
 refine⟨λ⟨k',j,W,r'⟩=>k'=k/\W=w/\r'=D/\j<=r.columns.length/\fD (λa' c=>HQ t g a'.length c) r.columns j,λ⟨_,j,_,_⟩=>r.columns.length-j,⟨(k,0,w,D),⟨rfl,rfl,rfl,aD,.zero⟩,MT⟩,?_⟩;rintro⟨k,j,w,D⟩ ⟨rfl,rfl,rfl,hj,O⟩;dsimp only;refine aF (λE=>?_) (λb'=>⟨(k+1,w),⟨rfl,by show k+1<=t.refs.length;omega,J.succ G ⟨aD,aD,g,by rw[<-rt];exact B,aD,O.all aD⟩⟩,by show t.refs.length-(k+1)<t.refs.length-k;omega,MT⟩);obtain⟨c,T⟩:=eF Z E;obtain⟨b4,o4,a0,a1⟩:=d.columns.at' T;have P:=S5 T
 have A:¬HQ t g j c->K (.val (.bool false)) m h:=λhn=>bad λu=>by
  obtain⟨_,_,g',z,_,a2⟩:=u;rw[<-rt,B]at z;cases z;have:=a2 j c T;dsimp only at this;rw[P]at this;exact hn this
 refine⟨b4,o4,a0,aD,E,c,.imm a1,aF (λh5=>A λu=>?_) (λh5=>aF (λh6=>A λu=>?_) (λh6=>?_))⟩
 .have:=u.1;omega
 .have:=u.2.1;omega
 obtain⟨x,H⟩:∃x,t.columns[c.toNat]? =some x:=⟨t.columns[c.toNat]'(by omega),getElem?_eq_getElem _⟩
 obtain⟨y,I⟩:∃y,g.columns[j]? =some y:=⟨g.columns[j]'(by omega),getElem?_eq_getElem _⟩
 obtain⟨b5,o5,a3,a4⟩:=E0.at f.columns H;obtain⟨b6,o6,a5,a6⟩:=E0.at n.columns I;refine⟨b5,o5,a3,aD,aD,x.kind,.imm (bO.part a4 1 1),b3,o3,L,aD,aD,R.columns,.imm (bO.part M 1 1),b6,o6,a5,aD,aD,y.kind,.imm (bO.part a6 1 1),aC (λU=>A λu=>?_) (λU=>?_)⟩
 .obtain⟨_,_,x',y',e1,e2,e3⟩:=u;rw[H]at e1;rw[I]at e2;cases e1;cases e2;rw[e3]at U;simp at U
 .exact⟨(k,j+1,w,D),⟨rfl,rfl,rfl,by show j+1<=r.columns.length;omega,O.succ T (by show HQ t g (List.take j r.columns).length c;rw[P];exact⟨aD,aD,x,y,H,I,bo U⟩)⟩,by show r.columns.length-(j+1)<r.columns.length-j;omega,MT⟩
theorem ZH:br 92 YJ:=by
 refine hJ func92 ?_;rintro c m h K ⟨v,s,t,i,rfl,d,e,f,g⟩;refine⟨a8Z v m h,rfl,aH,NZ v i m h K,bi,?_⟩;exact bGX d e f g
def OC(t:yB):Prop:=t.columns.length<=8/\t.refs.length<=4/\t.checks.length<=4
def CW(s:iJ):Prop:=s.tables.length<=8/\Good (λ_ t=>OC t) s.tables
def JK(s:iJ):Prop:=0<=s.version/\s.version<=1000/\Good Di s.tables/\Good (ES s.tables) s.tables
def uG:bt->Int
 |[]=>0
 |e::r=>if e=0 then uG r else e
def vX(s:iJ)(i:Nat):bt:=match s.tables[i]? with|some t=>t.checks.map (fR (iA s i) [])|none=>[]
theorem Ar(a b:bt)(h:∀e∈a,e=0):uG (a++b)=uG b:=by
 induction a with
 |nil=>rfl
 |cons x a c=>
  simp only[cons_append,uG];rw[if_pos (h x bj),c λe d=>h e (by simp[d])]
theorem CS(a:bt)(h:∀e∈a,e=0):uG a=0:=by
 have:=Ar a [] h;simpa[uG]using this
theorem LO{n k:Nat}{f:Nat->bt}{e:Int}(y:i<n)(d:∀j<i,∀x∈f j,x=0)(g:∀x∈(f i).take k,x=0)(o:(f i)[k]? =some e)(t:e≠0):uG ((List.range n).flatMap f)=e:=by
 obtain⟨r,rfl⟩:∃r,n=i+(1+r):=⟨n-i-1,aD⟩
 rw[range_add,flatMap_append,Ar]
 .rw[show(List.range (1+r)).map (i+ ·)=i::(range' (i+1) r)from ?_,flatMap_cons, <-take_append_drop k (f i),append_assoc,Ar _ _ g,drop_cons o]
  .simp[uG,t]
  .rw[Nat.add_comm 1 r,range_succ_eq_map];simp[range'_eq_map_range,Nat.add_assoc,Nat.add_comm 1]
 .intro x c;obtain⟨j,u,c⟩:=mem_flatMap.1 c;exact d j (mem_range.1 u) x c
open Classical in
noncomputable def cX(s:iJ):Int:=if CW s then(if JK s then uG ((List.range s.tables.length).flatMap (vX s))else 70)else 2
def Bk:Vc.Spec:=λc m h K=>∃v s,c=[aS v]/\gA h s v/\K (cI (cX s)) m h
noncomputable def f54_ctx(v:cN)(m:MH)(h:PH):Ctx:=
 cW [(96,aWJ),(97,aUZ),(81,uK),(98,sO)] [(4,{A:=Nat,st:=λi=>bY 83 84 [(1,.at (.ptr 1 0)),(16,sv v.tables),(17,iv v.tables.len),(18,iv i)] [(1,.cells 40 (v.enc.map .val))] m h}),
  (12,{A:=Nat×PH,st:=λ⟨i,c⟩=>bY 83 84 [(1,.at (.ptr 1 0)),(58,sv v.tables),(59,iv v.tables.len),(60,iv i)] [(1,.cells 40 (v.enc.map .val))] m c}),
  (16,{A:=Nat×Nat×Sl×Sl×PH,st:=λ⟨i,k,ks,d,c⟩=>bY 83 84 [(1,.at (.ptr 1 0)),(7,sv ks),(58,sv v.tables),(59,iv v.tables.len),(60,iv i),(69,sv d),(70,iv d.len),(71,iv k)] [(1,.cells 40 (v.enc.map .val))] m c})] [] [] false
noncomputable def f51_ctx(v:cN)(m:MH)(h:PH):Ctx:=
 cW [(91,aSQ),(92,YJ),(59,uK),(57,sO)] [(4,{A:=Nat,st:=λi=>bY 96 97 [(1,.at (.ptr 1 0)),(16,sv v.tables),(17,iv v.tables.len),(18,iv i)] [(1,.cells 40 (v.enc.map .val))] m h}),
  (12,{A:=Nat,st:=λi=>bY 96 97 [(1,.at (.ptr 1 0)),(49,iv v.tables.len),(50,iv i)] [(1,.cells 40 (v.enc.map .val))] m h}),
  (18,{A:=Nat,st:=λi=>bY 96 97 [(1,.at (.ptr 1 0)),(60,iv v.tables.len),(61,iv i)] [(1,.cells 40 (v.enc.map .val))] m h}),
  (24,{A:=Nat×PH,st:=λ⟨i,c⟩=>bY 96 97 [(1,.at (.ptr 1 0)),(71,iv v.tables.len),(72,iv i)] [(1,.cells 40 (v.enc.map .val))] m c}),
  (27,{A:=Nat×Nat×Sl×PH,st:=λ⟨i,k,d,c⟩=>bY 96 97 [(1,.at (.ptr 1 0)),(7,iv i),(71,iv v.tables.len),(72,iv i),(80,sv d),(81,iv d.len),(82,iv k)] [(1,.cells 40 (v.enc.map .val))] m c})] [] [] false
abbrev oB(a b:CV)(c d:Prop):Prop:=aA (oF a=oF b) c d
abbrev AK(a:ct)(b:Nat->Nat->Option Value)(c:Sl->PH->Prop):Prop:=oG (λx d=>∃(f:Int),aI (a=bT (bQ x) f) (gA b d x) (lK d) (∀(g:Sl)(e:PH),cD b e (Ints e g (iA d f)) (c g e)))
noncomputable abbrev yM(a:Nat×Nat×Sl×Sl×PH):Sl:=a.2.2.2.1
noncomputable abbrev Cn(a:Nat×Nat×Sl×Sl×PH):Nat->Nat->Option Value:=a.2.2.2.2
abbrev HA(a:bt->bt->Prop):Prop:=∃(x c:bt),a x c
abbrev DQ(a:ct)(b:PH)(c:bt->bt->Pred->Prop):Prop:=lE (λx d=>∃(e:PV),HA (λf g=>∃(j:Pred),aA (a=dN x::bK (dN d) (cZ e)) (Ints b x f) (aA (Ints b d g) (eH b j e) (c f g j))))
attribute [push_cast] oB AK yM Cn HA DQ
def ae(v:cN)(m:MH)(h:PH)(K:bu):Prop:=
  gM (i6 v) 8 (K (eG 2) m h) (mP (λI x=>aA (I x) eM (aA (rD v) (iU v) (aA (bF x) (cE v) (aA (m=m) (h=h) True)))) (λI j x=>F5 (I x) x v (λb o y=>aU m h b (bN o x 5) (yY y)/\mS (decide (zM y>8)) (K (eG 2) m h) (aG y.references) 4 (K (eG 2) m h) (gM (aG y.checks) 4 (K (eG 2) m h) (∃(e:Nat),aA (I e) (j e<j x) (aA eM (rD v) (aA (iU v) (fU (bG x 1)=bP e) (aA (cE v) (m=m) (bD h h))))))) (bA v.version 0 (K (eG 70) m h) (gM v.version 1000 (K (eG 70) m h) (oG (λn s=>oB (bQ v) (bQ n) (gA h s n) (∀(r:Bool),gL (fV r (Good Di s.tables)) (!r) (K (eG 70) m h) (oG (λt g=>aI (oF (bQ v)=oF (bQ t)) (gA h g t) (Good Di g.tables) (∀(u:Bool),gL (fV u (Good (ES
 g.tables) g.tables)) (!u) (K (eG 70) m h) (∃(I1:Nat×PH->Prop)(z:Nat×PH->Nat),(∃(e:Nat×PH),aA (I1 e) eM (aA (rD v) (iU v) (aA (bF e.1) (cE v) (aA (m=m) (h=e.2) True))))/\∀(e:Nat×PH),F5 (I1 e) e.1 v (λb o y=>aU m e.2 b (bN o e.1 5) (yY y)/\AK (bT (bQ v) (↑e.1:Int)) e.2 (λF G=>∃(I2:Nat×Nat×Sl×Sl×PH->Prop)(A:Nat×Nat×Sl×Sl×PH->Nat),(∃(d:Nat×Nat×Sl×Sl×PH),aA (I2 d) eM (aA (bH F d.2.2.1) (rD v) (aA (iU v) (cJ e.1 d.1) (aA (bH y.checks (yM d)) (cF y.checks (yM d)) (mA (bF d.2.1) (cE v) (m=m) G (Cn d))))))/\∀(d:Nat×Nat×Sl×Sl×PH),I2 d->bA (↑d.2.1:Int) (aG (yM d)) (aW (λB C=>aI (aX (yM d).a B C) (0<=(↑d.2.1:
 Int)) ((↑d.2.1:Int)<aG (yM d)) (∃(D:PV),aU m (Cn d) B (bN C d.2.1 13) D.enc/\DQ (dN d.2.2.1::bK CZ (cZ D)) (Cn d) (λc p E=>dC (fR c p E) 0 (K (eG (fR c p E)) m (Cn d)) (∃(f:Nat×Nat×Sl×Sl×PH),aA (I2 f) (A f<A d) (aA eM (bH d.2.2.1 f.2.2.1) (aA (aJ v.tables) (iU v) (aA (cJ d.1 f.1) (bH (yM d) (yM f)) (aA (cF (yM d) (yM f)) (fU (bG d.2.1 1)=bP f.2.1) (aA (cE v) (m=m) (bD (Cn d) (Cn f)))))))))))) (∃(f:Nat×PH),aA (I1 f) (z f<z e) (aA eM (rD v) (aA (iU v) (fU (bG d.1 1)=bP f.1) (aA (cE v) (m=m) (bD (Cn d) f.2))))))) (K (eG 0) m e.2))))))))))))
abbrev MA(a:iJ)(b:Nat)(c:yB):Prop:=a.tables[b]? =Option.some c
noncomputable abbrev yN(a:Nat×Nat×Sl×PH):Sl:=a.2.2.1
attribute [push_cast] MA yN
def af(v:cN)(m:MH)(h:PH)(K:bu):Prop:=
  gM (i6 v) 8 (K (eG 2) m h) (mP (λI x=>aA (I x) eM (aA (rD v) (iU v) (aA (bF x) (cE v) (aA (m=m) (h=h) True)))) (λI z x=>F5 (I x) x v (λb o y=>aU m h b (bN o x 5) (yY y)/\mS (decide (zM y>8)) (K (eG 2) m h) (aG y.references) 4 (K (eG 2) m h) (gM (aG y.checks) 4 (K (eG 2) m h) (∃(g:Nat),aA (I g) (z g<z x) (aA eM (rD v) (aA (iU v) (fU (bG x 1)=bP g) (aA (cE v) (m=m) (bD h h))))))) (bA v.version 0 (K (eG 70) m h) (gM v.version 1000 (K (eG 70) m h) (mP (λI1 g=>aA (I1 g) eM (aA (iU v) (bF g) (aI (cE v) (m=m) (h=h) True))) (λI1 A g=>I1 g->bA (↑g:Int) (aG v.tables) (oG (λn s=>∃(t:yB)(i:Nat),aI (bT (bQ v) (↑g:Int)=bT (bQ n) (↑i:Int)) (gA h
 s n) (MA s i t) (∀(r:Bool),gL (fV r (Di (List.take i s.tables) t)) (!r) (K (eG 70) m h) (∃(j:Nat),aA (I1 j) (A j<A g) (aA eM (iU v) (aA (fU (bG g 1)=bP j) (cE v) (aA (m=m) (h=h) True))))))) (mP (λI2 j=>aA (I2 j) eM (aA (iU v) (bF j) (aI (cE v) (m=m) (h=h) True))) (λI2 B j=>I2 j->bA (↑j:Int) (aG v.tables) (oG (λn s=>∃(t:yB)(i:Nat),aA (bT (bQ v) (↑j:Int)=bT (bQ n) (↑i:Int)) (gA h s n) (aA (Good Di s.tables) (MA s i t) (∀(r:Bool),gL (fV r (ES s.tables [] t)) (!r) (K (eG 70) m h) (∃(e:Nat),aA (I2 e) (B e<B j) (aA eM (iU v) (aA (fU (bG j 1)=bP e) (cE v) (aA (m=m) (h=h) True)))))))) (∃(I3:Nat×PH->Prop)(C:Nat×PH->Nat),(∃(e:Nat×PH),aA
 (I3 e) eM (aA (iU v) (bF e.1) (aI (cE v) (m=m) (h=e.2) True)))/\∀(e:Nat×PH),I3 e->bA (↑e.1:Int) (aG v.tables) (aW (λb o=>aI (aX (tX v) b o) (0<=(↑e.1:Int)) ((↑e.1:Int)<aG v.tables) (∃(y:Sl),aU m e.2 b (bN o e.1 5+4) (aY y)/\∃(I4:Nat×Nat×Sl×PH->Prop)(D:Nat×Nat×Sl×PH->Nat),(∃(d:Nat×Nat×Sl×PH),aA (I4 d) eM (aA (cJ e.1 d.1) (iU v) (aA (cJ e.1 d.1) (bH y (yN d)) (aA (cF y (yN d)) (bF d.2.1) (aI (cE v) (m=m) (e.2=d.2.2.2) True)))))/\∀(d:Nat×Nat×Sl×PH),I4 d->bA (↑d.2.1:Int) (aG (yN d)) (aW (λE F=>aI (aX (yN d).a E F) (0<=(↑d.2.1:Int)) ((↑d.2.1:Int)<aG (yN d)) (∃(G:PV),aU m d.2.2.2 E (bN F d.2.1 13) G.enc/\
 AK (bT (bQ v) (↑d.1:Int)) d.2.2.2 (λs u=>DQ (dN s::bK CZ (cZ G)) u (λc p H=>dC (fR c p H) 0 (K (eG (fR c p H)) m u) (∃(f:Nat×Nat×Sl×PH),aA (I4 f) (D f<D d) (aA eM (cJ d.1 f.1) (aA (iU v) (cJ d.1 f.1) (aA (bH (yN d) (yN f)) (cF (yN d) (yN f)) (mA (fU (bG d.2.1 1)=bP f.2.1) (cE v) (m=m) u f.2.2.2)))))))))) (∃(f:Nat×PH),aA (I3 f) (C f<C e) (aA eM (iU v) (aA (fU (bG d.1 1)=bP f.1) (cE v) (aA (m=m) (d.2.2.2=f.2) True))))))) (K (eG 0) m e.2))))))))))
theorem kE.out{d:PH}{r:CV}(e:Sub m m')(c:PH.le h d)(f:K r m h):kE h K r m' d:=⟨m,h,e,.refl _,c,f⟩
theorem uZ(h:¬CW s):cX s=2:=by unfold cX;rw[if_neg h]
theorem Na(h:CW s)(h':¬JK s):cX s=70:=by unfold cX;rw[if_pos h,if_neg h']
theorem JZ(h:CW s)(h':JK s):cX s=uG ((List.range s.tables.length).flatMap (vX s)):=by unfold cX;rw[if_pos h,if_pos h']
theorem Dn{k:Nat}{t:yB}(c:s.tables[i]? =some t)(d:t.checks[k]? =some p):(vX s i)[k]? =some (fR (iA s i) [] p):=by
 unfold vX;rw[c];simp[d]
theorem Ll{t:yB}(c:s.tables[i]? =some t):(vX s i).length=t.checks.length:=by
 unfold vX;rw[c];simp
theorem Pa{k:Nat}{e:Int}(d:l[k]? =some e)(h:∀x∈l.take k,x=0)(f:e=0):∀x∈l.take (k+1),x=0:=by
 intro x c;rw[take_add_one,d,mem_append]at c;rcases c with c|c
 .exact h x c
 .simp at c;rw[c,f]
theorem SN{f:Nat->bt}{k:Nat}(h:∀j<i,∀x∈f j,x=0)(g:(f i).length<=k)(c:∀x∈(f i).take k,x=0):∀j<i+1,∀x∈f j,x=0:=by
 intro j n x d;by_cases e:j=i
 .subst e;rw[take_of_length_le g]at c;exact c x d
 .exact h j aD x d
theorem ag:br 54 Bk:=by
 refine EU func54 ?_;rintro a2 m h K ⟨v,s,rfl,y,hK⟩;refine⟨f54_ctx v m h,rfl,aE ZF (aE ZE (aE GL (aE Kr aH))),ae v m h (kE h K),bi,?_⟩;show ae v m h (kE h K);dsimp only[ae,push_cast];have Z:=y.tables.slen;have a':=y.tables.len;have a0:=y.version;have out:∀(d:PH)(x:Int),PH.le h d->cX s=x->kE h K (.val (.int .i64 x)) m d:=λd x g e=>.out (Sub.refl m) g (by rw[<-e];exact hK);refine aF (λh1=>out h _ (.refl _) (uZ λe=>by have:=e.1;omega)) (λh1=>?_);refine⟨λi=>i<=s.tables.length/\fD (λ_ t=>OC t) s.tables i,λi=>s.tables.length-i,⟨0,⟨aD,.zero⟩,MT⟩,λi⟨hi,hg⟩=>aF (λn=>?_) (λQ=>?_)⟩
 .obtain⟨t,d⟩:=eF Z n;obtain⟨b,o,w,R,B,c⟩:=y.tables.at d;have e1:=bV.slen c.columns;have e2:=bV.slen c.refs;have e3:=bV.slen c.checks;have bad:¬OC t->kE h K (.val (.int .i64 2)) m h:=λS=>out h _ (.refl _) (uZ λe=>Good.not d S e.2);refine⟨b,o,R,aD,n,w,.imm B,aF (λT=>bad λe=>?_) (λT=>aF (λU=>bad λe=>?_) (λU=>aF (λC=>bad λe=>?_) (λC=>⟨i+1,⟨aD,hg.succ d ⟨aD,aD,aD⟩⟩,by show s.tables.length-(i+1)<s.tables.length-i;omega,MT⟩)))⟩
  .have:=e.1;omega
  .have:=e.2.1;omega
  .have:=e.2.2;omega
 have D:CW s:=⟨aD,hg.all aD⟩
 have h8:lK s:=λt I=>by
  obtain⟨j,O⟩:=mem_iff_getElem?.1 I;exact(D.2 j t O).1
 have bad:¬JK s->kE h K (.val (.int .i64 70)) m h:=λS=>out h _ (.refl _) (Na D S);refine aF (λT=>bad λe=>?_) (λT=>aF (λU=>bad λe=>?_) (λU=>⟨v,s,rfl,y,λr B=>aC (λC=>bad λe=>?_) (λC=>⟨v,s,rfl,y,B.1 (bo C),λr2 J=>aC (λP=>bad λe=>?_) (λP=>?_)⟩)⟩))
 .have:=e.1;omega
 .have:=e.2.1;omega
 .rw[B.2 e.2.2.1]at C;cases C
 .rw[J.2 e.2.2.2]at P;cases P
 have ok:JK s:=⟨aD,aD,B.1 (bo C),J.1 (bo P)⟩
 rw[JZ D ok]at out;refine⟨λ⟨i,d⟩=>i<=s.tables.length/\PH.le h d/\∀j<i,∀x∈vX s j,x=0,λ⟨i,_⟩=>s.tables.length-i,⟨(0,h),⟨aD,.refl _,λj O=>by omega⟩,MT⟩,?_⟩;rintro⟨i,d⟩ ⟨hi,g,V⟩;dsimp only;refine aF (λn=>?_) (λQ=>out d _ g (CS _ λe he=>?_))
 .obtain⟨t,I⟩:=eF Z n;obtain⟨b,o,w,R,B,c⟩:=(y.mono g).tables.at I;have cl:=bV.slen c.checks;have cb:=bV.len c.checks;refine⟨b,o,R,aD,n,w,.imm B,v,s,i,rfl,y.mono g,h8,λsl h' z E=>?_⟩;refine⟨λ⟨i',k,ks,cs,F⟩=>i'=i/\cs=w.checks/\k<=t.checks.length/\PH.le h' F/\Ints F ks (iA s i)/\∀x∈(vX s i).take k,x=0,λ⟨_,k,_,_,_⟩=>t.checks.length-k,⟨(i,0,sl,w.checks,h'),⟨rfl,rfl,aD,.refl _,E,λx d=>by simp at d⟩,MT⟩,?_⟩;rintro⟨i,k,ks,_,F⟩ ⟨rfl,rfl,hk,u,f,G⟩;dsimp only;have L:PH.le h F:=(g.trans z).trans u;refine aF (λA=>?_) (λa1=>⟨(i+1,F),⟨aD,L,SN V (k:=k) (by rw[Ll I];omega) G⟩,by show s.tables.length-(i+1)<s.tables.length-i;omega,MT⟩);obtain⟨p,W⟩:=eF cl A;obtain⟨b2,o2,pv,X,M,H⟩:=((c.checks.mono z).mono u).at W;refine⟨b2,o2,X,aD,A,pv,.imm M,ks,⟨none,0,0⟩,pv,iA s i,[],p,rfl,f,⟨.nil _ _,bj⟩,H,aC (λY=>?_) (λY=>?_)⟩
  .exact out F _ L (LO aD V G (Dn I W) (bo Y))
  .exact⟨(i,k+1,ks,w.checks,F),⟨rfl,rfl,by show k+1<=t.checks.length;omega,u,f,Pa (Dn I W) G (bo Y)⟩,by show t.checks.length-(k+1)<t.checks.length-k;omega,MT⟩
 .obtain⟨j,O,d⟩:=mem_flatMap.1 he;exact V j (by have:=mem_range.1 O;omega) e d
theorem aw:br 51 Bk:=by
 refine EU func51 ?_;rintro a2 m h K ⟨v,s,rfl,C,hK⟩;refine⟨f51_ctx v m h,rfl,aE ZI (aE ZH (aE aa (aE ab aH))),af v m h (kE h K),bi,?_⟩;show af v m h (kE h K);dsimp only[af,push_cast];have P:=C.tables.slen;have a':=C.tables.len;have a0:=C.version;have out:∀(c:PH)(x:Int),PH.le h c->cX s=x->kE h K (.val (.int .i64 x)) m c:=λc x n e=>.out (Sub.refl m) n (by rw[<-e];exact hK);refine aF (λh1=>out h _ (.refl _) (uZ λe=>by have:=e.1;omega)) (λh1=>?_);refine⟨λi=>i<=s.tables.length/\fD (λ_ t=>OC t) s.tables i,λi=>s.tables.length-i,⟨0,⟨aD,.zero⟩,MT⟩,λi⟨L,u⟩=>aF (λf=>?_) (λg=>?_)⟩
 .obtain⟨t,c⟩:=eF P f;obtain⟨b,o,w,S,B,d⟩:=C.tables.at c;have e1:=bV.slen d.columns;have e2:=bV.slen d.refs;have e3:=bV.slen d.checks;have bad:¬OC t->kE h K (.val (.int .i64 2)) m h:=λT=>out h _ (.refl _) (uZ λe=>Good.not c T e.2);refine⟨b,o,S,aD,f,w,.imm B,aF (λU=>bad λe=>?_) (λU=>aF (λV=>bad λe=>?_) (λV=>aF (λy=>bad λe=>?_) (λy=>⟨i+1,⟨aD,u.succ c ⟨aD,aD,aD⟩⟩,by show s.tables.length-(i+1)<s.tables.length-i;omega,MT⟩)))⟩
  .have:=e.1;omega
  .have:=e.2.1;omega
  .have:=e.2.2;omega
 have E:CW s:=⟨aD,u.all aD⟩
 have h8:lK s:=λt M=>by
  obtain⟨j,Q⟩:=mem_iff_getElem?.1 M;exact(E.2 j t Q).1
 have bad:¬JK s->kE h K (.val (.int .i64 70)) m h:=λT=>out h _ (.refl _) (Na E T);refine aF (λU=>bad λe=>?_) (λU=>aF (λV=>bad λe=>?_) (λV=>?_))
 .have:=e.1;omega
 .have:=e.2.1;omega
 clear L u g;refine⟨λi=>i<=s.tables.length/\fD Di s.tables i,λi=>s.tables.length-i,⟨0,⟨aD,.zero⟩,MT⟩,λi⟨L,u⟩=>aF (λf=>?_) (λg=>?_)⟩
 .obtain⟨t,c⟩:=eF P f;refine⟨v,s,t,i,rfl,C,c,λr B=>aC (λy=>bad λe=>?_) (λy=>⟨i+1,⟨aD,u.succ c (B.1 (bo y))⟩,by show s.tables.length-(i+1)<s.tables.length-i;omega,MT⟩)⟩;rw[B.2 (e.2.2.1 i t c)]at y;cases y
 have good:=u.all aD;clear L u g;refine⟨λi=>i<=s.tables.length/\fD (ES s.tables) s.tables i,λi=>s.tables.length-i,⟨0,⟨aD,.zero⟩,MT⟩,λi⟨L,u⟩=>aF (λf=>?_) (λg=>?_)⟩
 .obtain⟨t,c⟩:=eF P f;refine⟨v,s,t,i,rfl,C,good,c,λr B=>aC (λy=>bad λe=>?_) (λy=>⟨i+1,⟨aD,u.succ c (B.1 (bo y))⟩,by show s.tables.length-(i+1)<s.tables.length-i;omega,MT⟩)⟩;rw[B.2 (e.2.2.2 i t c)]at y;cases y
 have F:=u.all aD;clear L u g;have ok:JK s:=⟨aD,aD,good,F⟩
 rw[JZ E ok]at out;refine⟨λ⟨i,c⟩=>i<=s.tables.length/\PH.le h c/\∀j<i,∀x∈vX s j,x=0,λ⟨i,_⟩=>s.tables.length-i,⟨(0,h),⟨aD,.refl _,λj Q=>by omega⟩,MT⟩,?_⟩;rintro⟨i,c⟩ ⟨L,n,W⟩;dsimp only;refine aF (λf=>?_) (λg=>out c _ n (CS _ λe he=>?_))
 .obtain⟨t,M⟩:=eF P f;obtain⟨b,o,w,S,B,d⟩:=(C.mono n).tables.at M;have cl:=bV.slen d.checks;have cb:=bV.len d.checks;refine⟨b,o,S,aD,f,w.checks,.imm (bO.part B 4 1),?_⟩;refine⟨λ⟨i',k,cs,R⟩=>i'=i/\cs=w.checks/\k<=t.checks.length/\PH.le c R/\∀x∈(vX s i).take k,x=0,λ⟨_,k,_,_⟩=>t.checks.length-k,⟨(i,0,w.checks,c),⟨rfl,rfl,aD,.refl _,λx c=>by simp at c⟩,MT⟩,?_⟩;rintro⟨i,k,_,R⟩ ⟨rfl,rfl,hk,z,G⟩;dsimp only;have H:PH.le h R:=n.trans z;refine aF (λD=>?_) (λa1=>⟨(i+1,R),⟨aD,H,SN W (k:=k) (by rw[Ll M];omega) G⟩,by show s.tables.length-(i+1)<s.tables.length-i;omega,MT⟩);obtain⟨p,X⟩:=eF cl D;obtain⟨b2,o2,pv,Y,O,I⟩:=(d.checks.mono z).at X;refine⟨b2,o2,Y,aD,D,pv,.imm O,v,s,i,rfl,C.mono H,h8,λsl h' A J=>⟨sl,⟨none,0,0⟩,pv,iA s i,[],p,rfl,J,⟨.nil _ _,bj⟩,I.mono A,aC (λZ=>?_) (λZ=>?_)⟩⟩
  .exact out h' _ (H.trans A) (LO aD W G (Dn M X) (bo Z))
  .exact⟨(i,k+1,w.checks,h'),⟨rfl,rfl,by show k+1<=t.checks.length;omega,z.trans A,Pa (Dn M X) G (bo Z)⟩,by show t.checks.length-(k+1)<t.checks.length-k;omega,MT⟩
 .obtain⟨j,Q,c⟩:=mem_flatMap.1 he;exact W j (by have:=mem_range.1 Q;omega) e c
mutual
def pC:Query->Int->Int
 |.mk _ _ _ _ _ _ _ _ args,n=>kK args (n+1)
def kK:cg->Int->Int
 |[],n=>n
 |p::ps,n=>if n<=24 then kK ps (pC p n)else n
end
mutual
def rZ:Query->Nat->Bool
 |.mk _ _ _ _ _ _ _ _ _,0=>true
 |.mk _ _ _ _ _ _ _ _ args,n+1=>Ae args n
def Ae:cg->Nat->Bool
 |[],_=>false
 |p::ps,n=>rZ p n||Ae ps n
end
mutual
theorem Dw:∀(p:Query)(n:Int),n<=24->n<pC p n/\pC p n<=25
 |.mk _ _ _ _ _ _ _ _ args,n,h=>by
  have:=G9 args (n+1) aD;simp only[pC];omega
theorem G9:∀(ps:cg)(n:Int),n<=25->n<=kK ps n/\kK ps n<=25
 |[],n,h=>by simp only[kK];omega
 |p::ps,n,h=>by
  simp only[kK];split
  .rename_i c;have d:=Dw p n c;have e:=G9 ps (pC p n) d.2;omega
  .omega
end
theorem RU(ps:cg){n:Int}(h:¬n<=24):kK ps n=n:=by
 cases ps
 .simp[kK]
 .simp only[kK,if_neg h]
theorem Jw(n:Nat):∀ps:cg,Ae ps n=ps.any (rZ · n)
 |[]=>by simp[Ae]
 |p::ps=>by simp[Ae,Jw n ps]
theorem eO.args{p:Query}(r:eO h p v):ER h v.args p.args:=by
 cases p;exact r.parts.args_
def uY(q:Query):Bool:=decide (pC q 0<=24)&& !rZ q 8
def arity(op:Int):Int:=
 if op==1 then 0 else if op==2||op==3||op==9 then 1 else if op==4||op==5||op==6||op==7||op==8||op==10 then 2 else-1
def SE(N:Nat):Vc.Spec:=λc m h K=>∃v p k,c=[aQ v,cI k,cI 24]/\eO h p v/\SizeOf.sizeOf p<N/\0<=k/\k<=24/\K (cI (pC p k)) m h
def OQ(N:Nat):Vc.Spec:=λc m h K=>∃v p,∃k:Nat,c=[aQ v,cI k]/\eO h p v/\SizeOf.sizeOf p<N/\k<=100/\K (cB (rZ p k)) m h
def SA:Vc.Spec:=λc m h K=>∃v p,c=[aQ v]/\eO h p v/\K (cB (uY p)) m h
def OT:Vc.Spec:=λc m h K=>∃op,c=[cI op]/\K (cI (arity op)) m h
def BM(l:bt)(n:Int):Bool:=decide (0<=n)&&decide (n<l.length)
def InS:Vc.Spec:=λc m h K=>∃s l n,c=[cS s,cI n]/\Ints h s l/\K (cB (BM l n)) m h
noncomputable def beQ(N:Nat)(v:QV)(m:MH)(h:PH):Ctx:=
 cW [(63,SE N)] [(3,{A:=Nat×Int,st:=λx=>bY 31 34 [(1,iv x.2),(2,iv 24),(3,.at (.ptr 3 0)),(7,iv x.1)] [(3,.cells 35 (v.enc.map .val))] m h})] [] [] false
noncomputable def bdJ(N:Nat)(v:QV)(k:Nat)(m:MH)(h:PH):Ctx:=
 cW [(64,OQ N)] [(4,{A:=Nat,st:=λi=>bY 23 25 [(1,iv k),(2,.at (.ptr 2 0)),(10,iv v.args.len),(11,iv i)] [(2,.cells 35 (v.enc.map .val))] m h})] [] [] false
abbrev fA(a:QV):Prop:=eQ (mZ 35 a.enc)
attribute [push_cast] fA
def Um(N:Nat)(v:QV)(k:Int)(m:MH)(h:PH)(K:bu):Prop:=
  ∃(I:Nat×Int->Prop)(e:Nat×Int->Nat),(∃(x:Nat×Int),aA (I x) (dA (iE (k+1)) x.2) (aA (dO 24) dR (aA (bF x.1) (fA v) (aA (m=m) (h=h) True))))/\∀(x:Nat×Int),I x->bA (↑x.1:Int) (aG v.args) (branch (decide (x.2<=24)) (aW (λb o=>aI (aX v.args.a b o) (0<=(↑x.1:Int)) ((↑x.1:Int)<aG v.args) (∃(y:QV),aU m h b (bN o x.1 21) y.enc/\vG (λf p=>∃(c:Int),aA (cC y::bT (eG x.2) 24=cC f::bT (eG c) 24) (eO h p f) (aA (Ao p N) (bZ c) (c<=24/\∃(d:Nat×Int),aA (I d) (e d<e x) (aA (dA (pC p c) d.2) (dO 24) (aA dR (fU (bG x.1 1)=bP d.1) (aA (fA v) (m=m) (bD h h)))))))))) (K (eG x.2) m h)) (K (eG x.2) m h)
def Ul(N:Nat)(v:QV)(k:Nat)(m:MH)(h:PH)(K:bu):Prop:=
  dZ (↑k:Int) 0 (fJ K m h) (mP (λI x=>aA (I x) (eQ (bP k)) (aA fG (bI v.args) (aA (bF x) (fA v) (aA (m=m) (h=h) True)))) (λI e x=>I x->bA (↑x:Int) (aG v.args) (aW (λb o=>aI (aX v.args.a b o) (0<=(↑x:Int)) ((↑x:Int)<aG v.args) (∃(y:QV),aU m h b (bN o x 21) y.enc/\vG (λf p=>∃(c:Nat),aA (bT (cC y) (iE ((↑k:Int)-1))=bT (cC f) (↑c:Int)) (eO h p f) (aA (Ao p N) (c<=100) (branch (rZ p c) (fJ K m h) (∃(d:Nat),aA (I d) (e d<e x) (aA (eQ (bP k)) fG (aA (bI v.args) (fU (bG x 1)=bP d) (aA (fA v) (m=m) (bD h h))))))))))) (K bB m h)))
def UG(N:Nat)(v:QV)(m:MH)(h:PH)(K:bu):Prop:=
  vG (λe p=>∃(k:Int),aA (cC v::bT (eG 0) 24=cC e::bT (eG k) 24) (eO h p e) (aA (Ao p N) (bZ k) (fB (k<=24) (decide (pC p k<=24)) (vG (λf c=>∃(d:Nat),aA (bT (cC v) 8=bT (cC f) (↑d:Int)) (eO h c f) (aA (Ao c N) (d<=100) (K (CV.val (Value.bool (!(rZ c d)))) m h)))) (K bB m h))))
def T4(op:Int)(m:MH)(h:PH)(K:bu):Prop:=
  dJ (op==1) (K (eG 0) m h) (op==2) (K (eG 1) m h) (dJ (op==3) (K (eG 1) m h) (op==9) (K (eG 1) m h) (dJ (op==4) (K (eG 2) m h) (op==5) (K (eG 2) m h) (dJ (op==6) (K (eG 2) m h) (op==7) (K (eG 2) m h) (dJ (op==8) (K (eG 2) m h) (op==10) (K (eG 2) m h) (K (eG (Int.negSucc 0)) m h)))))
def Qv(s:Sl)(n:Int)(m:MH)(h:PH)(K:bu):Prop:=
  fQ n 0 (K (xZ (decide (n<aG s))) m h) (K bB m h)
theorem Yq:∀N,br 63 (SE N)
 |0=>by
  refine eV (fn:=Tryz.f63) (c:=cL Tryz.f63) func63 rfl bk ?_;rintro y m h K ⟨v,p,k,rfl,D,F,_⟩;omega
 |N+1=>by
  refine hJ func63 ?_;rintro y m h K ⟨v,p,k,rfl,D,F,J,L,E⟩;refine⟨beQ N v m h,rfl,aE (Yq N) aH,Um N v k m h K,bi,?_⟩;dsimp only[Um,push_cast];have d:=D.args;have e:=d.slen;have M:=d.len;refine⟨λx=>x.1<=p.args.length/\0<=x.2/\x.2<=25/\kK (p.args.drop x.1) x.2=pC p k,λx=>p.args.length-x.1,⟨(0,k+1),⟨bj,by simp;omega,by simp;omega,?_⟩,?_⟩,?_⟩
  .cases p;simp[pC,Query.args]
  .rw[dT aD aD];exact MT
  rintro⟨i,n⟩ ⟨G,f,z,g⟩;dsimp only at G f z g⊢
  refine aF (λj=>aF (λt=>?_) (λt=>zY E ?_)) (λH=>zY E ?_)
  .obtain⟨q,A⟩:=eF e j;obtain⟨b,o,u,I,B,C⟩:=d.at A;have O:=Dw q n t;rw[drop_cons A,kK,if_pos t]at g;refine⟨b,o,I,aD,j,u,.imm B,u,q,n,rfl,C,?_,f,t,(i+1,pC q n),⟨by dsimp only;omega,by dsimp only;omega,by dsimp only;omega,g⟩,by dsimp only;omega,MT⟩;have:=zZ (mem_of_getElem? A);omega
  .rw[<-g,RU _ t]
  .rw[<-g,drop_of_length_le aD];simp[kK]
theorem Yp:∀N,br 64 (OQ N)
 |0=>by
  refine eV (fn:=Tryz.f64) (c:=cL Tryz.f64) func64 rfl bk ?_;rintro x m h K ⟨v,p,k,rfl,C,F,_⟩;omega
 |N+1=>by
  refine hJ func64 ?_;rintro x m h K ⟨v,p,k,rfl,C,F,I,j⟩;refine⟨bdJ N v k m h,rfl,aE (Yp N) aH,Ul N v k m h K,bi,?_⟩;dsimp only[Ul,push_cast];have d:=C.args;have f:=d.slen;have J:=d.len;refine aC (λn=>iW j ?_) (λn=>?_)
  .have:k=0:=by have:(k:Int)=0:=(bo n);omega
   subst this;cases p;simp[rZ]
  .have n:k≠0:=by intro e;subst e;simp at n
   have y:rZ p k=p.args.any (rZ · (k-1)):=by
    obtain⟨D,rfl⟩:∃D,k=D+1:=⟨k-1,aD⟩
    cases p;simp[rZ,Jw,Query.args]
   rw[y]at j;refine⟨λi=>i<=p.args.length/\(p.args.take i).any (rZ · (k-1))=false,λi=>p.args.length-i,⟨0,⟨aD,bj⟩,MT⟩,λi E=>aF (λg=>?_) (λG=>iW j ?_)⟩
   .obtain⟨q,t⟩:=eF f g;obtain⟨b,o,u,H,z,A⟩:=d.at t;refine⟨b,o,H,aD,g,u,.imm z,u,q,k-1,?_,A,?_,aD,aC (λB=>iW j ?_) (λB=>?_)⟩
    .rw[dT aD aD,show((k-1:Nat):Int)=(k:Int)-1 by omega]
    .have:=zZ (mem_of_getElem? t);omega
    .rw[any_eq_true];exact⟨q,mem_of_getElem? t,B⟩
    .refine⟨i+1,⟨aD,?_⟩,by show p.args.length-(i+1)<p.args.length-i;omega,MT⟩;rw[take_add_one,any_append,E.2,t];simpa using B
   .have:=E.2
    rwa [take_of_length_le aD]at this
theorem P6:br 21 SA:=by
 refine hJ func21 ?_;rintro f m h K ⟨v,p,rfl,d,e⟩;refine⟨cW [(63,SE (SizeOf.sizeOf p+1)),(64,OQ (SizeOf.sizeOf p+1))] [] [] [] false,rfl,aE (Yq _) (aE (Yp _) aH),UG (SizeOf.sizeOf p+1) v m h K,bi,?_⟩;dsimp only[UG,push_cast];refine⟨v,p,0,rfl,d,aD,aD,aD,aC (λc=>⟨v,p,8,rfl,d,aD,aD,iW e ?_⟩) (λc=>iW e ?_)⟩
 .simp only[uY,c,Bool.true_and]
 .simp only[uY,c,Bool.false_and]
theorem PG:br 94 OT:=by
 refine hJ func94 ?_;rintro d m h K ⟨op,rfl,c⟩;refine⟨cW [] [] [] [] false,rfl,aH,T4 op m h K,bi,?_⟩;dsimp only[T4,push_cast]
 repeat' (first|(refine aC (λ_=>?_) (λ_=>?_))|(refine zY c ?_;simp only[arity];simp only[*,Bool.or_false,Bool.false_or,Bool.or_true,Bool.true_or,Bool.and_true,Bool.true_and,Bool.and_false,Bool.false_and,Bool.not_true,Bool.not_false,Bool.false_eq_true,if_true,if_false, ↓reduceIte];done)|(refine zY c ?_;simp only[arity];simp only[*,Bool.or_false,Bool.false_or,Bool.or_true,Bool.true_or,Bool.and_true,Bool.true_and,Bool.and_false,Bool.false_and,Bool.not_true,Bool.not_false,Bool.false_eq_true,if_true,if_false, ↓reduceIte];rfl))
theorem HH:br 149 InS:=by
 refine hJ func149 ?_;rintro e m h K ⟨s,l,n,rfl,f,d⟩;refine⟨cW [] [] [] [] false,rfl,aH,Qv s n m h K,bi,?_⟩;dsimp only[Qv,push_cast];have g:=f.slen;refine aF (λc=>iW d ?_) (λc=>iW d ?_)
 .have c:0<=n:=c;simp only[BM,g,decide_eq_true c,Bool.true_and]
 .have c:¬0<=n:=by omega
  simp only[BM,decide_eq_false c,Bool.false_and]
def kX(a b:bt)(c:bz)(p:Int×Int):Prop:=BM a p.1=true/\BM b p.2=true/\a.getD p.1.toNat 0=b.getD p.2.toNat 0/\∀q∈c,q.1≠p.1/\q.2≠p.2
def EI(a:bt)(d:bt)(c:Int):Prop:=BM a c=true/\c∉d
def HP(a:bt)(_:ca)(o:Int×Bool):Prop:=BM a o.1=true
structure kT(a:bt)(group:bt)(order:ca)(limit:Int):Prop where
 group_:Good (EI a) group
 order_:Good (HP a) order
 len_:order.length<=12
 low:0<=limit
 high:limit<=100
def YM:Vc.Spec:=λc m h K=>∃s t u on a b,c=[cS s,cS t,cS u]/\iD h s on/\Ints h t a/\Ints h u b/\∀r:Bool,(r=true↔Good (kX a b) on)->K (cB r) m h
def YK:Vc.Spec:=λc m h K=>∃v t g o a,c=[aQ v,cS t]/\Ints h v.group g/\jD h v.order o/\Ints h t a/\∀r:Bool,(r=true↔kT a g o v.limit)->K (cB r) m h
noncomputable def aHJ(s t u:Sl)(m:MH)(h:PH):Ctx:=
 cW [(149,InS)] [(2,{A:=Nat,st:=λi=>bY 66 69 [(0,sv s),(1,sv t),(2,sv u),(10,sv s),(11,iv s.len),(12,iv i)] [] m h}),
  (7,{A:=Nat×Nat×(Int×Int),st:=λ⟨i,k,p⟩=>bY 66 69 [(0,sv s),(1,sv t),(2,sv u),(7,iv i),(8,.at (.ptr 8 0)),(9,iv k),(10,sv s),(11,iv s.len),(12,iv i)] [(8,.cells 91 [.val (.int .i64 p.1),.val (.int .i64 p.2)])] m h})] [] [] false
noncomputable def aHZ(v:QV)(t:Sl)(m:MH)(h:PH):Ctx:=
 cW [(149,InS)] [(2,{A:=Nat,st:=λi=>bY 62 64 [(1,sv t),(2,.at (.ptr 2 0)),(11,sv v.group),(12,iv v.group.len),(13,iv i)] [(2,.cells 35 (v.enc.map .val))] m h}),
  (7,{A:=Nat×Nat×Int,st:=λ⟨i,k,c⟩=>bY 62 64 [(1,sv t),(2,.at (.ptr 2 0)),(5,iv i),(6,iv c),(7,iv k),(11,sv v.group),(12,iv v.group.len),(13,iv i)] [(2,.cells 35 (v.enc.map .val))] m h}),
  (13,{A:=Nat,st:=λi=>bY 62 64 [(1,sv t),(2,.at (.ptr 2 0)),(36,sv v.order),(37,iv v.order.len),(38,iv i)] [(2,.cells 35 (v.enc.map .val))] m h})] [] [] false
abbrev Ip(a:Sl)(b:Int)(c:PH)(d:bu)(e:MH)(g:Prop):Prop:=Bx (λx f=>∃(j:Int),aA (bT (dN a) b=bT (dN x) j) (Ints c x f) (qB (BM f j) (d bB e c) g))
abbrev eN:Prop:=eP 8
abbrev DN(a b:cr):Prop:=oQ 91 a=oQ 91 b
noncomputable abbrev uQ(a:Int×Int):cr:=mN (iI a.1) (iI a.2)
abbrev AE:Prop:=(0:Int)<2
abbrev AF:Prop:=(1:Int)<2
attribute [push_cast] Ip eN DN uQ AE AF
def Qu(s t u:Sl)(m:MH)(h:PH)(K:bu):Prop:=
  mP (λI x=>aA (I x) (aJ s) (aA (aJ t) (aJ u) (aA (aJ s) (bI s) (aA (bF x) (m=m) (bD h h))))) (λI e x=>I x->bA (↑x:Int) (aG s) (aW (λb o=>aI (aX s.a b o) (0<=(↑x:Int)) ((↑x:Int)<aG s) (∃(y:Int×Int),aI (aU m h b (bN o x 2) (tC y)) ((0:Int)<=0) ((0:Int)<2) (Ip t y.1 h K m (aA (bZ 1) ((1:Int)<2) (Ip u y.2 h K m (aA (bZ 0) ((0:Int)<2) (aW (λf g=>aI (aX t.a f g) (0<=y.1) (y.1<aG t) (∃(j:Int),aI (aU m h f (gC g y.1 1) (bJ j)) ((0:Int)<=1) ((1:Int)<2) (aW (λn z=>aI (aX u.a n z) (0<=y.2) (y.2<aG u) (∃(A:Int),aU m h n (gC z y.2 1) (bJ A)/\dC j A (K bB m h) (∃(I1:Nat×Nat×Int×Int->Prop)(B:Nat×Nat×Int×Int->Nat),(∃(c:Nat×Nat×Int×
 Int),aA (I1 c) (aJ s) (aA (aJ t) (aJ u) (aA (cJ x c.1) eN (aA (bF c.2.1) (aJ s) (aA (bI s) (cJ x c.1) (aA (DN (uQ y) (uQ c.2.2)) (m=m) (bD h h)))))))/\∀(c:Nat×Nat×Int×Int),I1 c->bA (↑c.2.1:Int) (↑c.1:Int) (aW (λC D=>aA (aX s.a C D) (bZ (↑c.2.1:Int)) (aA ((↑c.2.1:Int)<aG s) (bZ 0) (AE/\∃(E:Int),aI (aU m h C (bN D c.2.1 2+0) (bJ E)) ((0:Int)<=0) ((0:Int)<2) (dZ E c.2.2.1 (K bB m h) (aW (λF G=>aA (aX s.a F G) (bZ (↑c.2.1:Int)) (aA ((↑c.2.1:Int)<aG s) (bZ 1) (AF/\∃(H:Int),aI (aU m h F (bN G c.2.1 2+1) (bJ H)) ((0:Int)<=1) ((1:Int)<2) (dZ H c.2.2.2 (K bB m h) (∃(d:Nat×Nat×Int×Int),aA (I1 d) (B d<B c) (aA (aJ
 s) (aJ t) (aA (aJ u) (cJ c.1 d.1) (aA eN (fU (bG c.2.1 1)=bP d.2.1) (aA (aJ s) (bI s) (aA (cJ c.1 d.1) (DN (uQ c.2.2) (uQ d.2.2)) (bS (m=m) h h))))))))))))))))) (∃(d:Nat),aA (I d) (e d<e x) (aA (aJ s) (aJ t) (aA (aJ u) (aJ s) (aA (bI s) (fU (bG c.1 1)=bP d) (bS (m=m) h h))))))))))))))))))) (fJ K m h))
def Qt(v:QV)(t:Sl)(m:MH)(h:PH)(K:bu):Prop:=
  mP (λI x=>aA (I x) (aJ t) (aA fG (aJ v.group) (aA (bI v.group) (bF x) (aA (fA v) (m=m) (bD h h))))) (λI f x=>I x->bA (↑x:Int) (aG v.group) (aW (λb o=>aI (aX v.group.a b o) (0<=(↑x:Int)) ((↑x:Int)<aG v.group) (∃(y:Int),aU m h b (bN o x 1) (bJ y)/\Ip t y h K m (∃(I1:Nat×Nat×Int->Prop)(e:Nat×Nat×Int->Nat),(∃(c:Nat×Nat×Int),aA (I1 c) (aJ t) (aA fG (cJ x c.1) (aA (dA y c.2.2) (bF c.2.1) (aA (aJ v.group) (bI v.group) (mA (cJ x c.1) (fA v) (m=m) h h)))))/\∀(c:Nat×Nat×Int),I1 c->bA (↑c.2.1:Int) (↑c.1:Int) (aW (λg j=>aI (aX v.group.a g j) (0<=(↑c.2.1:Int)) ((↑c.2.1:Int)<aG v.group) (∃(n:Int),aU m h g (bN j c.2.1 1) (bJ n)/\dZ n c.2.2 (K
 bB m h) (∃(d:Nat×Nat×Int),aA (I1 d) (e d<e c) (aA (aJ t) fG (aA (cJ c.1 d.1) (dA c.2.2 d.2.2) (aA (fU (bG c.2.1 1)=bP d.2.1) (aJ v.group) (aA (bI v.group) (cJ c.1 d.1) (aA (fA v) (m=m) (bD h h)))))))))) (∃(d:Nat),aA (I d) (f d<f x) (aA (aJ t) fG (aA (aJ v.group) (bI v.group) (aA (fU (bG c.1 1)=bP d) (fA v) (bS (m=m) h h))))))))) (mP (λI1 c=>aA (I1 c) (aJ t) (aA fG (aJ v.order) (aA (bI v.order) (bF c) (aA (fA v) (m=m) (bD h h))))) (λI1 e c=>I1 c->bA (↑c:Int) (aG v.order) (aW (λb o=>aI (aX v.order.a b o) (0<=(↑c:Int)) ((↑c:Int)<aG v.order) (∃(y:Int×Bool),aU m h b (bN o c 2) (yR y)/\Ip t y.1 h K m (∃(d:Nat),aA (I1 d) (e d<e c)
 (aA (aJ t) fG (aA (aJ v.order) (bI v.order) (aA (fU (bG c 1)=bP d) (fA v) (bS (m=m) h h)))))))) (branch (decide (aG v.order<=12)) (fQ v.limit 0 (K (xZ (decide (v.limit<=100))) m h) (K bB m h)) (K bB m h)))))
theorem NG{α:Type}{l:List α}{k:Nat}{x:α}(c:l[i]? =some x)(d:i<k):x∈l.take k:=mem_of_getElem? (i:=i) (by rw[getElem?_take,if_pos d,c])
theorem S4{α:Type}{l:List α}{x y:α}(d:l[i]? =some x)(c:y∈l.take (i+1)):y∈l.take i\/y=x:=by
 rw[take_add_one,d,mem_append]at c;rcases c with h|h
 .exact .inl h
 .simp at h;exact .inr h
theorem dW{n:Int}:BM l n=true↔0<=n/\n<l.length:=by simp[BM]
theorem WY:br 150 YM:=by
 refine hJ func150 ?_;rintro T m h K ⟨s,t,u,on,a,b,rfl,o,A,B,G⟩;refine⟨aHJ s t u m h,rfl,aE HH aH,Qu s t u m h K,bi,?_⟩;dsimp only[Qu,push_cast];have U:=o.slen;have H:=o.len;have ta:=A.slen;have ub:=B.slen;refine⟨λi=>i<=on.length/\fD (kX a b) on i,λi=>on.length-i,⟨0,⟨aD,.zero⟩,MT⟩,λi⟨hi,I⟩=>aF (λf=>?_) (λV=>G true ⟨λ_=>I.all aD,λ_=>rfl⟩)⟩;obtain⟨p,C⟩:=eF U f;obtain⟨W,X,Y,Z⟩:=o.at C;have bad:¬kX a b (on.take i) p->K (.val (.bool false)) m h:=λhn=>G false ⟨λe=>(by cases e),λe=>(Good.not C hn e).elim⟩;refine⟨W,X,Y,aD,f,p,.imm Z,aD,aD,t,a,p.1,rfl,A,aC (λx=>bad λc=>?_) (λx=>⟨aD,aD,u,b,p.2,rfl,B,aC (λy=>bad λc=>?_) (λy=>?_)⟩)⟩
 .rw[c.1]at x;cases x
 .rw[c.2.1]at y;cases y
 have J:BM a p.1=true:=bo x
 have L:BM b p.2=true:=bo y
 have g:=dW.1 J;have j:=dW.1 L;obtain⟨b2,o2,e2,r2⟩:=A.inb g.1 g.2;obtain⟨b3,o3,e3,r3⟩:=B.inb j.1 j.2;refine⟨aD,aD,b2,o2,e2,aD,aD,_,.imm r2,aD,aD,b3,o3,e3,aD,aD,_,.imm r3,aC (λz=>bad λc=>?_) (λz=>?_)⟩
 .rw[c.2.2.1]at z;simp at z
 refine⟨λ⟨i',k,p'⟩=>i'=i/\p'=p/\k<=i/\∀q∈on.take k,q.1≠p.1/\q.2≠p.2,λ⟨_,k,_⟩=>i-k,⟨(i,0,p),⟨rfl,rfl,aD,λq d=>by simp at d⟩,MT⟩,?_⟩;rintro⟨i,k,p⟩ ⟨rfl,rfl,hk,n⟩;dsimp only;refine aF (λM=>?_) (λO=>?_)
 .obtain⟨q,d⟩:∃q,on[k]? =some q:=⟨on[k]'(by omega),getElem?_eq_getElem _⟩
  obtain⟨P,Q,R,S⟩:=o.at d;refine⟨P,Q,R,aD,aD,aD,aD,q.1,.imm (bO.part S 0 1),aD,aD,aC (λD=>bad λc=>?_) (λD=>⟨P,Q,R,aD,aD,aD,aD,q.2,.imm (bO.part S 1 1),aD,aD,aC (λE=>bad λc=>?_) (λE=>?_)⟩)⟩
  .exact(c.2.2.2 q (NG d aD)).1 (bo D)
  .exact(c.2.2.2 q (NG d aD)).2 (bo E)
  .refine⟨(i,k+1,p),⟨rfl,rfl,by show k+1<=i;omega,λq' F=>?_⟩,by show i-(k+1)<i-k;omega,MT⟩;rcases S4 d F with e|rfl
   .exact n q' e
   .exact⟨bo D,bo E⟩
 .have:k=i:=by omega
  subst this;exact⟨k+1,⟨aD,I.succ C ⟨J,L,bo z,n⟩⟩,by show on.length-(k+1)<on.length-k;omega,MT⟩
theorem WX:br 151 YK:=by
 refine hJ func151 ?_;rintro U m h K ⟨v,t,g,o,a,rfl,B,C,L,M⟩;refine⟨aHZ v t m h,rfl,aE HH aH,Qt v t m h K,bi,?_⟩;dsimp only[Qt,push_cast];have V:=B.slen;have O:=B.len;have W:=C.slen;have P:=C.len;have bad:¬kT a g o v.limit->K (.val (.bool false)) m h:=λX=>M false ⟨λe=>(by cases e),λe=>(X e).elim⟩;refine⟨λi=>i<=g.length/\fD (EI a) g i,λi=>g.length-i,⟨0,⟨aD,.zero⟩,MT⟩,λi⟨Q,u⟩=>aF (λd=>?_) (λx=>?_)⟩
 .obtain⟨c,n⟩:=eF V d;obtain⟨D,E,F,G⟩:=B.at' n;refine⟨D,E,F,aD,d,c,.imm G,t,a,c,rfl,L,aC (λf=>bad λj=>Good.not n (λy=>?_) j.group_) (λf=>?_)⟩
  .rw[y.1]at f;cases f
  refine⟨λ⟨Y,k,Z⟩=>Y=i/\Z=c/\k<=i/\c∉g.take k,λ⟨_,k,_⟩=>i-k,⟨(i,0,c),⟨rfl,rfl,aD,bj⟩,MT⟩,?_⟩;rintro⟨i,k,c⟩ ⟨rfl,rfl,hk,z⟩;dsimp only;refine aF (λR=>?_) (λS=>?_)
  .obtain⟨q,H⟩:∃q,g[k]? =some q:=⟨g[k]'(by omega),getElem?_eq_getElem _⟩
   obtain⟨b4,o4,e4,r4⟩:=B.at' H;refine⟨b4,o4,e4,aD,aD,q,.imm r4,aC (λI=>bad λj=>Good.not n (λy=>?_) j.group_) (λI=>?_)⟩
   .refine y.2 ?_;have:q=c:=bo I
    rw[<-this];exact NG H aD
   .refine⟨(i,k+1,c),⟨rfl,rfl,by show k+1<=i;omega,λJ=>?_⟩,by show i-(k+1)<i-k;omega,MT⟩;rcases S4 H J with e|rfl
    .exact z e
    .simp at I
  .have:k=i:=by omega
   subst this;exact⟨k+1,⟨aD,u.succ n ⟨bo f,z⟩⟩,by show g.length-(k+1)<g.length-k;omega,MT⟩
 have gg:=u.all aD;clear Q u x;refine⟨λi=>i<=o.length/\fD (HP a) o i,λi=>o.length-i,⟨0,⟨aD,.zero⟩,MT⟩,λi⟨Q,A⟩=>aF (λd=>?_) (λx=>?_)⟩
 .obtain⟨c,n⟩:=eF W d;obtain⟨D,E,F,G⟩:=C.at n;refine⟨D,E,F,aD,d,c,.imm G,t,a,c.1,rfl,L,aC (λf=>bad λj=>Good.not n (λy=>?_) j.order_) (λf=>⟨i+1,⟨aD,A.succ n (by simpa[HP]using f)⟩,by show o.length-(i+1)<o.length-i;omega,MT⟩)⟩;rw[show BM a c.1=true from y]at f;cases f
 have oo:=A.all aD;refine aF (λf=>aF (λT=>?_) (λT=>bad λj=>?_)) (λf=>bad λj=>?_)
 .refine M (decide (v.limit<=100)) ⟨λe=>⟨gg,oo,aD,T,bo e⟩,λe=>decide_eq_true e.high⟩
 .have:=j.low;omega
 .have:=j.len_;omega
def eJ:Pred:=.mk 0 0 eT eT []
def cO:Query->Prop
 |.mk op ta w co on gr od li _=>(op=1\/ta=0)/\(op=2\/w=eJ)/\(op=3\/co=[])/\(op=4\/op=5\/on=[])/\(op=9\/op=10\/(gr=[]/\od=[]/\li=0))
def kR(l:bt):bt×Int:=if l.length<=12 then(l,0)else([],2)
def dG(e:Int):bt×Int:=([],e)
open Classical in
noncomputable def dQ(s:iJ)(ps:bt)(q:Query)(a b:bt):bt×Int:=
 if arity (match q with|.mk op .. =>op)<0\/¬cO q then dG 100 else
 match q with
 |.mk op ta w co on gr od li _=>
  if op=1 then(if 0<=ta/\ta<s.tables.length then kR (iA s ta)else dG 100)
  else if op=2 then(if fR a ps w=0 then kR a else dG (fR a ps w))
  else if op=3 then(if co≠[]/\Good (λ_ c=>BM a c=true) co then kR (co.map λc=>a.getD c.toNat 0)else dG 100)
  else if op=4 then(if Good (kX a b) on then kR (a++b)else dG 100)
  else if op=5 then(if Good (kX a b) on then kR a else dG 100)
  else if op=9 then(if kT a gr od li then kR a else dG 100)
  else if op=10 then(if a=b/\kT a gr od li then kR a else dG 100)
  else(if a=b then kR a else dG 100)
def YE:Vc.Spec:=λc m h K=>∃v q,c=[aQ v]/\eO h q v/\∀r:Bool,(r=true↔cO q)->K (cB r) m h
def KR(K:bu)(m:MH)(h:PH)(r:bt×Int):Prop:=∀c h',PH.le h h'->Ints h' c r.1->K (.tup [cS c,cI r.2]) m h'
def buJ:Vc.Spec:=λc m h K=>∃sc p v a b s ps q d e,c=[aS sc,cS p,aQ v,cS a,cS b]/\gA h s sc/\lK s/\Ints h p ps/\eO h q v/\Ints h a d/\Ints h b e/\d.length<=12/\e.length<=12/\KR K m h (dQ s ps q d e)
noncomputable def a8X(m:MH):Ctx:=
 cW [(94,OT),(148,YE),(59,uK),(57,sO),(149,InS),(150,YM),(151,YK),(42,BH)] [(20,{A:=Nat×Sl×Sl×bt×PH,st:=λ⟨i,a,co,l,h⟩=>bY 121 126 [(3,sv a),(12,.at (.lst 94)),(78,sv co),(79,iv co.len),(80,iv i)] [(94,.lst 3 1 (l.map eI))] m h})] [] [] false
noncomputable def aIQ(v:QV)(m:MH)(h:PH):Ctx:=
 bTJ [(43,bqQ)] [] [(2,{A:=Bool,st:=λr=>bY 78 79 [(1,.at (.ptr 1 0)),(3,bv r)] [(1,.cells 35 (v.enc.map .val))] m h})] [(2,[(9,{A:=Bool×Bool,st:=λx=>bY 78 79 [(1,.at (.ptr 1 0)),(3,bv x.1),(20,bv x.2)] [(1,.cells 35 (v.enc.map .val))] m h}),
  (11,{A:=Bool×Bool,st:=λx=>bY 78 79 [(1,.at (.ptr 1 0)),(3,bv x.1),(31,bv x.2)] [(1,.cells 35 (v.enc.map .val))] m h}),
  (11,{A:=Bool×Bool,st:=λx=>bY 78 79 [(1,.at (.ptr 1 0)),(3,bv x.1),(42,bv x.2)] [(1,.cells 35 (v.enc.map .val))] m h}),
  (16,{A:=Bool×Bool,st:=λx=>bY 78 79 [(1,.at (.ptr 1 0)),(3,bv x.1),(58,bv x.2)] [(1,.cells 35 (v.enc.map .val))] m h})])] [] false
abbrev i7(a b:Bool):Prop:=sQb a=sQb b
abbrev wF(a:Bool):Prop:=i7 true a
abbrev IJ(a:Prop)(b:(Bool×Bool->Prop)->Prop)(c:(Bool×Bool->Prop)->(Bool×Bool)->Prop):Prop:=a->∃(x:Bool×Bool->Prop),b x/\∀(d:Bool×Bool),c x d
noncomputable abbrev iT:bw:=kL pO
abbrev Gb(a:Bool×Bool->Prop)(b:Bool×Bool)(c:(Bool×Bool)->Prop)(d:QV)(e:MH)(g:PH):Prop:=∃(x:Bool×Bool),aA (a x) eM (aA (i7 b.1 x.1) (c x) (aI (fA d) (e=e) (g=g) True))
abbrev CK(a:Bool):Prop:=i7 false a
noncomputable abbrev Cp(a:QV):Int:=aG a.columns
attribute [push_cast] i7 wF IJ iT Gb CK Cp
def Qw(v:QV)(m:MH)(h:PH)(K:bu):Prop:=
  ∃(I:Bool->Prop),dZ v.op 9 (∃(x:Bool),aA (I x) eM (aA (wF x) (fA v) (bS (m=m) h h))) (∃(x:Bool),aA (I x) eM (aA (i7 (v.op==10) x) (fA v) (bS (m=m) h h)))/\∀(x:Bool),IJ (I x) (λI1=>dZ v.op 1 (∃(e:Bool×Bool),aA (I1 e) eM (aA (i7 x e.1) (wF e.2) (aI (fA v) (m=m) (h=h) True))) (∃(e:Bool×Bool),aA (I1 e) eM (aA (i7 x e.1) (i7 (v.table==0) e.2) (aI (fA v) (m=m) (h=h) True)))) (λI1 e=>IJ (I1 e) (λI2=>branch e.2 (dZ v.op 2 (∃(d:Bool×Bool),aA (I2 d) eM (aA (i7 e.1 d.1) (wF d.2) (aI (fA v) (m=m) (h=h) True))) (II (λg w p q=>aI (bK (cZ v.where_) (lG (aR bL bL (aR bL bL (aR bL bL (aR E8 bL (aR bL bL (aR bL E8
 iT)))))))=bK (cZ g) (cZ w)) (eH h p g) (eH h q w) (∀(r:Bool),fV r (p=q)->Gb I2 e (λd=>i7 r d.2) v m h)))) (∃(d:Bool×Bool),aA (I2 d) eM (aA (i7 e.1 d.1) (CK d.2) (aI (fA v) (m=m) (h=h) True)))) (λI2 d=>IJ (I2 d) (λI3=>branch d.2 (dZ v.op 3 (∃(c:Bool×Bool),aA (I3 c) eM (aA (i7 d.1 c.1) (wF c.2) (aI (fA v) (m=m) (h=h) True))) (Gb I3 d (λc=>i7 (Cp v==0) c.2) v m h)) (∃(c:Bool×Bool),aA (I3 c) eM (aA (i7 d.1 c.1) (CK c.2) (aI (fA v) (m=m) (h=h) True)))) (λI3 c=>IJ (I3 c) (λI4=>branch c.2 (dJ (v.op==4) (Gb I4 c (λf=>wF f.2) v m h) (v.op==5) (Gb I4 c (λf=>wF f.2) v m h) (Gb I4 c (λf=>i7 (aG v.on==0) f.2) v m
 h)) (∃(f:Bool×Bool),aA (I4 f) eM (aA (i7 c.1 f.1) (CK f.2) (aI (fA v) (m=m) (h=h) True)))) (λI4 f=>gL (I4 f) f.2 (dJ f.1 (fJ K m h) (aG v.group==0) (dZ (aG v.order) 0 (K (xZ (v.limit==0)) m h) (K bB m h)) (K bB m h)) (K bB m h)))))
abbrev bU(a:bu)(b:Int)(c:MH)(d:PH):Prop:=a (CV.tup (bT CZ b)) c d
abbrev lL(a:bu)(b:Sl)(c:Nat->Option Obj)(d:PH):Prop:=a (CV.tup (bT (dN b) 0)) c d
noncomputable abbrev j8(a:Int):Bool:=a !=0
noncomputable abbrev qF(a:List bw):Int:=(↑a.length:Int)
abbrev rN(a:Nat->Nat->Option Value)(b:List bw)(c:bu)(d:Nat->Option Obj):Prop:=cG a 1 b (λx e=>lL c x d e)
noncomputable abbrev yO(a:Nat×Sl×Sl×bt×PH):Sl:=a.2.2.1
noncomputable abbrev Cb(a:Nat×Sl×Sl×bt×PH):List bw:=oE a.2.2.2.1
noncomputable abbrev yP(a:Nat×Sl×Sl×bt×PH):Nat->Nat->Option Value:=a.2.2.2.2
abbrev Ke(a:Sl->bz->Prop):Prop:=∃(x:Sl)(c:bz),a x c
abbrev tS(a b:List bw)(c:Nat):Prop:=iF (jJ a b.length) c
abbrev oS(a b:List bw):Prop:=oL (jJ a b.length)
abbrev Nz(a:Sl->bt->ca->Prop):Prop:=Bx (λx c=>∃(d:ca),a x c d)
attribute [push_cast] bU lL j8 qF rN yO Cb yP Ke tS oS Nz
def NY(sc:cN)(p:Sl)(v:QV)(a b:Sl)(m:MH)(h:PH)(K:bu):Prop:=
  ∃(o:Int),kH v.op o/\bA (arity o) 0 (bU K 100 m h) (vG (λC q=>oB (cC v) (cC C) (eO h q C) (∀(r:Bool),gL (fV r (cO q)) (!r) (bU K 100 m h) (∃(y:List bw),aA (eW 1 y) (dK h (Sl.mk a.a a.len a.cap) 1 y) (aA (iF y.length 8) (oL y.length) (dJ (v.op==1) (bA v.table 0 (bU K 100 m h) (fQ v.table (i6 sc) (bU K 100 m h) (AK (bT (bQ sc) v.table) h (λs D=>gM (aG s) 12 (bU K 2 m D) (lL K s m D))))) (v.op==2) (DQ (dN a::bK (dN p) (cZ v.where_)) h (λc E F=>mS (j8 (fR c E F)) (bU K (fR c E F) m h) (qF y) 12 (bU K 2 m h) (rN h y K m))) (dJ (v.op==3) (dZ (Cp v) 0 (bU K 100 m h) (∃(I:Nat×Sl×Sl×bt×PH->Prop)(G:Nat×Sl×Sl×bt×PH->Nat),(∃(x:
 Nat×Sl×Sl×bt×PH),aA (I x) (bH a x.2.1) (aA (eL 94) (bH v.columns (yO x)) (aA (cF v.columns (yO x)) (bF x.1) (aA (rJ (Cb x)) (m=m) (bD h (yP x))))))/\∀(x:Nat×Sl×Sl×bt×PH),I x->bA (↑x.1:Int) (aG (yO x)) (aW (λj e=>aI (aX (yO x).a j e) (0<=(↑x.1:Int)) ((↑x.1:Int)<aG (yO x)) (∃(d:Int),aU m (yP x) j (bN e x.1 1) (bJ d)/\Bx (λs l=>∃(n:Int),aA (bT (dN x.2.1) d=bT (dN s) n) (Ints (yP x) s l) (qB (BM l n) (bU K 100 m (yP x)) (aW (λH J=>aI (aX x.2.1.a H J) (0<=d) (d<aG x.2.1) (∃(L:Int),aI (aU m (yP x) H (gC J d 1) (bJ L)) (iF (jJ (Cb x) 1) 8) (lO (Cb x)) (∃(B:Nat×Sl×Sl×bt×PH),aA (I B) (G B<G
 x) (aA (bH x.2.1 B.2.1) (eL 94) (aA (bH (yO x) (yO B)) (cF (yO x) (yO B)) (aA (fU (bG x.1 1)=bP B.1) (rK (Cb x) L (Cb B)) (bS (m=m) (yP x) (yP B)))))))))))))) (gM (qF (Cb x)) 12 (bU K 2 m (yP x)) (rN (yP x) (Cb x) K m)))) (v.op==4) (lE (λs t=>Ke (λu e=>HA (λz j=>aA (dN v.on::bK (dN a) (dN b)=dN s::bK (dN t) (dN u)) (iD h s e) (aA (Ints h t z) (Ints h u j) (∀(f:Bool),fV f (Good (kX z j) e)->dJ (!f) (bU K 100 m h) (v.op==4) (∃(d:List bw),aA (eW 1 d) (dK h (Sl.mk b.a b.len b.cap) 1 d) (aA (tS y d 8) (oS y d) (gM (qF (y++d)) 12 (bU K 2 m h) (rN h (y++d) K m)))) (gM (qF y) 12 (bU K 2 m h) (rN h y K m)))))))) (dJ
 (v.op==5) (lE (λs t=>Ke (λu e=>HA (λz j=>aA (dN v.on::bK (dN a) (dN b)=dN s::bK (dN t) (dN u)) (iD h s e) (aA (Ints h t z) (Ints h u j) (∀(f:Bool),fV f (Good (kX z j) e)->dJ (!f) (bU K 100 m h) (v.op==4) (∃(d:List bw),aA (eW 1 d) (dK h (Sl.mk b.a b.len b.cap) 1 d) (aA (tS y d 8) (oS y d) (gM (qF (y++d)) 12 (bU K 2 m h) (rN h (y++d) K m)))) (gM (qF y) 12 (bU K 2 m h) (rN h y K m)))))))) (v.op==9) (∃(A:QV),Nz (λt g e=>∃(z:bt),aA (bK (cC v) (dN a)=bK (cC A) (dN t)) (Ints h A.group g) (aA (jD h A.order e) (Ints h t z) (∀(f:Bool),fV f (kT z g e A.limit)->mS (!f) (bU K 100 m h) (qF y) 12 (bU K 2 m h) (rN h y K m))))) (yJ a b h (fun
 z j f=>fV f (z=j)->dJ (!f) (bU K 100 m h) (v.op==10) (∃(A:QV),Nz (λt g e=>∃(M:bt),aA (bK (cC v) (dN a)=bK (cC A) (dN t)) (Ints h A.group g) (aA (jD h A.order e) (Ints h t M) (∀(O:Bool),fV O (kT M g e A.limit)->mS (!O) (bU K 100 m h) (qF y) 12 (bU K 2 m h) (rN h y K m))))) (gM (qF y) 12 (bU K 2 m h) (rN h y K m))))))))))))
theorem Bz{α:Type}{n:Nat}{l:List α}(h:n=l.length):((n:Int)==0)=true↔l=[]:=by
 rw[beq_iff_eq,h, <-length_eq_zero_iff];omega
theorem Ds(h:PH):eH h eJ ⟨0,0,eT,eT,⟨none,0,0⟩⟩:=eH.mk (v:=⟨0,0,eT,eT,⟨none,0,0⟩⟩) (.nil _ _ _ _)
theorem WZ:br 148 YE:=by
 refine hJ func148 ?_;rintro F m h K ⟨v,q,rfl,G,t⟩;refine⟨aIQ v m h,rfl,aE Z8 aH,Qw v m h K,bi,?_⟩;dsimp only[Qw,push_cast];obtain⟨op,ta,w,co,on,gr,od,li,args⟩:=q;have a:=G.parts;have H:=a.op_;have I:=a.table_;have J:=a.limit_;have L:=Bz a.columns_.slen;have M:=Bz a.on_.slen;have D:=Bz a.group_.slen;have E:=Bz a.order_.slen;simp only[cO]at t;subst H I J;refine⟨λr=>(r=true↔v.op=9\/v.op=10),aC (λd=>⟨true,by simp at d;simp[d],MT⟩) (λd=>⟨_,?_,MT⟩),λr n=>?_⟩
 .simp only[beq_eq_false_iff_ne]at d;simp[d]
 refine⟨λx=>x.1=r/\(x.2=true↔(v.op=1\/v.table=0)),aC (λd=>⟨(r,true),⟨rfl,by simp at d;simp[d]⟩,MT⟩) (λd=>⟨(r,_),⟨rfl,?_⟩,MT⟩),?_⟩
 .simp only[beq_eq_false_iff_ne]at d;simp[d]
 rintro⟨r,c⟩ ⟨rfl,f⟩;dsimp only at f n⊢
 refine⟨λx=>x.1=r/\(x.2=true↔(v.op=1\/v.table=0)/\(v.op=2\/w=eJ)),aC (λd=>aC (λg=>⟨(r,true),⟨rfl,⟨λ_=>⟨f.1 d,.inl (bo g)⟩,λ_=>rfl⟩⟩,MT⟩) (λg=>⟨v.where_,⟨0,0,eT,eT,⟨none,0,0⟩⟩,w,eJ,rfl,a.where_,Ds h,λO y=>⟨(r,O),⟨rfl,?_⟩,MT⟩⟩)) (λd=>⟨(r,false),⟨rfl,?_⟩,MT⟩),?_⟩
 .simp only[beq_eq_false_iff_ne]at g;simp only[y,f.1 d,g,true_and,false_or]
 .rw[d]at f;simp only[Bool.false_eq_true,false_iff]at f⊢;exactλe=>f e.1
 clear f c;rintro⟨r,c⟩ ⟨rfl,f⟩;dsimp only at f n⊢
 refine⟨λx=>x.1=r/\(x.2=true↔(v.op=1\/v.table=0)/\(v.op=2\/w=eJ)/\(v.op=3\/co=[])),aC (λd=>aC (λg=>⟨(r,true),⟨rfl,⟨λ_=>⟨(f.1 d).1,(f.1 d).2,.inl (bo g)⟩,λ_=>rfl⟩⟩,MT⟩) (λg=>⟨(r,_),⟨rfl,?_⟩,MT⟩)) (λd=>⟨(r,false),⟨rfl,?_⟩,MT⟩),?_⟩
 .simp only[beq_eq_false_iff_ne]at g;simp only[L,f.1 d,g,true_and,false_or]
 .rw[d]at f;simp only[Bool.false_eq_true,false_iff]at f⊢;exactλe=>f ⟨e.1,e.2.1⟩
 clear f c;rintro⟨r,c⟩ ⟨rfl,f⟩;dsimp only at f n⊢
 refine⟨λx=>x.1=r/\(x.2=true↔(v.op=1\/v.table=0)/\(v.op=2\/w=eJ)/\(v.op=3\/co=[])/\(v.op=4\/v.op=5\/on=[])),aC (λd=>aC (λg=>⟨(r,true),⟨rfl,⟨λ_=>⟨(f.1 d).1,(f.1 d).2.1,(f.1 d).2.2,.inl (bo g)⟩,λ_=>rfl⟩⟩,MT⟩) (λg=>aC (λj=>⟨(r,true),⟨rfl,⟨λ_=>⟨(f.1 d).1,(f.1 d).2.1,(f.1 d).2.2,.inr (.inl (bo j))⟩,λ_=>rfl⟩⟩,MT⟩) (λj=>⟨(r,_),⟨rfl,?_⟩,MT⟩))) (λd=>⟨(r,false),⟨rfl,?_⟩,MT⟩),?_⟩
 .simp only[beq_eq_false_iff_ne]at g j;simp only[M,f.1 d,g,j,true_and,false_or]
 .rw[d]at f;simp only[Bool.false_eq_true,false_iff]at f⊢;exactλe=>f ⟨e.1,e.2.1,e.2.2.1⟩
 clear f c;rintro⟨r,c⟩ ⟨rfl,f⟩;dsimp only at f n⊢
 refine aC (λd=>aC (λg=>t true ⟨λ_=>?_,λ_=>rfl⟩) (λg=>aC (λj=>aC (λu=>t _ ?_) (λu=>t false ?_)) (λj=>t false ?_))) (λd=>t false ?_)
 .obtain⟨z,A,B,C⟩:=f.1 d;refine⟨z,A,B,C,?_⟩;rcases n.1 g with e|e
  .exact .inl e
  .exact .inr (.inl e)
 .obtain⟨z,A,B,C⟩:=f.1 d;have o:¬(v.op=9\/v.op=10):=λe=>by rw[n.2 e]at g;cases g
  rw[beq_iff_eq];refine⟨λe=>⟨z,A,B,C,.inr (.inr ⟨D.1 j,E.1 u,e⟩)⟩,λe=>?_⟩;rcases e.2.2.2.2 with e|e|e
  .exact(o (.inl e)).elim
  .exact(o (.inr e)).elim
  .exact e.2.2
 .have o:¬(v.op=9\/v.op=10):=λe=>by rw[n.2 e]at g;cases g
  refine⟨λe=>(by cases e),λe=>?_⟩;rcases e.2.2.2.2 with e|e|e
  .exact(o (.inl e)).elim
  .exact(o (.inr e)).elim
  .rw[E.2 e.2.1]at u;cases u
 .have o:¬(v.op=9\/v.op=10):=λe=>by rw[n.2 e]at g;cases g
  refine⟨λe=>(by cases e),λe=>?_⟩;rcases e.2.2.2.2 with e|e|e
  .exact(o (.inl e)).elim
  .exact(o (.inr e)).elim
  .rw[D.2 e.1]at j;cases j
 .refine⟨λe=>(by cases e),λe=>?_⟩;rw[f.2 ⟨e.1,e.2.1,e.2.2.1,e.2.2.2.1⟩]at d;cases d
theorem BX(l:bt):eW 1 (l.map eI):=by
 constructor
 .intro e c;obtain⟨x,_,rfl⟩:=mem_map.1 c;rfl
 .intro e c u d;obtain⟨x,_,rfl⟩:=mem_map.1 c;simp[eI]at d;subst d;rfl
theorem KR.err{r:bt×Int}{e:Int}(d:KR K m h r)(c:PH.le h h')(f:r=dG e):K (.tup [.val (.slice none 0 0),.val (.int .i64 e)]) m h':=by
 subst f;exact d ⟨none,0,0⟩ h' c ⟨.nil _ _,by simp[dG]⟩
theorem KR.big{r:bt×Int}(d:KR K m h r)(c:PH.le h h')(e:r=kR l)(f:12<l.length):K (.tup [.val (.slice none 0 0),.val (.int .i64 2)]) m h':=
 d.err c (by rw[e,kR,if_neg aD];rfl)
theorem KR.ok{r:bt×Int}{sl:Sl}(d:KR K m h r)(c:PH.le h h')(e:r=kR l)(f:l.length<=12)(g:dK h' sl 1 (l.map eI)):K (.tup [.val (.slice sl.a sl.len sl.cap),.val (.int .i64 0)]) m h':=by
 rw[e,kR,if_pos f]at d;exact d sl h' c ⟨g,by show l.length<=17592186044416;omega⟩
theorem bGQ{p:Sl}{a b:Sl}{q:Query}{t E:bt}(Z:gA h s sc)(h8:lK s)(hp:Ints h p ps)(hq:eO h q v)(B:Ints h a t)(Q:Ints h b E)(a0:t.length<=12)(a1:E.length<=12)(d:KR K m h (dQ s ps q t E)):NY sc p v a b m h K:=by
 dsimp only[NY,push_cast];have T:=hq;obtain⟨op,ta,w,co,on,gr,od,li,args⟩:=q;have x:=hq.parts;have e0:=x.op_;have e1:=x.table_;have e2:=x.limit_;have a2:=Z.tables.slen;have a3:=B.slen;have F:=x.columns_.slen;have U:=x.columns_.len;subst e0 e1 e2;refine⟨v.op,rfl,aF (λV=>d.err (.refl _) ?_) (λV=>⟨v,_,rfl,T,λr u=>aC (λJ=>d.err (.refl _) ?_) (λJ=>?_)⟩)⟩
 .unfold dQ;rw[if_pos (.inl V)]
 .unfold dQ;rw[if_pos (.inr λe=>by rw[u.2 e]at J;cases J)]
 have hu:cO (.mk v.op v.table w co on gr od v.limit args):=u.1 (bo J);unfold dQ at d;rw[if_neg (λe=>e.elim V (λe=>e hu))]at d;dsimp only at d;clear u J;refine⟨t.map eI,BX _,B.row,by simp;omega,by simp;omega,aC (λy=>?_) (λy=>aC (λz=>?_) (λz=>aC (λA=>?_) (λA=>aC (λC=>?_) (λC=>aC (λG=>?_) (λG=>aC (λL=>?_) (λL=>?_))))))⟩
 .rw[beq_iff_eq]at y;rw[if_pos y]at d;refine aF (λg=>d.err (.refl _) (if_neg aD)) (λg=>aF (λn=>d.err (.refl _) (if_neg aD)) (λn=>⟨sc,s,v.table,rfl,Z,h8,λH h' f o=>?_⟩));rw[if_pos aD]at d;have:=o.slen;exact aF (λj=>d.big f rfl aD) (λj=>d.ok f rfl aD o.row)
 .rw[beq_eq_false_iff_ne]at y;rw[beq_iff_eq]at z;rw[if_neg y,if_pos z]at d;refine⟨a,p,v.where_,t,ps,w,rfl,B,hp,x.where_,aC (λg=>d.err (.refl _) (if_neg (bo g))) (λg=>?_)⟩;rw[if_pos (bo g)]at d;exact aF (λj=>d.big (.refl _) rfl (by simp at j;omega)) (λj H h' f o=>d.ok f rfl aD o)
 .rw[beq_eq_false_iff_ne]at y z;rw[beq_iff_eq]at A;rw[if_neg y,if_neg z,if_pos A]at d;refine aC (λg=>d.err (.refl _) (if_neg λe=>e.1 ((Bz F).1 g))) (λg=>?_);have D:co≠[]:=λe=>by rw[(Bz F).2 e]at g;cases g
  refine⟨λ⟨i,a',W,l,hx⟩=>a'=a/\W=v.columns/\hx=h/\i<=co.length/\l=(co.take i).map (λc=>t.getD c.toNat 0)/\fD (λ_ c=>BM t c=true) co i,λ⟨i,_,_,_,_⟩=>co.length-i,⟨(0,a,v.columns,[],h),⟨rfl,rfl,rfl,aD,bj,.zero⟩,MT⟩,?_⟩;rintro⟨i,a,_,l,h⟩ ⟨rfl,rfl,rfl,o,rfl,hg⟩;dsimp only;refine aF (λM=>?_) (λa4=>?_)
  .obtain⟨c,R⟩:=eF F M;obtain⟨b1,o1,X,r1⟩:=x.columns_.at' R;refine⟨b1,o1,X,aD,M,c,.imm r1,a,t,c,rfl,B,aC (λn=>d.err (.refl _) (if_neg λe=>?_)) (λn=>?_)⟩
   .have:=e.2 i c R;rw[this]at n;cases n
   have n:BM t c=true:=bo n
   have j:=dW.1 n;obtain⟨b2,o2,Y,r2⟩:=B.inb j.1 j.2;refine⟨b2,o2,Y,aD,aD,_,.imm r2,?_,?_,(i+1,a,v.columns,(co.take (i+1)).map (λc=>t.getD c.toNat 0),h),⟨rfl,rfl,rfl,aD,rfl,hg.succ R n⟩,by show co.length-(i+1)<co.length-i;omega,?_⟩
   .simp;omega
   .simp;omega
   .rw[iH R,map_append];exact MT
  .rw[if_pos ⟨D,hg.all aD⟩]at d;rw[take_of_length_le aD];exact aF (λj=>d.big (.refl _) rfl (by simp at j⊢;omega)) (λj H h' f o=>d.ok f rfl (by simp at j⊢;omega) o)
 .rw[beq_eq_false_iff_ne]at y z A;have I:=beq_iff_eq.1 C;rw[if_neg y,if_neg z,if_neg A,if_pos I]at d;refine⟨v.on,a,b,on,t,E,rfl,x.on_,B,Q,λr u=>aC (λg=>d.err (.refl _) (if_neg λe=>?_)) (λg=>aC (λ_=>⟨E.map eI,BX _,Q.row,by simp;omega,by simp;omega,?_⟩) (λn=>?_))⟩
  .rw[u.2 e]at g;cases g
  .rw[if_pos (u.1 (bo g))]at d;rw[<-map_append];exact aF (λj=>d.big (.refl _) rfl (by simp at j⊢;omega)) (λj H h' f o=>d.ok f rfl (by simp at j⊢;omega) o)
  .rw[C]at n;cases n
 .rw[beq_eq_false_iff_ne]at y z A;have I:=beq_eq_false_iff_ne.1 C;rw[beq_iff_eq]at G;rw[if_neg y,if_neg z,if_neg A,if_neg I,if_pos G]at d;refine⟨v.on,a,b,on,t,E,rfl,x.on_,B,Q,λr u=>aC (λg=>d.err (.refl _) (if_neg λe=>?_)) (λg=>aC (λn=>?_) (λn=>?_))⟩
  .rw[u.2 e]at g;cases g
  .rw[C]at n;cases n
  .rw[if_pos (u.1 (bo g))]at d;exact aF (λj=>d.big (.refl _) rfl (by simp at j;omega)) (λj H h' f o=>d.ok f rfl aD o)
 .rw[beq_eq_false_iff_ne]at y z A C G;rw[beq_iff_eq]at L;rw[if_neg y,if_neg z,if_neg A,if_neg C,if_neg G,if_pos L]at d;refine⟨v,a,gr,od,t,rfl,x.group_,x.order_,B,λr u=>aC (λg=>d.err (.refl _) (if_neg λe=>?_)) (λg=>?_)⟩
  .rw[u.2 e]at g;cases g
  rw[if_pos (u.1 (bo g))]at d;exact aF (λj=>d.big (.refl _) rfl (by simp at j;omega)) (λj H h' f o=>d.ok f rfl aD o)
 .rw[beq_eq_false_iff_ne]at y z A C G L;rw[if_neg y,if_neg z,if_neg A,if_neg C,if_neg G,if_neg L]at d;refine⟨a,b,t,E,rfl,B,Q,λr u=>aC (λg=>d.err (.refl _) ?_) (λg=>aC (λn=>⟨v,a,gr,od,t,rfl,x.group_,x.order_,B,λr2 O=>aC (λS=>d.err (.refl _) ?_) (λS=>?_)⟩) (λn=>?_))⟩
  .have D:¬t=E:=λe=>by rw[u.2 e]at g;cases g
   by_cases P:v.op=10
   .rw[if_pos P,if_neg (λe=>D e.1)]
   .rw[if_neg P,if_neg D]
  .rw[beq_iff_eq]at n;rw[if_pos n,if_neg λe=>by rw[O.2 e.2]at S;cases S]
  .rw[beq_iff_eq]at n;rw[if_pos n,if_pos ⟨u.1 (bo g),O.1 (bo S)⟩]at d;exact aF (λj=>d.big (.refl _) rfl (by simp at j;omega)) (λj H h' f o=>d.ok f rfl aD o)
  .rw[beq_eq_false_iff_ne]at n;rw[if_neg n,if_pos (u.1 (bo g))]at d;exact aF (λj=>d.big (.refl _) rfl (by simp at j;omega)) (λj H h' f o=>d.ok f rfl aD o)
theorem ZG:br 95 buJ:=by
 refine hJ func95 ?_;rintro c m h K ⟨sc,p,v,a,b,s,ps,q,x,y,rfl,d,e,f,g,j,n,o,t,u⟩;refine⟨a8X m,rfl,aE PG (aE WZ (aE aa (aE ab (aE HH (aE WY (aE WX (aE Z9 aH))))))),NY sc p v a b m h K,bi,?_⟩;exact bGQ d e f g j n o t u
mutual
noncomputable def aK(s:iJ)(ps:bt):Query->bt×Int
 |.mk op ta w co on gr od li args=>
  match dV s ps args with
  |(ks,e)=>if e=0 then(if(ks.length:Int)=arity op then dQ s ps (.mk op ta w co on gr od li args) (ks.getD 0 []) (ks.getD 1 [])else dG 100)else dG e
noncomputable def dV(s:iJ)(ps:bt):cg->List bt×Int
 |[]=>([],0)
 |q::qs=>
  match aK s ps q with
  |(k,e)=>if e=0 then(match dV s ps qs with|(ks,c)=>if c=0 then(k::ks,0)else([],c))else([],e)
end
theorem sG{s:iJ}{ps:bt}:∀{c:cg}{ks:List bt},c.map (aK s ps)=ks.map (λk=>(k,0))->dV s ps c=(ks,0)
 |[],[],_=>by simp[dV]
 |q::c,k::ks,h=>by
  simp only[map_cons,List.cons.injEq]at h;simp only[dV,h.1,sG h.2,if_true]
 |[],_::_,h=>by simp at h
 |_::_,[],h=>by simp at h
theorem Fv{s:iJ}{ps:bt}{e:Int}(d:e≠0):∀{c:cg}{ks:List bt}{i:Nat}{q:Query},(c.take i).map (aK s ps)=ks.map (λk=>(k,0))->c[i]? =some q->(aK s ps q).2=e->dV s ps c=([],e)
 |[],_,_,_,_,h,_=>by simp at h
 |q::c,_,0,g,_,h,f=>by
  simp at h;subst h;simp only[dV,f,if_neg d]
 |q::c,[],i+1,_,h,_,_=>by simp at h
 |q::c,k::ks,i+1,g,h,j,f=>by
  simp only[take_succ_cons,map_cons,List.cons.injEq]at h;have:=Fv d h.2 (bo j) f;simp only[dV,h.1,this,if_true,if_neg d]
theorem awQ(l:bt):(kR l).1.length<=12:=by unfold kR;split<;>simp_all
theorem Zo(s:iJ)(ps:bt)(q:Query)(a b:bt):(dQ s ps q a b).1.length<=12:=by
 obtain⟨op,ta,w,co,on,gr,od,li,args⟩:=q;unfold dQ;dsimp only
 repeat' split
 all_goals first|exact awQ _|(simp[dG];done)
theorem jH(s:iJ)(ps:bt)(q:Query):(aK s ps q).1.length<=12:=by
 obtain⟨op,ta,w,co,on,gr,od,li,args⟩:=q;simp only[aK]
 repeat' split
 all_goals first|exact Zo .. |simp[dG]
noncomputable def dU(s:iJ)(ps:bt)(q:Query):bt×Int:=
 if cX s=0 then(if ps.all eD=true then(if uY q=true then aK s ps q else dG 2)else dG 1)else dG (cX s)
def Slices(h:PH)(c:ce)(ks:List bt):Prop:=c.length=ks.length/\∀(j:Nat) s k,c[j]? =some s->ks[j]? =some k->Ints h s k
theorem Slices.mono{c:ce}(x:Slices h c ks)(le:PH.le h h'):Slices h' c ks:=⟨x.1,λj s k d e=>(x.2 j s k d e).mono le⟩
theorem Slices.snoc{f:ce}{s:Sl}{k:bt}(x:Slices h f ks)(o:Ints h s k):Slices h (f++[s]) (ks++[k]):=by
 refine⟨by simp[x.1],λj t u c d=>?_⟩;by_cases g:j<f.length
 .rw[getElem?_append_left g]at c;rw[getElem?_append_left (by rw[<-x.1];exact g)]at d;exact x.2 j t u c d
 .rw[getElem?_append_right aD]at c;rw[getElem?_append_right (by have:=x.1;omega), <-x.1]at d;cases e:j-f.length with
  |zero=>rw[e]at c d;simp at c d;subst c d;exact o
  |succ n=>rw[e]at c;simp at c
def Bc(N:Nat):Vc.Spec:=λc m h K=>∃sc p v s ps q,c=[aS sc,cS p,aQ v]/\gA h s sc/\lK s/\Ints h p ps/\eO h q v/\SizeOf.sizeOf q<N/\KR K m h (aK s ps q)
def vQ:Vc.Spec:=λc m h K=>∃sc p v s ps q,c=[aS sc,cS p,aQ v]/\gA h s sc/\Ints h p ps/\eO h q v/\KR K m h (dU s ps q)
noncomputable def f53_ctx(N:Nat)(sc:cN)(p:Sl)(v:QV)(m:MH):Ctx:=
 cW [(53,Bc N),(94,OT),(95,buJ)] [(3,{A:=Nat×ce×PH,st:=λ⟨i,c,h⟩=>bY 58 61 [(1,sv p),(3,.at (.ptr 3 0)),(5,.at (.ptr 5 0)),(8,.at (.lst 35)),(14,iv v.args.len),(15,iv i)] [(3,.cells 40 (sc.enc.map .val)),(5,.cells 35 (v.enc.map .val)),(35,.lst 30 1 (c.map eS))] m h})] [] [] false
abbrev Mv(a:(Nat×ce×PH->Prop)->(Nat×ce×PH)->Prop)(b:(Nat×ce×PH->Prop)->(Nat×ce×PH->Nat)->(Nat×ce×PH)->Prop):Prop:=∃(x:Nat×ce×PH->Prop)(d:Nat×ce×PH->Nat),(∃(c:Nat×ce×PH),a x c)/\∀(c:Nat×ce×PH),b x d c
noncomputable abbrev mB(a:Nat×ce×PH):Nat->Nat->Option Value:=a.2.2
abbrev Em(a:cN->Sl->Prop):Prop:=∃(x:cN)(c:Sl),a x c
abbrev Hb(a:iJ->bt->Prop):Prop:=∃(x:iJ)(c:bt),a x c
abbrev It(a:cN)(b:Sl)(c:QV)(d:PH)(e:Nat)(g:iJ->bt->Query->Sl->PH->Prop):Prop:=Em (λx t=>∃(u:QV),Hb (λf n=>∃(j:Query),aA (bQ a::bK (dN b) (cC c)=bQ x::bK (dN t) (cC u)) (gA d f x) (aA (lK f) (Ints d t n) (aA (eO d j u) (Ao j e) (∀(y:Sl)(o:PH),cD d o (Ints o y (aK f n j).1) (g f n j y o))))))
abbrev jZ(a:List bw)(b:Nat)(c:Prop):Prop:=aA (iF (jJ a 1) b) (lO a) c
noncomputable abbrev fP(a:ce):List bw:=List.map eS a
noncomputable abbrev wD(a:Nat×ce×PH):List bw:=fP a.2.1
noncomputable abbrev oC(a b:bw):List bw:=a::iZ b
noncomputable abbrev IK(a:Nat×ce×PH):List bw:=wD a++oC iT iT
abbrev Eg(a:Prop)(b c:Int)(d:List bw)(e:bw->Prop):Prop:=aI a (b<=c) (c<qF d) (∃(x:bw),e x)
abbrev rL(a:Nat)(b c:bw):Prop:=List.take a (List.drop 0 b)=c
abbrev Gf(a:bt):Prop:=a.length<=12
attribute [push_cast] Mv mB Em Hb It jZ fP wD oC IK Eg rL Gf
def ao(N:Nat)(sc:cN)(p:Sl)(v:QV)(m:MH)(h:PH)(K:bu):Prop:=
  Mv (λI x=>aA (I x) (aJ p) (aA dR dL (aA (eL 35) (bI v.args) (aA (bF x.1) (cE sc) (mA (fA v) (cH 30 1 []=cH 30 1 (List.map eS x.2.1)) (m=m) h (mB x)))))) (λI t x=>I x->bA (↑x.1:Int) (aG v.args) (aW (λb o=>aI (aX v.args.a b o) (0<=(↑x.1:Int)) ((↑x.1:Int)<aG v.args) (∃(y:QV),aU m (mB x) b (bN o x.1 21) y.enc/\It sc p y (mB x) N (λs f q c d=>dC (aK s f q).2 0 (K (CV.tup (bK CZ (CV.val (dY (aK s f q).2)))) m d) (jZ (wD x) 24 (∃(g:Nat×ce×PH),aA (I g) (t g<t x) (aA (aJ p) dR (aA dL (eL 35) (aA (bI v.args) (fU (bG x.1 1)=bP g.1) (aA (cE sc) (fA v) (aA (cH 30 1 (fK (wD x) (aY c))=cH 30 1 (List.map eS g.2.1)) (m=m) (bD d (mB g))))))))))))) (∃
 (o:Int),fB (kH v.op o) (qF (wD x) !=arity o) (bU K 100 m (mB x)) (aA (iF (jJ (wD x) 2) 24) (oL (jJ (wD x) 2)) (aA (bZ 0) (0<qF (IK x)) (∃(e:bw),(IK x)[0]? =Option.some e/\∃(y:Sl),Eg (rL 1 e (aY y)) 0 1 (IK x) (λu=>(IK x)[1]? =Option.some u/\∃(z:Sl),rL 1 u (aY z)/\Em (λs f=>∃(A:QV),lE (λa b=>Hb (λc n=>∃(q:Query),HA (λl j=>aA (bQ sc::dN p::cC v::bK (dN y) (dN z)=bQ s::dN f::cC A::bK (dN a) (dN b)) (gA (mB x) c s) (aA (lK c) (Ints (mB x) f n) (aA (eO (mB x) q A) (Ints (mB x) a l) (aA (Ints (mB x) b j) (Gf l) (Gf j/\∀(B:Sl)(d:PH),cD (mB x) d (Ints d B (dQ c n q l j).1) (K (CV.tup
 (bK (dN B) (CV.val (dY (dQ c n q l j).2)))) m d)))))))))))))))
def UK(N:Nat)(sc:cN)(p:Sl)(v:QV)(m:MH)(h:PH)(K:bu):Prop:=
  oG (λc s=>oB (bQ sc) (bQ c) (gA h s c) (dC (cX s) 0 (bU K (cX s) m h) (uO p h (λl=>qB (CM l) (bU K 1 m h) (vG (λd e=>oB (cC v) (cC d) (eO h e d) (qB (uY e) (bU K 2 m h) (It sc p v h N (λf g q j n=>K (CV.tup (bK (dN j) (CV.val (dY (aK f g q).2)))) m n)))))))))
theorem Kl{c:cg}(h:c.map (aK s ps)=ks.map (λk=>(k,0)))(j:Nat):(ks.getD j []).length<=12:=by
 rw[getD_eq_getElem?_getD];cases e:ks[j]? with
 |none=>simp
 |some k=>
  have d:(c.map (aK s ps))[j]? =some (k,0):=by rw[h];simp[e]
  rw[getElem?_map,Option.map_eq_some_iff]at d;obtain⟨q,_,f⟩:=d;have:=jH s ps q;rw[f]at this;simpa using this
theorem Slices.pick{c:ce}(x:Slices h c ks)(j:Nat)(g:j<c.length+2):∃y:Sl,(c.map eS++[[.slice none 0 0],[.slice none 0 0]])[j]? =some [.slice y.a y.len y.cap]/\Ints h y (ks.getD j []):=by
 by_cases d:j<c.length
 .refine⟨c[j],?_,?_⟩
  .rw[getElem?_append_left (bo d)];simp[d,eS]
  .have f:j<ks.length:=by rw[<-x.1];exact d
   rw[getD_eq_getElem?_getD,getElem?_eq_getElem f];exact x.2 j _ _ (getElem?_eq_getElem d) (getElem?_eq_getElem f)
 .refine⟨⟨none,0,0⟩,?_,?_⟩
  .rw[getElem?_append_right (bo d)];simp only[length_map];have:j-c.length=0\/j-c.length=1:=by omega
   rcases this with e|e<;>rw[e]<;>rfl
  .rw[getD_eq_getElem?_getD,getElem?_eq_none (by have:=x.1;omega)];exact⟨.nil _ _,bj⟩
theorem f53_all:∀N,br 53 (Bc N)
 |0=>by
  refine eV (fn:=Tryz.f53) (c:=cL Tryz.f53) func53 rfl bk ?_;rintro E m h K ⟨sc,p,v,s,ps,q,rfl,_,_,_,_,Z,_⟩;omega
 |N+1=>by
  refine hJ func53 ?_;rintro E m h K ⟨sc,p,v,s,ps,q,rfl,Q,R,S,T,Z,t⟩;refine⟨f53_ctx N sc p v m,rfl,aE (f53_all N) (aE PG (aE ZG aH)),ao N sc p v m h K,bi,?_⟩;dsimp only[ao,push_cast];have z:=@zZ q;have F:=T;obtain⟨op,ta,w,co,on,gr,od,li,args⟩:=q;have x:=T.parts;have U:=x.op_;have hl:=x.args_.slen;have V:=x.args_.len;simp only[Query.args]at z;simp only[aK]at t;refine⟨λ⟨i,A,G⟩=>i<=args.length/\PH.le h G/\∃ks,Slices G A ks/\(args.take i).map (aK s ps)=ks.map (λk=>(k,0)),λ⟨i,_,_⟩=>args.length-i,⟨(0,[],h),⟨aD,.refl _,[],⟨rfl,λj s k n=>by simp at n⟩,bj⟩,MT⟩,?_⟩;rintro⟨i,A,G⟩ ⟨W,d,ks,B,g⟩;have H:ks.length=i:=by have:=congrArg List.length g;simp at this;omega
  have a':A.length=i:=by rw[B.1,H]
  dsimp only;refine aF (λy=>?_) (λa0=>?_)
  .obtain⟨C,o⟩:=eF hl y;obtain⟨b1,o1,u,I,r1,J⟩:=(x.args_.mono d).at o;refine⟨b1,o1,I,aD,y,u,.imm r1,sc,p,u,s,ps,C,rfl,Q.mono d,R,S.mono d,J,?_,λL h' f M=>aC (λn=>?_) (λn=>?_)⟩
   .have:=z (mem_of_getElem? o);omega
   .have D:(aK s ps C).2≠0:=bo n
    rw[Fv D g o rfl]at t;exact t.err (d.trans f) (if_neg D)
   .have D:(aK s ps C).2=0:=bo n
    refine⟨by simp;omega,by simp;omega,(i+1,A++[L],h'),⟨aD,d.trans f,ks++[(aK s ps C).1],(B.mono f).snoc M,?_⟩,by show args.length-(i+1)<args.length-i;omega,?_⟩
    .rw[iH o,g,map_append];simp only[map_cons,map_nil];rw[<-D]
    .rw[map_append];exact MT
  .rw[take_of_length_le aD]at g;rw[sG g]at t;simp only[if_true]at t;refine⟨v.op,rfl,aC (λn=>t.err d (if_neg λe=>?_)) (λn=>?_)⟩
   .rw[U]at n;simp at n;omega
   have n:(A.length:Int)=arity op:=by rw[U]at n;simpa using n
   rw[if_pos aD]at t;obtain⟨X,O,i0⟩:=B.pick 0 aD;obtain⟨Y,P,i1⟩:=B.pick 1 aD;exact⟨by simp;omega,by simp;omega,aD,by simp;omega,_,O,X,rfl,aD,by simp;omega,_,P,Y,rfl,sc,p,v,X,Y,s,ps,_,_,_,rfl,Q.mono d,R,S.mono d,F.mono d,i0,i1,Kl g 0,Kl g 1,λL h' f W=>t L h' (d.trans f) W⟩
theorem Pj(h:cX s=0):lK s:=by
 have c:CW s:=Classical.byContradiction λd=>by rw[uZ d]at h;cases h
 intro t e;obtain⟨j,f⟩:=mem_iff_getElem?.1 e;exact(c.2 j t f).1
theorem Qf:br 16 vQ:=by
 refine hJ func16 ?_;rintro t m h K ⟨sc,p,v,s,ps,q,rfl,j,n,o,c⟩;refine⟨cW [(51,Bk),(52,OM),(21,SA),(53,Bc (SizeOf.sizeOf q+1))] [] [] [] false,rfl,aE aw (aE ak (aE P6 (aE (f53_all _) aH))),UK (SizeOf.sizeOf q+1) sc p v m h K,bi,?_⟩;dsimp only[UK,push_cast];unfold dU at c;refine⟨sc,s,rfl,j,aC (λd=>c.err (.refl _) (if_neg (bo d))) (λd=>?_)⟩;have d:cX s=0:=bo d
 rw[if_pos d]at c;refine⟨p,ps,rfl,n,aC (λf=>c.err (.refl _) (if_neg λe=>by rw[e]at f;cases f)) (λf=>?_)⟩;rw[if_pos (by rw[Bool.not_eq_false']at f;exact f)]at c;refine⟨v,q,rfl,o,aC (λg=>c.err (.refl _) (if_neg λe=>by rw[e]at g;cases g)) (λg=>?_)⟩;rw[if_pos (by rw[Bool.not_eq_false']at g;exact g)]at c;exact⟨sc,p,v,s,ps,q,rfl,j,Pj d,n,o,aD,c⟩
def aN(n:NV):CV:=.val (.agg ⟨n.enc⟩)
structure Av(h:PH)(s:iJ)(ps:bt)(q:Query)(ks:List bt)(n:NV):Prop where
 s_:gA h s n.s
 ps_:Ints h n.params ps
 q_:eO h q n.q
 ks_:bV h 1 eS (λk sl=>Ints h sl k) n.args ks
 len:∀k∈ks,k.length<=12
def Query.withOf(u q:Query):Query:=match u,q with|.mk _ ta w co on gr od li _,.mk op _ _ _ _ _ _ _ args=>.mk op ta w co on gr od li args
def CC:Vc.Spec:=λc m h K=>∃n k u s ps q ks d,c=[aN n,cI k,aQ u]/\Av h s ps q ks n/\eO h d u/\∀r:Bool,(r=true↔(ks.length:Int)=k/\q=d.withOf q)->K (cB r) m h
def OF:Vc.Spec:=λc m h K=>∃n s ps q ks,c=[aN n]/\Av h s ps q ks n/\K (aQ ⟨0,0,⟨0,0,eT,eT,⟨none,0,0⟩⟩,⟨none,0,0⟩,⟨none,0,0⟩,n.q.group,n.q.order,n.q.limit,⟨none,0,0⟩⟩) m h
def OG:Vc.Spec:=λc m h K=>∃n s ps q ks a,c=[aN n]/\Av h s ps q ks n/\ks[0]? =some a/\∀r:Bool,(r=true↔∃op ta w co on gr od li args,q= .mk op ta w co on gr od li args/\kT a gr od li)->K (cB r) m h
def Mf(ks:List bt):Query->Prop
 |.mk op ta w co on gr od li _=>ks.length=2/\ta=0/\w=eJ/\co=[]/\gr=[]/\od=[]/\li=0/\Good (kX (ks.getD 0 []) (ks.getD 1 [])) on
def OK:Vc.Spec:=λc m h K=>∃n s ps q ks,c=[aN n]/\Av h s ps q ks n/\∀r:Bool,(r=true↔Mf ks q)->K (cB r) m h
noncomputable def aDJ(n:NV)(h:PH):Ctx:=
 uC [] [(4,{A:=Nat×Nat×Nat×MH,st:=λ⟨i,c,b,d⟩=>bY 72 73 [(1,.at (.ptr 1 0)),(3,iv c),(4,vv (.pointer (some ⟨b,0,none⟩))),(16,sv n.q.group),(17,iv n.q.group.len),(18,iv i)] [(1,.cells 197 (n.enc.map .val))] d h}),
  (11,{A:=Nat×Nat×MH,st:=λ⟨i,c,d⟩=>bY 72 73 [(1,.at (.ptr 1 0)),(3,iv c),(39,sv n.q.order),(40,iv n.q.order.len),(41,iv i)] [(1,.cells 197 (n.enc.map .val))] d h})] [] [] [268] [] false
noncomputable def aEQ(n:NV)(h:PH):Ctx:=
 uC [(215,CC)] [(6,{A:=Nat×Sl×Sl×Nat×Nat×MH,st:=λ⟨i,s,t,b,c,d⟩=>bY 80 81 [(3,sv s),(4,sv t),(5,vv (.pointer (some ⟨b,0,none⟩))),(6,vv (.pointer (some ⟨c,0,none⟩))),(28,sv n.q.on),(29,iv n.q.on.len),(30,iv i)] [] d h})] [] [] [268] [] false
noncomputable abbrev kC(a:OV):Value:=dY a.kind
noncomputable abbrev pJ(a:QV):OV:=a.where_.left
noncomputable abbrev kD(a:OV):Value:=dY a.index
noncomputable abbrev EM(a:OV):Int:=a.value.int
noncomputable abbrev kJ(a:OV):Value:=dY (EM a)
noncomputable abbrev uN(a b:QV)(c:bw):CV:=lG (aR (dY a.op) (dY b.table) (aR (dY b.where_.op) (dY b.where_.cmp) (aR (kC (pJ b)) (kD (pJ b)) (aR (dY (jK (pJ b))) (kJ (pJ b)) c))))
noncomputable abbrev z7(a:OV):ByteArray:=a.value.text
noncomputable abbrev jW(a:OV):Value:=Value.string (z7 a)
noncomputable abbrev gG(a:QV):OV:=a.where_.right
noncomputable abbrev Co(a:QV):Value:=dY (jK (gG a))
noncomputable abbrev pI(a:QV):Value:=gU a.where_.args
noncomputable abbrev pK(a:QV):Value:=gU a.columns
noncomputable abbrev sE(a:QV):Value:=gU a.group
noncomputable abbrev sF(a:QV):Value:=gU a.order
noncomputable abbrev Gl(a:QV)(b:bw):bw:=aR (jW (pJ a)) (kC (gG a)) (aR (kD (gG a)) (Co a) (aR (kJ (gG a)) (jW (gG a)) (aR (pI a) (pK a) (aR (gU a.on) (sE a) (aR (sF a) (dY a.limit) b)))))
attribute [push_cast] kC pJ kD EM kJ uN z7 jW gG Co pI pK sE sF Gl
def P9(n:NV)(k:Int)(u:QV)(m:MH)(h:PH)(K:bu):Prop:=
  dZ (aG n.args) k (∃(v:QV),vG (λw p=>∃(q:Query),aI (bK (cC n.q) (uN n.q u (Gl u (aY n.q.args)))=bK (cC v) (cC w)) (eO h p v) (eO h q w) (∀(r:Bool),fV r (p=q)->K (xZ r) m h))) (K bB m h)
noncomputable abbrev DD(a b:Value)(c:bw):bw:=aR a b (aR bL bL (aR bL bL (aR bL bL c)))
noncomputable abbrev IN(a:QV)(b:bw):bw:=aR E8 bL (aR bL bL (aR bL E8 (aR pO pO (aR pO (sE a) (aR (sF a) (dY a.limit) b)))))
attribute [push_cast] DD IN
def P8(n:NV)(m:MH)(h:PH)(K:bu):Prop:=
  K (lG (DD bL bL (IN n.q iT))) m h
noncomputable abbrev uA:Value:=Value.bool false
abbrev Mm(a:MH)(b:PH)(c:Nat->MH->Prop):Prop:=∀(x:Nat)(d:MH),fC a b x->gO a d x (aR uA uA (aR uA uA (aR uA uA (aR uA uA (aR uA uA (aR uA uA [])))))) 268->c x d
noncomputable abbrev lC(a:QV):At:=iI a.table
noncomputable abbrev An(a:QV)(b:Sl)(c d:At)(e:cr):cr:=pQ a.where_ (fF (oM a.columns) (oM b) (fF c d e))
noncomputable abbrev CH(a:QV):At:=oM a.group
noncomputable abbrev CI(a:QV):At:=oM a.order
abbrev DF(a:NV):Prop:=eQ (oQ 197 (fF (Ik a.s) (Ij a.s) (fF (oM a.params) (iI a.q.op) (lC a.q::An a.q a.q.on (CH a.q) (CI a.q) (fF (iI a.q.limit) (oM a.q.args) (rI (oM a.args)))))))
noncomputable abbrev tK(a:Bool):bw:=kL (Value.bool a)
abbrev rO(a:MH)(b c:Nat)(d:bw)(e:MH->Prop):Prop:=MG a b c (λx g f=>gO a f b (splice x.toList c d) g->e f)
attribute [push_cast] uA Mm lC An CH CI DF tK rO
def GN(n:NV)(m:MH)(h:PH)(K:bu):Prop:=
  aW (λb o=>aI (aX n.args.a b o) ((0:Int)<=0) (0<aG n.args) (∃(y:Sl),aU m h b (o+0) (aY y)/\Mm m h (λz A=>∃(I:Nat×Nat×Nat×MH->Prop)(t:Nat×Nat×Nat×MH->Nat),(∃(x:Nat×Nat×Nat×MH),aA (I x) eM (aA (bP y.len=bP x.2.1) (eU z (iL x.2)) (aA (aJ n.q.group) (bI n.q.group) (aA (bF x.1) (DF n) (bS (A=gQ x.2) h h)))))/\∀(x:Nat×Nat×Nat×MH),I x->bA (↑x.1:Int) (aG n.q.group) (aW (λe f=>aI (aX n.q.group.a e f) (0<=(↑x.1:Int)) ((↑x.1:Int)<aG n.q.group) (∃(d:Int),aU (gQ x.2) h e (bN f x.1 1) (bJ d)/\bA d 0 (nW K x.2 h) (fQ d (↑x.2.1:Int) (nW K x.2 h) (aA (bZ d) (d<12) (∃(u:Bool),aU (gQ x.2) h (iL x.2) (gC 0 d 1) (tK u)/\branch u (nW K x.2 h)
 (aA (bZ d) (d<12) (rO (gQ x.2) (iL x.2) (gC 0 d 1) (kL Ap) (λj=>∃(c:Nat×Nat×Nat×MH),aA (I c) (t c<t x) (aA eM (cJ x.2.1 c.2.1) (aA (eU (iL x.2) (iL c.2)) (aJ n.q.group) (aA (bI n.q.group) (fU (bG x.1 1)=bP c.1) (aI (DF n) (j=gQ c.2) (h=h) True))))))))))))) (∃(I1:Nat×Nat×MH->Prop)(j:Nat×Nat×MH->Nat),MF (λc=>aA (I1 c) eM (aA (cJ x.2.1 (iL c)) (aJ n.q.order) (aA (bI n.q.order) (bF c.1) (aA (DF n) (gQ x.2=gQ c) (bD h h))))) (λc=>I1 c->bA (↑c.1:Int) (aG n.q.order) (aW (λe f=>aI (aX n.q.order.a e f) (0<=(↑c.1:Int)) ((↑c.1:Int)<aG n.q.order) (∃(d:Int×Bool),aU (gQ c) h e (bN f c.1 2) (yR d)/\bA d.1 0 (nW K c h)
 (fQ d.1 (↑(iL c):Int) (nW K c h) (∃(g:Nat×Nat×MH),aA (I1 g) (j g<j c) (aA eM (cJ (iL c) (iL g)) (aA (aJ n.q.order) (bI n.q.order) (aA (fU (bG c.1 1)=bP g.1) (DF n) (bS (gQ c=gQ g) h h))))))))) (branch (decide (aG n.q.order<=12)) (fQ n.q.limit 0 (K (xZ (decide (n.q.limit<=100))) (gQ c) h) (nW K c h)) (nW K c h)))))))
abbrev DB(a:iJ->bt->Query->(List bt)->Prop):Prop:=Hb (λx c=>∃(d:Query)(e:List bt),a x c d e)
abbrev B8(a:ct)(b:NV->Int->QV->ct)(c:PH)(d:Int->Query->(List bt)->Query->Bool->Prop):Prop:=∃(x:NV)(e:Int)(f:QV),DB (λo t g j=>∃(n:Query),aI (a=b x e f) (Av c o t g j x) (eO c n f) (∀(u:Bool),d e g j n u))
noncomputable abbrev gX(a:NV)(b:bw):CV:=lG (aR (dY a.s.version) (gU a.s.tables) (aR (gU a.params) (dY a.q.op) (aR (dY a.q.table) (dY a.q.where_.op) (aR (dY a.q.where_.cmp) (kC (pJ a.q)) b))))
noncomputable abbrev gY(a:NV)(b:bw):bw:=aR (kD (pJ a.q)) (dY (jK (pJ a.q))) (aR (kJ (pJ a.q)) (jW (pJ a.q)) (aR (kC (gG a.q)) (kD (gG a.q)) (aR (dY (jK (gG a.q))) (kJ (gG a.q)) b)))
noncomputable abbrev vF(a:QV):Value:=gU a.args
noncomputable abbrev gW(a:NV):bw:=aR (jW (gG a.q)) (pI a.q) (aR (pK a.q) (gU a.q.on) (aR (sE a.q) (sF a.q) (aR (dY a.q.limit) (vF a.q) (aY a.args))))
abbrev Cc(a:List bt)(b:Int)(c d:Query):Prop:=(↑a.length:Int)=b/\c=Query.withOf d c
noncomputable abbrev kG(a:Nat×Sl×Sl×Nat×Nat×MH):Nat×Nat×MH:=a.2.2.2
attribute [push_cast] DB B8 gX gY vF gW Cc kG
def GO(n:NV)(m:MH)(h:PH)(K:bu):Prop:=
  B8 (gX n (gY n (gW n))::bK (eG 2) (lG (DD bL bL (aR E8 bL (aR bL bL (aR bL E8 (aR pO pO (aR (gU n.q.on) pO (aR pO bL iT))))))))) (λe k u=>gX e (gY e (gW e))::bK (eG k) (cC u)) h (λk q L u r=>gL (fV r (Cc L k q u)) (!r) (K bB m h) (aW (λb o=>aI (aX n.args.a b o) ((0:Int)<=0) (0<aG n.args) (∃(y:Sl),aU m h b (o+0) (aY y)/\aW (λf g=>aI (aX n.args.a f g) ((0:Int)<=1) (1<aG n.args) (∃(j:Sl),aU m h f (g+1) (aY j)/\Mm m h (λM O=>Mm O h (λP Q=>∃(I:Nat×Sl×Sl×Nat×Nat×MH->Prop)(t:Nat×Sl×Sl×Nat×Nat×MH->Nat),(∃(x:Nat×Sl×Sl×Nat×Nat×MH),aA (I x) (bH y x.2.1) (aA (bH j x.2.2.1) (eU M (kG x).1) (aA (eU P
 (iL (kG x))) (aJ n.q.on) (aA (bI n.q.on) (bF x.1) (bS (Q=gQ (kG x)) h h)))))/\∀(x:Nat×Sl×Sl×Nat×Nat×MH),I x->bA (↑x.1:Int) (aG n.q.on) (aW (λz A=>aI (aX n.q.on.a z A) (0<=(↑x.1:Int)) ((↑x.1:Int)<aG n.q.on) (∃(c:Int×Int),aA (aU (gQ (kG x)) h z (bN A x.1 2) (tC c)) (bZ 0) (aA AE (bZ 1) (AF/\bA c.1 0 (nW K (kG x) h) (fQ c.1 (aG x.2.1) (nW K (kG x) h) (bA c.2 0 (nW K (kG x) h) (fQ c.2 (aG x.2.2.1) (nW K (kG x) h) (aW (λB C=>aI (aX x.2.1.a B C) (0<=c.1) (c.1<aG x.2.1) (∃(D:Int),aU (gQ (kG x)) h B (gC C c.1 1) (bJ D)/\aW (λE F=>aI (aX x.2.2.1.a E F) (0<=c.2) (c.2<aG x.2.2.1) (∃(G:Int),aU (gQ (kG x)) h E
 (gC F c.2 1) (bJ G)/\dC D G (nW K (kG x) h) (aA (bZ c.1) (c.1<12) (∃(H:Bool),aU (gQ (kG x)) h (kG x).1 (gC 0 c.1 1) (tK H)/\branch H (nW K (kG x) h) (aA (bZ c.2) (c.2<12) (∃(J:Bool),aU (gQ (kG x)) h (iL (kG x)) (gC 0 c.2 1) (tK J)/\branch J (nW K (kG x) h) (aA (bZ c.1) (c.1<12) (rO (gQ (kG x)) (kG x).1 (gC 0 c.1 1) (kL Ap) (λR=>aA (bZ c.2) (c.2<12) (rO R (iL (kG x)) (gC 0 c.2 1) (kL Ap) (λS=>∃(d:Nat×Sl×Sl×Nat×Nat×MH),aA (I d) (t d<t x) (aA (bH x.2.1 d.2.1) (bH x.2.2.1 d.2.2.1) (aA (eU (kG x).1 (kG d).1) (eU (iL (kG x)) (iL (kG d))) (aA (aJ n.q.on) (bI n.q.on) (aI (fU (bG x.1 1)=bP d.1) (S=
 gQ (kG d)) (h=h) True)))))))))))))))))))))))))) (fJ K (gQ (kG x)) h)))))))))
structure Y3(m:MH)(b:Nat)(seen:bt):Prop where
 ex:∃bs:cv,m b=some (.cells ⟨bs.map Value.bool⟩ 268 (0,0))/\bs.length=12/\∀k:Nat,k<12->(bs[k]? =some true↔(k:Int)∈seen)
theorem Y3.zero(h:m b=some (.cells ⟨[.bool false,.bool false,.bool false,.bool false,.bool false,.bool false,.bool false,.bool false,.bool false,.bool false,.bool false,.bool false]⟩ 268 (0,0))):Y3 m b []:=
 ⟨⟨replicate 12 false,h,rfl,λk c=>by rw[getElem?_replicate];simp[c]⟩⟩
theorem Y3.look{c:bt}(x:Y3 m b c){n:Int}(j:0<=n)(o:n<12):∃y:Bool,aU m h b (0+n.toNat*1) [.bool y]/\(y=true↔n∈c):=by
 obtain⟨d,e,t,g⟩:=x.ex;have f:n.toNat<d.length:=by omega
 refine⟨d[n.toNat],.lent _ _ _ e ?_,?_⟩
 .simp only[Nat.zero_add,Nat.mul_one,length_cons,length_nil];rw[drop_eq_getElem_cons (bo f)];simp
 .have:=g n.toNat aD;rw[getElem?_eq_getElem f]at this;rw[show((n.toNat:Nat):Int)=n by omega]at this;simpa using this
theorem Y3.store{c:bt}(x:Y3 m b c){n:Int}(y:0<=n)(z:n<12):∃(cs:Array Value)(E:TypeId),MAt m b (.cells cs E (0,0))/\0+n.toNat*1<cs.size/\∀m',iV m m' b (.cells ⟨splice cs.toList (0+n.toNat*1) [.bool true]⟩ E (0,0))->Y3 m' b (c++[n]):=by
 obtain⟨g,e,o,t⟩:=x.ex;have d:n.toNat<g.length:=by omega
 refine⟨_,_,⟨e⟩,bo d,λm' u=>⟨g.set n.toNat true,?_,bo o,λk f=>?_⟩⟩
 .rw[u.at_];congr 3;simp only[splice,Nat.zero_add,Nat.mul_one,length_cons,length_nil];rw[set_eq_take_append_cons_drop,if_pos d];simp[map_take,map_drop]
 .rw[getElem?_set,mem_append,mem_singleton];by_cases j:n.toNat=k
  .subst j;rw[if_pos rfl,if_pos d];exact⟨λ_=>.inr aD,λ_=>rfl⟩
  .rw[if_neg j,t k f];exact⟨.inl,λh=>h.elim id λe=>by omega⟩
theorem Y3.other{g:Nat}{d:bt}(x:Y3 m b d)(f:b≠g)(j:∀c,c≠g->m' c=m c):Y3 m' b d:=by
 obtain⟨n,e,o,t⟩:=x.ex;exact⟨n,by rw[j b f,e],o,t⟩
theorem Av.arg{q:Query}{n:NV}(x:Av h s ps q ks n){j:Nat}{k:bt}(c:ks[j]? =some k):∃b o sl,n.args.a=some ⟨b,o,none⟩/\bO h b (o+j*1) [.slice sl.a sl.len sl.cap]/\Ints h sl k/\k.length<=12/\j<n.args.len:=by
 obtain⟨b,o,sl,e,r,d⟩:=x.ks_.at c;have:=(List.getElem?_eq_some_iff.1 c).1;exact⟨b,o,sl,e,r,d,x.len k (mem_of_getElem? c),by rw[x.ks_.slen];exact this⟩
theorem bjJ{n:NV}(c:K (aQ ⟨0,0,⟨0,0,eT,eT,⟨none,0,0⟩⟩,⟨none,0,0⟩,⟨none,0,0⟩,n.q.group,n.q.order,n.q.limit,⟨none,0,0⟩⟩) m h):P8 n m h K:=c
theorem vI:br 215 CC:=by
 refine hJ func215 ?_;rintro D m h K ⟨n,k,u,s,ps,q,ks,E,rfl,c,F,C⟩;refine⟨cW [(242,bRZ)] [] [] [] false,rfl,aE Wa aH,P9 n k u m h K,bi,?_⟩;dsimp only[P9,push_cast];have L:=c.ks_.slen;have G:=c.q_;have d:=c.q_;obtain⟨op,ta,w,co,on,gr,od,li,args⟩:=q;obtain⟨H,f,I,g,j,o,t,z,A⟩:=E;have x:=F.parts;have y:=G.parts;refine aC (λB=>⟨n.q,⟨n.q.op,u.table,u.where_,u.columns,u.on,u.group,u.order,u.limit,n.q.args⟩,_,.mk op f I g j o t z args,rfl,d,sN.rep ⟨y.op_,x.table_,x.where_,x.columns_,x.on_,x.group_,x.order_,x.limit_,y.args_⟩,λr J=>C r (J.trans ⟨λe=>⟨?_,e⟩,λe=>e.2⟩)⟩) (λB=>C false ⟨λe=>(by cases e),λe=>?_⟩)
 .have:(n.args.len:Int)=k:=bo B
  omega
 .have:(n.args.len:Int)≠k:=bo B
  have:=e.1;omega
theorem N8:br 217 OF:=by
 refine hJ func217 ?_;rintro c m h K ⟨n,s,ps,q,ks,rfl,e,d⟩;refine⟨cW [] [] [] [] false,rfl,aH,P8 n m h K,bi,?_⟩;exact bjJ d
theorem bjZ{n:NV}{op:Int}{w:Pred}{on:bz}{args:cg}(u:Av h s ps (.mk op ta w co on gr od li args) ks n)(ha:ks[0]? =some a)(X:∀r:Bool,(r=true↔kT a gr od li)->K (cB r) m h):GN n m h (kE h K):=by
 dsimp only[GN,push_cast];have x:=u.q_.parts;have gl:=x.group_.slen;have Y:=x.group_.len;have ol:=x.order_.slen;have Z:=x.order_.len;have el:=x.limit_;obtain⟨b0,o0,sl,e0,r0,M,a',a0⟩:=u.arg ha;have O:=M.slen;have bad:∀f,Sub m f->¬kT a gr od li->kE h K (.val (.bool false)) f h:=λf hm u=>.sub hm (X false ⟨λe=>(by cases e),λe=>(u e).elim⟩);refine⟨b0,o0,e0,aD,aD,sl,.imm (bo r0),λb m1 hb C=>?_⟩;refine⟨λ⟨i,D,b',f⟩=>D=a.length/\b'=b/\i<=gr.length/\Sub m f/\Y3 f b (gr.take i)/\fD (EI a) gr i,λ⟨i,_,_,_⟩=>gr.length-i,⟨(0,sl.len,b,m1),⟨O,rfl,aD,(Sub.refl m).upd hb.m_ C.other,.zero C.at_,.zero⟩,MT⟩,?_⟩;rintro⟨i,D,b,f⟩ ⟨rfl,rfl,hi,d,j,P⟩;dsimp only;refine aF (λo=>?_) (λF=>?_)
 .obtain⟨c,z⟩:=eF gl o;obtain⟨Q,R,S,T⟩:=x.group_.at' z;have t:¬EI a (gr.take i) c->kE h K (.val (.bool false)) f h:=λu=>bad f d λg=>Good.not z u g.group_;refine⟨Q,R,S,aD,o,c,.imm T,aF (λG=>t λg=>?_) (λG=>aF (λB=>t λg=>?_) (λB=>?_))⟩
  .have:=dW.1 g.1;omega
  .have:=dW.1 g.1;omega
  obtain⟨y,hy,H⟩:=j.look (h:=h) (n:=c) aD aD;refine⟨aD,aD,y,hy,aC (λL=>t λg=>g.2 (H.1 L)) (λL=>?_)⟩;obtain⟨cs,E,U,V,W⟩:=j.store (n:=c) aD aD;refine⟨aD,aD,cs,E,U,V,λm2 I=>⟨(i+1,a.length,b,m2),⟨rfl,rfl,aD,d.upd hb.m_ I.other,?_,P.succ z ⟨dW.2 ⟨aD,aD⟩,λe=>?_⟩⟩,by show gr.length-(i+1)<gr.length-i;omega,MT⟩⟩
  .have:=W m2 I
   rwa [take_add_one,z]
  .rw[H.2 e]at L;cases L
 have gg:=P.all aD;refine⟨λ⟨i,D,f⟩=>D=a.length/\i<=od.length/\Sub m f/\fD (HP a) od i,λ⟨i,_,_⟩=>od.length-i,⟨(0,a.length,f),⟨rfl,aD,d,.zero⟩,MT⟩,?_⟩;clear hi P F d j f;rintro⟨i,D,f⟩ ⟨rfl,hi,d,J⟩;dsimp only;refine aF (λo=>?_) (λF=>?_)
 .obtain⟨c,z⟩:=eF ol o;obtain⟨Q,R,S,T⟩:=x.order_.at z;have A:¬HP a (od.take i) c->kE h K (.val (.bool false)) f h:=λu=>bad f d λg=>Good.not z u g.order_;refine⟨Q,R,S,aD,o,c,.imm T,aF (λG=>A λg=>?_) (λG=>aF (λB=>A λg=>?_) (λB=>⟨(i+1,a.length,f),⟨rfl,aD,d,J.succ z (dW.2 ⟨aD,aD⟩)⟩,by show od.length-(i+1)<od.length-i;omega,MT⟩))⟩
  .have:=dW.1 (show BM a c.1=true from g);omega
  .have:=dW.1 (show BM a c.1=true from g);omega
 have oo:=J.all aD;rw[el];refine aF (λG=>aF (λB=>?_) (λB=>bad f d λg=>?_)) (λG=>bad f d λg=>?_)
 .exact .sub d (X (decide (li<=100)) ⟨λe=>⟨gg,oo,aD,B,bo e⟩,λe=>decide_eq_true e.high⟩)
 .have:=g.low;omega
 .have:=g.len_;omega
theorem N7:br 218 OG:=by
 refine EU func218 ?_;rintro d m h K ⟨n,s,ps,q,ks,a,rfl,f,g,j⟩;refine⟨aDJ n h,rfl,aH,GN n m h (kE h K),bi,?_⟩;dsimp only[GN,push_cast];obtain⟨op,ta,w,co,on,gr,od,li,args⟩:=q;refine bjZ f g (λr c=>j r (c.trans ⟨λe=>⟨_,_,_,_,_,_,_,_,_,rfl,e⟩,?_⟩));rintro⟨_,_,_,_,_,_,_,_,_,e,c⟩;cases e;exact c
theorem Vv{on:bz}{sl:Sl}(c:iD h sl on):eO h (.mk 0 0 eJ [] on [] [] 0 []) ⟨0,0,⟨0,0,eT,eT,⟨none,0,0⟩⟩,⟨none,0,0⟩,sl,⟨none,0,0⟩,⟨none,0,0⟩,0,⟨none,0,0⟩⟩:=
 sN.rep ⟨rfl,rfl,Ds h,⟨.nil _ _,bj⟩,c,⟨.nil _ _,bj⟩,⟨.nil _ _,bj⟩,rfl,.nil _ _ _ _⟩
theorem N9:br 216 OK:=by
 refine EU func216 ?_;rintro b4 m h K ⟨n,s,ps,q,ks,rfl,t,hK⟩;refine⟨aEQ n h,rfl,aE vI aH,GO n m h (kE h K),bi,?_⟩;dsimp only[GO,push_cast];obtain⟨op,ta,w,co,on,gr,od,li,args⟩:=q;show GO n m h (kE h K);dsimp only[GO,push_cast];have x:=t.q_.parts;have ol:=x.on_.slen;have a9:=x.on_.len;have bad:∀g,Sub m g->¬Mf ks (.mk op ta w co on gr od li args)->kE h K (.val (.bool false)) g h:=λg hm t=>.sub hm (hK false ⟨λe=>(by cases e),λe=>(t e).elim⟩);refine⟨n,2,⟨0,0,⟨0,0,eT,eT,⟨none,0,0⟩⟩,⟨none,0,0⟩,n.q.on,⟨none,0,0⟩,⟨none,0,0⟩,0,⟨none,0,0⟩⟩,s,ps,_,ks,.mk 0 0 eJ [] on [] [] 0 [],rfl,t,Vv x.on_,λr hr=>aC (λW=>bad m (Sub.refl m) λf=>?_) (λW=>?_)⟩
 .have:r=true:=hr.2 ⟨by have:=f.1;omega,by obtain⟨_,rfl,rfl,rfl,rfl,rfl,rfl,_⟩:=f;rfl⟩;rw[this]at W;cases W
 obtain⟨a',I⟩:=hr.1 (bo W);simp only[Query.withOf,Query.mk.injEq]at I;obtain⟨_,rfl,rfl,rfl,_,rfl,rfl,rfl,_⟩:=I
 obtain⟨u,A,rfl⟩:∃u A,ks=[u,A]:=by
  match ks,a' with
  |[u,A],_=>exact⟨u,A,rfl⟩
  |[],h=>simp at h
  |[_],h=>simp at h
  |_::_::_::_,h=>simp at h;omega
 obtain⟨b0,o0,J,e0,r0,i0,l0,j0⟩:=t.arg (j:=0) rfl;obtain⟨b1,o1,L,e1,r1,i1,l1,j1⟩:=t.arg (j:=1) rfl;have b5:=i0.slen;have b6:=i1.slen;have bad:∀g,Sub m g->¬Good (kX u A) on->kE h K (.val (.bool false)) g h:=λg hm t=>bad g hm λf=>t f.2.2.2.2.2.2.2;refine⟨b0,o0,e0,aD,aD,J,.imm (bo r0),b1,o1,e1,aD,aD,L,.imm (bo r1),λb m1 hb B c m2 hc C=>?_⟩;have D:b≠c:=λe=>by have:=hc.m_;rw[<-e,B.at_]at this;cases this
 have M:Sub m m1:=(Sub.refl m).upd hb.m_ B.other;have O:m c=none:=M.free hc.m_
 refine⟨λ⟨i,s',t',b',c',g⟩=>s'=J/\t'=L/\b'=b/\c'=c/\i<=on.length/\Sub m g/\Y3 g b ((on.take i).map Prod.fst)/\Y3 g c ((on.take i).map Prod.snd)/\fD (kX u A) on i,λ⟨i,_,_,_,_,_⟩=>on.length-i,
  ⟨(0,J,L,b,c,m2),⟨rfl,rfl,rfl,rfl,aD,M.upd O C.other,(Y3.zero B.at_).other D C.other,.zero C.at_,.zero⟩,MT⟩,?_⟩
 rintro⟨i,J,L,b,c,g⟩ ⟨rfl,rfl,rfl,rfl,hi,o,hA,hB,hg⟩;dsimp only;refine aF (λP=>?_) (λb7=>.sub o (hK true ⟨λ_=>⟨rfl,rfl,rfl,rfl,rfl,rfl,rfl,hg.all aD⟩,λ_=>rfl⟩));obtain⟨p,Q⟩:=eF ol P;obtain⟨bp,a2,ep,rp⟩:=x.on_.at Q;have d:¬kX u A (on.take i) p->kE h K (.val (.bool false)) g h:=λt=>bad g o (Good.not Q t);refine⟨bp,a2,ep,aD,P,p,.imm rp,aD,aD,aD,aD,aF (λd1=>d λf=>?_) (λd1=>aF (λd2=>d λf=>?_) (λd2=>aF (λd3=>d λf=>?_) (λd3=>aF (λd4=>d λf=>?_) (λd4=>?_))))⟩
 .have:=dW.1 f.1;omega
 .have:=dW.1 f.1;omega
 .have:=dW.1 f.2.1;omega
 .have:=dW.1 f.2.1;omega
 obtain⟨b2,o2,e2,r2⟩:=i0.inb (n:=p.1) aD aD;obtain⟨b3,o3,e3,r3⟩:=i1.inb (n:=p.2) aD aD;obtain⟨y,hy,R⟩:=hA.look (h:=h) (n:=p.1) aD aD;obtain⟨z,hz,S⟩:=hB.look (h:=h) (n:=p.2) aD aD;obtain⟨cs,E,a3,a4,a5⟩:=hA.store (n:=p.1) aD aD;refine⟨b2,o2,e2,aD,aD,_,.imm r2,b3,o3,e3,aD,aD,_,.imm r3,aC (λX=>d λf=>?_) (λX=>⟨aD,aD,y,hy,aC (λY=>d λf=>?_) (λY=>⟨aD,aD,z,hz,aC (λZ=>d λf=>?_) (λZ=>⟨aD,aD,cs,E,a3,a4,λm3 F=>?_⟩)⟩)⟩)⟩
 .rw[f.2.2.1]at X;simp at X
 .obtain⟨q,H,e⟩:=mem_map.1 (R.1 Y);exact(f.2.2.2 q H).1 e
 .obtain⟨q,H,e⟩:=mem_map.1 (S.1 Z);exact(f.2.2.2 q H).2 e
 have a6:=a5 m3 F;have a7:=hB.other D.symm F.other;obtain⟨a8,E2,T,U,V⟩:=a7.store (n:=p.2) aD aD;refine⟨aD,aD,a8,E2,T,U,λm4 G=>⟨(i+1,J,L,b,c,m4),⟨rfl,rfl,rfl,rfl,aD,(o.upd hb.m_ F.other).upd O G.other,?_,?_,hg.succ Q ⟨dW.2 ⟨aD,aD⟩,dW.2 ⟨aD,aD⟩,bo X,λq H=>⟨λe=>?_,λe=>?_⟩⟩⟩,by show on.length-(i+1)<on.length-i;omega,MT⟩⟩
 .rw[iH Q];exact a6.other D G.other
 .rw[iH Q];exact V m4 G
 .rw[R.2 (mem_map.2 ⟨q,H,e⟩)]at Y;cases Y
 .rw[S.2 (mem_map.2 ⟨q,H,e⟩)]at Z;cases Z
def fin(r:bt×Int):bt×Int:=if r.2=0 then kR r.1 else dG r.2
def Query.op:Query->Int
 |.mk op .. =>op
noncomputable def qU(s:iJ)(ps:bt)(q:Query)(ks:List bt):bt×Int:=if(ks.length:Int)=arity q.op then dQ s ps q (ks.getD 0 []) (ks.getD 1 [])else dG 100
def Az(P:Int->Prop):Vc.Spec:=λc m h K=>∃n s ps q ks,c=[aN n]/\Av h s ps q ks n/\lK s/\P q.op/\∀r,fin r=qU s ps q ks->KR K m h r
def bKX(h:PH)(c:Sl)(ks:List bt):Prop:=bV h 1 eS (λk d=>Ints h d k) c ks
def JO:Vc.Spec:=λc m h K=>∃d ks,c=[cS d]/\bKX h d ks/\ks.length<=10/\(∀k∈ks,k.length<=12)/\∀e h',PH.le h h'->Ints h' e ks.flatten->K (cS e) m h'
noncomputable def aEZ(n:NV)(m:MH)(h:PH):Ctx:=
 cW [(215,CC)] [(5,{A:=Nat×bt,st:=λ⟨i,l⟩=>bY 57 58 [(1,.at (.ptr 1 0)),(4,.at (.lst 25)),(28,sv n.q.columns),(29,iv n.q.columns.len),(30,iv i)] [(1,.cells 197 (n.enc.map .val)),(25,.lst 3 1 (l.map eI))] m h})] [] [] false
noncomputable abbrev Ja(a:bw):bw:=aR E8 bL (aR bL bL (aR bL E8 (aR pO pO (aR pO pO (aR pO bL a)))))
attribute [push_cast] Ja
def GX(n:NV)(m:MH)(h:PH)(K:bu):Prop:=
  B8 (gX n (gY n (gW n))::bK (eG 0) (lG (DD bL (dY n.q.table) (Ja iT)))) (λc k u=>gX c (gY c (gW c))::bK (eG k) (cC u)) h (λk q d u r=>gL (fV r (Cc d k q u)) (!r) (bU K 100 m h) (bA n.q.table 0 (bU K 100 m h) (fQ n.q.table (i6 n.s) (bU K 100 m h) (AK (bT (bQ n.s) n.q.table) h (λs e=>lL K s m e)))))
def GW(n:NV)(m:MH)(h:PH)(K:bu):Prop:=
  B8 (gX n (gY n (gW n))::bK (eG 1) (lG (aR bL bL (aR (dY n.q.where_.op) (dY n.q.where_.cmp) (aR (kC (pJ n.q)) (kD (pJ n.q)) (aR (dY (jK (pJ n.q))) (kJ (pJ n.q)) (aR (jW (pJ n.q)) (kC (gG n.q)) (aR (kD (gG n.q)) (dY (jK (gG n.q))) (aR (kJ (gG n.q)) (jW (gG n.q)) (aR (pI n.q) pO (aR pO pO (aR pO bL iT)))))))))))) (λd k u=>gX d (gY d (gW d))::bK (eG k) (cC u)) h (λk q t u r=>gL (fV r (Cc t k q u)) (!r) (bU K 100 m h) (aW (λb o=>aI (aX n.args.a b o) ((0:Int)<=0) (0<aG n.args) (∃(y:Sl),aU m h b (o+0) (aY y)/\DQ (dN y::bK (dN n.params) (cZ n.q.where_)) h (λc p e=>dC (fR c p e) 0 (bU K (fR c p e) m h) (aW (λf g=>aI (aX
 n.args.a f g) ((0:Int)<=0) (0<aG n.args) (∃(j:Sl),aU m h f (g+0) (aY j)/\lL K j m h))))))))
noncomputable abbrev Gr(a:Value)(b:bw):bw:=aR E8 bL (aR bL bL (aR bL E8 (aR pO a (aR pO pO (aR pO bL b)))))
abbrev IT(a:(Nat×bt->Prop)->(Nat×bt)->Prop)(b:(Nat×bt->Prop)->(Nat×bt->Nat)->(Nat×bt)->Prop):Prop:=∃(x:Nat×bt->Prop)(d:Nat×bt->Nat),(∃(c:Nat×bt),a x c)/\∀(c:Nat×bt),b x d c
noncomputable abbrev lM(a:Nat×bt):List bw:=oE a.2
attribute [push_cast] Gr IT lM
def GV(n:NV)(m:MH)(h:PH)(K:bu):Prop:=
  B8 (gX n (gY n (gW n))::bK (eG 1) (lG (DD bL bL (Gr (pK n.q) iT)))) (λd k u=>gX d (gY d (gW d))::bK (eG k) (cC u)) h (λk q E u r=>fV r (Cc E k q u)->dJ (!r) (bU K 100 m h) (Cp n.q==0) (bU K 100 m h) (aA (bZ 0) (bZ (Cp n.q)) (aA (rF (Cp n.q*8)) (rF (Cp n.q)) (IT (λI x=>aA (I x) eM (aA (eL 25) (aJ n.q.columns) (aA (bI n.q.columns) (bF x.1) (aA (DF n) (rJ (lM x)) (bS (m=m) h h))))) (λI f x=>I x->bA (↑x.1:Int) (aG n.q.columns) (aW (λb o=>aI (aX n.q.columns.a b o) (0<=(↑x.1:Int)) ((↑x.1:Int)<aG n.q.columns) (∃(y:Int),aU m h b (bN o x.1 1) (bJ y)/\bA y 0 (bU K 100 m h) (aW (λg j=>aI (aX n.args.a g j) ((0:Int)<=
 0) (0<aG n.args) (∃(t:Sl),aU m h g (j+0) (aY t)/\fQ y (aG t) (bU K 100 m h) (aW (λz A=>aI (aX n.args.a z A) ((0:Int)<=0) (0<aG n.args) (∃(e:Sl),aU m h z (A+0) (aY e)/\aW (λB C=>aI (aX e.a B C) (0<=y) (y<aG e) (∃(D:Int),aI (aU m h B (gC C y 1) (bJ D)) (iF (jJ (lM x) 1) 8) (lO (lM x)) (∃(c:Nat×bt),aA (I c) (f c<f x) (aA eM (eL 25) (aA (aJ n.q.columns) (bI n.q.columns) (aA (fU (bG x.1 1)=bP c.1) (DF n) (aI (rK (lM x) D (lM c)) (m=m) (h=h) True)))))))))))))))) (rN h (lM x) K m))))))
noncomputable abbrev zB(a b:Sl):List bw:=oC (aY a) (aY b)
attribute [push_cast] zB
def GU(n:NV)(m:MH)(h:PH)(K:bu):Prop:=
  ∃(c:NV),DB (λs p q k=>oB (gX n (gY n (gW n))) (gX c (gY c (gW c))) (Av h s p q k c) (∀(r:Bool),gL (fV r (Mf k q)) (!r) (bU K 100 m h) (aW (λb o=>aI (aX n.args.a b o) ((0:Int)<=0) (0<aG n.args) (∃(y:Sl),aU m h b (o+0) (aY y)/\aW (λe f=>aI (aX n.args.a e f) ((0:Int)<=1) (1<aG n.args) (∃(g:Sl),aI (aU m h e (f+1) (aY g)) (bO h b (o+0) (aY y)) (bO h e (f+1) (aY g)) (cG h 1 (zB y g) (λA t=>∃(u:Sl)(d:List bt),aA (iN A=iN u) (bKX t u d) (aA (d.length<=10) (∀(x:bt),List.Mem x d->Gf x) (∀(z:Sl)(j:PH),cD t j (Ints j z d.flatten) (lL K z m j))))))))))))
def GS(n:NV)(m:MH)(h:PH)(K:bu):Prop:=
  ∃(c:NV),DB (λs p q k=>oB (gX n (gY n (gW n))) (gX c (gY c (gW c))) (Av h s p q k c) (∀(r:Bool),gL (fV r (Mf k q)) (!r) (bU K 100 m h) (aW (λb o=>aI (aX n.args.a b o) ((0:Int)<=0) (0<aG n.args) (∃(y:Sl),aU m h b (o+0) (aY y)/\lL K y m h)))))
def KD(n:NV)(m:MH)(h:PH)(K:bu):Prop:=
  B8 (gX n (gY n (gW n))::bK (eG 2) (lG zV)) (λc k u=>gX c (gY c (gW c))::bK (eG k) (cC u)) h (λk q z u r=>gL (fV r (Cc z k q u)) (!r) (bU K 100 m h) (aW (λb o=>aI (aX n.args.a b o) ((0:Int)<=0) (0<aG n.args) (∃(y:Sl),aU m h b (o+0) (aY y)/\aW (λd e=>aI (aX n.args.a d e) ((0:Int)<=1) (1<aG n.args) (∃(f:Sl),aU m h d (e+1) (aY f)/\yJ y f h (λa A g=>gL (fV g (a=A)) (!g) (bU K 100 m h) (aW (λj t=>aI (aX n.args.a j t) ((0:Int)<=0) (0<aG n.args) (∃(x:Sl),aU m h j (t+0) (aY x)/\lL K x m h))))))))))
abbrev Fp(a:Int->Int->Prop):Prop:=∃(x c:Int),a x c
abbrev Cg(a:Int->Int->Pred->bt->bz->bt->ca->Int->cg->Prop):Prop:=Fp (λx c=>∃(d:Pred)(e:bt)(f:bz)(g:bt)(j:ca)(n:Int)(o:cg),a x c d e f g j n o)
attribute [push_cast] Fp Cg
def GR(n:NV)(m:MH)(h:PH)(K:bu):Prop:=
  ∃(e:NV),DB (λs p q k=>oB (gX n (gY n (gW n))) (gX e (gY e (gW e))) (Av h s p q k e) (B8 (gX n (gY n (gW n))::bK (eG 1) (lG (DD bL bL (IN e.q iT)))) (λd f u=>gX d (gY d (gW d))::bK (eG f) (cC u)) h (λf B C u r=>gL (fV r (Cc C f B u)) (!r) (bU K 100 m h) (∃(d:NV),DB (λD E j x=>∃(a:bt),aI (oF (gX n (gY n (gW n)))=oF (gX d (gY d (gW d)))) (Av h D E j x d) (x[0]? =Option.some a) (∀(z:Bool),gL (fV z (Cg (λo t w c F g A l G=>j=Query.mk o t w c F g A l G/\kT a g A l))) (!z) (bU K 100 m h) (aW (λb o=>aI (aX n.args.a b o) ((0:Int)<=0) (0<aG n.args) (∃(y:Sl),aU m h b (o+0) (aY y)/\lL K y m
 h)))))))))
def GQ(n:NV)(m:MH)(h:PH)(K:bu):Prop:=
  ∃(e:NV),DB (λs p q k=>oB (gX n (gY n (gW n))) (gX e (gY e (gW e))) (Av h s p q k e) (B8 (gX n (gY n (gW n))::bK (eG 2) (lG (DD bL bL (IN e.q iT)))) (λd A u=>gX d (gY d (gW d))::bK (eG A) (cC u)) h (λA J L u r=>gL (fV r (Cc L A J u)) (!r) (bU K 100 m h) (aW (λb o=>aI (aX n.args.a b o) ((0:Int)<=0) (0<aG n.args) (∃(y:Sl),aU m h b (o+0) (aY y)/\aW (λf j=>aI (aX n.args.a f j) ((0:Int)<=1) (1<aG n.args) (∃(x:Sl),aU m h f (j+1) (aY x)/\yJ y x h (λa M B=>gL (fV B (a=M)) (!B) (aA (bO h b (o+0) (aY y)) (bO h f (j+1) (aY x)) (bU K 100 m h)) (aA (bO h b (o+0) (aY y)) (bO h f (j+1) (aY x)) (∃
 (d:NV),DB (λO P C D=>∃(E:bt),aI (oF (gX n (gY n (gW n)))=oF (gX d (gY d (gW d)))) (Av h O P C D d) (D[0]? =Option.some E) (∀(F:Bool),gL (fV F (Cg (λz t w c Q g G l R=>C=Query.mk z t w c Q g G l R/\kT E g G l))) (!F) (bU K 100 m h) (aW (λH z=>aI (aX n.args.a H z) ((0:Int)<=0) (0<aG n.args) (∃(I:Sl),aU m h H (z+0) (aY I)/\lL K I m h))))))))))))))))
theorem Sc{e:Int}(h:e≠0):fin (dG e)=dG e:=by unfold fin;rw[if_neg (by simpa[dG]using h)];rfl
theorem Yj(l:bt):fin (l,0)=kR l:=by unfold fin;rw[if_pos rfl]
structure Tst(K:bu)(m:MH)(h:PH)(full:bt×Int):Prop where
 all:∀r,fin r=full->KR K m h r
theorem Tst.err{f:bt×Int}{e:Int}(x:Tst K m h f)(d:f=dG e)(g:e≠0)(c:PH.le h h'):K (.tup [.val (.slice none 0 0),.val (.int .i64 e)]) m h':=
 (x.all (dG e) (by rw[d,Sc g])).err c rfl
theorem Tst.ok{f:bt×Int}{sl:Sl}(x:Tst K m h f)(d:f=kR l)(c:PH.le h h')(e:Ints h' sl l):K (.tup [.val (.slice sl.a sl.len sl.cap),.val (.int .i64 0)]) m h':=
 x.all (l,0) (by rw[d,Yj]) sl h' c e
theorem w9{q:Query}(h:¬((ks.length:Int)=arity q.op/\cO q)):qU s ps q ks=dG 100:=by
 unfold qU;by_cases c:(ks.length:Int)=arity q.op
 .rw[if_pos c];unfold dQ;rw[if_pos (.inr λe=>h ⟨c,e⟩)]
 .rw[if_neg c]
theorem qZ{s:iJ}{ps:bt}{op ta:Int}{w:Pred}{co:bt}{on:bz}{gr:bt}{od:ca}{li:Int}{args:cg}{ks:List bt}(c:(ks.length:Int)=arity op)(d:cO (.mk op ta w co on gr od li args))(f:0<=arity op):
 qU s ps (.mk op ta w co on gr od li args) ks=dQ s ps (.mk op ta w co on gr od li args) (ks.getD 0 []) (ks.getD 1 [])/\¬(arity op<0\/¬cO (.mk op ta w co on gr od li args)):=by
 unfold qU;rw[if_pos (show(ks.length:Int)=arity (Query.op (.mk op ta w co on gr od li args))from c)];exact⟨rfl,λe=>e.elim (λe=>by omega) λe=>e d⟩
section
variable{n:NV}{s:iJ}{ps:bt}{ta:Int}{w:Pred}{co:bt}{on:bz}{gr:bt}{od:ca}{li:Int}{args:cg}{ks:List bt}{m:MH}{h:PH}{K:bu}
theorem VJ(c:(ks.length:Int)=1):∃a,ks=[a]:=by
 match ks,c with
 |[a],_=>exact⟨a,rfl⟩
 |[],h=>simp at h
 |_::_::_,h=>simp at h;omega
theorem RC(c:(ks.length:Int)=2):∃a b,ks=[a,b]:=by
 match ks,c with
 |[a,b],_=>exact⟨a,b,rfl⟩
 |[],h=>simp at h
 |[_],h=>simp at h
 |_::_::_::_,h=>simp at h;omega
theorem bmQ(f:Av h s ps (.mk 1 ta w co on gr od li args) ks n)(y:lK s)(c:Tst K m h (qU s ps (.mk 1 ta w co on gr od li args) ks)):GX n m h K:=by
 dsimp only[GX,push_cast];have x:=f.q_.parts;have o:=x.table_;have z:=f.s_.tables.slen;refine⟨n,0,⟨0,n.q.table,⟨0,0,eT,eT,⟨none,0,0⟩⟩,⟨none,0,0⟩,⟨none,0,0⟩,⟨none,0,0⟩,⟨none,0,0⟩,0,⟨none,0,0⟩⟩,s,ps,_,ks,.mk 0 ta eJ [] [] [] [] 0 [],rfl,f,sN.rep ⟨rfl,o,Ds h,⟨.nil _ _,bj⟩,⟨.nil _ _,bj⟩,⟨.nil _ _,bj⟩,⟨.nil _ _,bj⟩,rfl,.nil _ _ _ _⟩,λr t=>aC (λg=>c.err (w9 λe=>?_) aD (.refl _)) (λg=>?_)⟩
 .have:r=true:=t.2 ⟨e.1,by have:=e.2;simp[cO]at this;obtain⟨rfl,rfl,rfl,rfl,rfl,rfl⟩:=this;rfl⟩;rw[this]at g;cases g
 obtain⟨A,d⟩:=t.1 (bo g);simp only[Query.withOf,Query.mk.injEq]at d;obtain⟨_,_,rfl,rfl,rfl,rfl,rfl,rfl,_⟩:=d;obtain⟨B,C⟩:=qZ (s:=s) (ps:=ps) (op:=1) (ta:=ta) (w:=eJ) (co:=[]) (on:=[]) (gr:=[]) (od:=[]) (li:=0) (args:=args) (ks:=ks) A (by simp[cO]) bk;rw[B]at c;unfold dQ at c;rw[if_neg C]at c;dsimp only at c;rw[if_pos rfl]at c;refine aF (λD=>c.err (if_neg aD) aD (.refl _)) (λD=>aF (λE=>c.err (if_neg aD) aD (.refl _)) (λE=>⟨n.s,s,n.q.table,rfl,f.s_,y,λz h' j u=>?_⟩));rw[o]at u;exact c.ok (if_pos aD) j u
theorem blJ(f:Av h s ps (.mk 2 ta w co on gr od li args) ks n)(c:Tst K m h (qU s ps (.mk 2 ta w co on gr od li args) ks)):GW n m h K:=by
 dsimp only[GW,push_cast];have x:=f.q_.parts;refine⟨n,1,⟨0,0,n.q.where_,⟨none,0,0⟩,⟨none,0,0⟩,⟨none,0,0⟩,⟨none,0,0⟩,0,⟨none,0,0⟩⟩,s,ps,_,ks,.mk 0 0 w [] [] [] [] 0 [],rfl,f,sN.rep ⟨rfl,rfl,x.where_,⟨.nil _ _,bj⟩,⟨.nil _ _,bj⟩,⟨.nil _ _,bj⟩,⟨.nil _ _,bj⟩,rfl,.nil _ _ _ _⟩,λr u=>aC (λg=>c.err (w9 λe=>?_) aD (.refl _)) (λg=>?_)⟩
 .have:r=true:=u.2 ⟨e.1,by have:=e.2;simp[cO]at this;obtain⟨rfl,rfl,rfl,rfl,rfl,rfl⟩:=this;rfl⟩;rw[this]at g;cases g
 obtain⟨y,d⟩:=u.1 (bo g);simp only[Query.withOf,Query.mk.injEq]at d;obtain⟨_,rfl,_,rfl,rfl,rfl,rfl,rfl,_⟩:=d;obtain⟨E,F⟩:=qZ (s:=s) (ps:=ps) (op:=2) (ta:=0) (w:=w) (co:=[]) (on:=[]) (gr:=[]) (od:=[]) (li:=0) (args:=args) (ks:=ks) y (by simp[cO]) bk;rw[E]at c;unfold dQ at c;rw[if_neg F]at c;dsimp only at c;rw[if_neg bk,if_pos rfl]at c;obtain⟨a,rfl⟩:=VJ y;obtain⟨z,A,t,B,C,D,G,H⟩:=f.arg (j:=0) rfl;simp only[getD_cons_zero]at c;refine⟨z,A,B,aD,aD,t,.imm (bo C),t,n.params,n.q.where_,a,ps,w,rfl,D,f.ps_,x.where_,aC (λo=>c.err (if_neg (bo o)) (bo o) (.refl _)) (λo=>⟨z,A,B,aD,aD,t,.imm (bo C),c.ok (if_pos (bo o)) (.refl _) D⟩)⟩
theorem blQ(u:Av h s ps (.mk 5 ta w co on gr od li args) ks n)(d:Tst K m h (qU s ps (.mk 5 ta w co on gr od li args) ks)):GS n m h K:=by
 dsimp only[GS,push_cast];refine⟨n,s,ps,_,ks,rfl,u,λr x=>aC (λg=>d.err ?_ aD (.refl _)) (λg=>?_)⟩
 .by_cases f:((ks.length:Int)=arity 5/\cO (.mk 5 ta w co on gr od li args))
  .obtain⟨o,t⟩:=qZ (s:=s) (ps:=ps) f.1 f.2 bk;rw[o];unfold dQ;rw[if_neg t];dsimp only;rw[if_neg bk,if_neg bk,if_neg bk,if_neg bk,if_pos rfl,if_neg];intro c;have e:=f.2;simp[cO]at e;have:r=true:=x.2 ⟨by have:=f.1;simp[arity]at this;omega,e.1,e.2.1,e.2.2.1,e.2.2.2.1,e.2.2.2.2.1,e.2.2.2.2.2,c⟩;rw[this]at g;cases g
  .exact w9 f
 obtain⟨y,rfl,rfl,rfl,rfl,rfl,rfl,c⟩:=x.1 (bo g);obtain⟨o,t⟩:=qZ (s:=s) (ps:=ps) (op:=5) (ta:=0) (w:=eJ) (co:=[]) (on:=on) (gr:=[]) (od:=[]) (li:=0) (args:=args) (ks:=ks) (by rw[y];rfl) (by simp[cO]) bk;rw[o]at d;unfold dQ at d;rw[if_neg t]at d;dsimp only at d;rw[if_neg bk,if_neg bk,if_neg bk,if_neg bk,if_pos rfl,if_pos c]at d;obtain⟨a,b,rfl⟩:=RC (ks:=ks) aD;obtain⟨z,A,B,C,D,E,F,G⟩:=u.arg (j:=0) rfl;exact⟨z,A,C,aD,aD,B,.imm (bo D),d.ok rfl (.refl _) E⟩
theorem blX(x:Av h s ps (.mk 4 ta w co on gr od li args) ks n)(f:Tst K m h (qU s ps (.mk 4 ta w co on gr od li args) ks)):GU n m h K:=by
 dsimp only[GU,push_cast];refine⟨n,s,ps,_,ks,rfl,x,λr E=>aC (λy=>f.err ?_ aD (.refl _)) (λy=>?_)⟩
 .by_cases o:((ks.length:Int)=arity 4/\cO (.mk 4 ta w co on gr od li args))
  .obtain⟨z,A⟩:=qZ (s:=s) (ps:=ps) o.1 o.2 (by decide);rw[z];unfold dQ;rw[if_neg A];dsimp only;rw[if_neg (by decide),if_neg (by decide),if_neg (by decide),if_pos rfl,if_neg];intro c;have e:=o.2;simp[cO]at e;have:r=true:=E.2 ⟨by have:=o.1;simp[arity]at this;omega,e.1,e.2.1,e.2.2.1,e.2.2.2.1,e.2.2.2.2.1,e.2.2.2.2.2,c⟩;rw[this]at y;cases y
  .exact w9 o
 obtain⟨d,rfl,rfl,rfl,rfl,rfl,rfl,c⟩:=E.1 (by simpa using y);obtain⟨z,A⟩:=qZ (s:=s) (ps:=ps) (op:=4) (ta:=0) (w:=eJ) (co:=[]) (on:=on) (gr:=[]) (od:=[]) (li:=0) (args:=args) (ks:=ks) (by rw[d];rfl) (by simp[cO]) (by decide);rw[z]at f;unfold dQ at f;rw[if_neg A]at f;dsimp only at f;rw[if_neg (by decide),if_neg (by decide),if_neg (by decide),if_pos rfl,if_pos c]at f;obtain⟨a,b,rfl⟩:=RC (ks:=ks) aD;obtain⟨H,I,B,J,F,L,T,U⟩:=x.arg (j:=0) rfl;obtain⟨M,O,C,P,G,Q,V,W⟩:=x.arg (j:=1) rfl;refine⟨H,I,J,aD,aD,B,.imm (by simpa using F),M,O,P,aD,aD,C,.imm (by simpa using G),by simpa using F,by simpa using G,λR h' g t=>⟨R,[a,b],rfl,⟨⟨[B,C],t,rfl,λj k d=>?_⟩,by simp⟩,by simp,λk d=>x.len k d,λS e u D=>f.ok (l:=a++b) (by simp) (g.trans u) (by simpa using D)⟩⟩
 match j,d with
 |0,d=>simp at d;subst d;exact⟨B,rfl,L.mono g⟩
 |1,d=>simp at d;subst d;exact⟨C,rfl,Q.mono g⟩
 |_+2,d=>simp at d
theorem bkJ{op:Int}(y:op=6\/op=7\/op=8)(o:Av h s ps (.mk op ta w co on gr od li args) ks n)(d:Tst K m h (qU s ps (.mk op ta w co on gr od li args) ks)):KD n m h K:=by
 dsimp only[KD,push_cast];have x:=o.q_.parts;have R:arity op=2:=by rcases y with rfl|rfl|rfl<;>rfl
 have c:op≠1/\op≠2/\op≠3/\op≠4/\op≠5/\op≠9/\op≠10:=by omega
 refine⟨n,2,⟨0,0,⟨0,0,eT,eT,⟨none,0,0⟩⟩,⟨none,0,0⟩,⟨none,0,0⟩,⟨none,0,0⟩,⟨none,0,0⟩,0,⟨none,0,0⟩⟩,s,ps,_,ks,.mk 0 0 eJ [] [] [] [] 0 [],rfl,o,sN.rep ⟨rfl,rfl,Ds h,⟨.nil _ _,bj⟩,⟨.nil _ _,bj⟩,⟨.nil _ _,bj⟩,⟨.nil _ _,bj⟩,rfl,.nil _ _ _ _⟩,λr A=>aC (λt=>d.err (w9 λe=>?_) aD (.refl _)) (λt=>?_)⟩
 .have B:(ks.length:Int)=arity op:=e.1;have:r=true:=A.2 ⟨aD,by have:=e.2;simp[cO,c]at this;obtain⟨rfl,rfl,rfl,rfl,rfl,rfl,rfl⟩:=this;rfl⟩;rw[this]at t;cases t
 obtain⟨I,f⟩:=A.1 (bo t);simp only[Query.withOf,Query.mk.injEq]at f;obtain⟨_,rfl,rfl,rfl,rfl,rfl,rfl,rfl,_⟩:=f;obtain⟨J,L⟩:=qZ (s:=s) (ps:=ps) (op:=op) (ta:=0) (w:=eJ) (co:=[]) (on:=[]) (gr:=[]) (od:=[]) (li:=0) (args:=args) (ks:=ks) aD (by simp[cO]) aD;rw[J]at d;unfold dQ at d;rw[if_neg L]at d;dsimp only at d;rw[if_neg c.1,if_neg c.2.1,if_neg c.2.2.1,if_neg c.2.2.2.1,if_neg c.2.2.2.2.1,if_neg c.2.2.2.2.2.1,if_neg c.2.2.2.2.2.2]at d;obtain⟨a,b,rfl⟩:=RC I;obtain⟨C,D,z,E,F,G,S,T⟩:=o.arg (j:=0) rfl;obtain⟨M,O,H,B,P,Q,U,V⟩:=o.arg (j:=1) rfl;refine⟨C,D,E,aD,aD,z,.imm (bo F),M,O,B,aD,aD,H,.imm (bo P),z,H,a,b,rfl,G,Q,λW g=>aC (λu=>d.err (if_neg λe=>?_) aD (.refl _)) (λu=>⟨C,D,E,aD,aD,z,.imm (bo F),d.ok (if_pos (g.1 (bo u))) (.refl _) G⟩)⟩;have e:a=b:=e;rw[g.2 e]at u;cases u
theorem blZ(B:Av h s ps (.mk 3 ta w co on gr od li args) ks n)(d:Tst K m h (qU s ps (.mk 3 ta w co on gr od li args) ks)):GV n m h K:=by
 dsimp only[GV,push_cast];have x:=B.q_.parts;have C:=x.columns_.slen;have H:=x.columns_.len;refine⟨n,1,⟨0,0,⟨0,0,eT,eT,⟨none,0,0⟩⟩,n.q.columns,⟨none,0,0⟩,⟨none,0,0⟩,⟨none,0,0⟩,0,⟨none,0,0⟩⟩,s,ps,_,ks,.mk 0 0 eJ co [] [] [] 0 [],rfl,B,sN.rep ⟨rfl,rfl,Ds h,x.columns_,⟨.nil _ _,bj⟩,⟨.nil _ _,bj⟩,⟨.nil _ _,bj⟩,rfl,.nil _ _ _ _⟩,λr I=>aC (λy=>d.err (w9 λe=>?_) aD (.refl _)) (λy=>?_)⟩
 .have:r=true:=I.2 ⟨e.1,by have:=e.2;simp[cO]at this;obtain⟨rfl,rfl,rfl,rfl,rfl,rfl⟩:=this;rfl⟩;rw[this]at y;cases y
 obtain⟨J,o⟩:=I.1 (bo y);simp only[Query.withOf,Query.mk.injEq]at o;obtain⟨_,rfl,rfl,_,rfl,rfl,rfl,rfl,_⟩:=o;obtain⟨S,T⟩:=qZ (s:=s) (ps:=ps) (op:=3) (ta:=0) (w:=eJ) (co:=co) (on:=[]) (gr:=[]) (od:=[]) (li:=0) (args:=args) (ks:=ks) J (by simp[cO]) bk;rw[S]at d;unfold dQ at d;rw[if_neg T]at d;dsimp only at d;rw[if_neg bk,if_neg bk,if_pos rfl]at d;obtain⟨a,rfl⟩:=VJ J;obtain⟨L,M,O,P,Q,R,l0,j0⟩:=B.arg (j:=0) rfl;have U:=R.slen;simp only[getD_cons_zero]at d;refine aC (λz=>d.err (if_neg λe=>e.1 ((Bz C).1 z)) aD (.refl _)) (λz=>?_);have D:co≠[]:=λe=>by rw[(Bz C).2 e]at z;cases z
 refine⟨aD,aD,aD,aD,λ⟨i,l⟩=>i<=co.length/\l=(co.take i).map (λc=>a.getD c.toNat 0)/\fD (λ_ c=>BM a c=true) co i,λ⟨i,_⟩=>co.length-i,⟨(0,[]),⟨aD,bj,.zero⟩,MT⟩,?_⟩;rintro⟨i,_⟩ ⟨hi,rfl,t⟩;dsimp only;refine aF (λu=>?_) (λV sl h' E f=>?_)
 .obtain⟨c,A⟩:=eF C u;obtain⟨W,X,F,Y⟩:=x.columns_.at' A;have g:¬BM a c=true->K (.tup [.val (.slice none 0 0),.val (.int .i64 100)]) m h:=λZ=>d.err (if_neg λe=>Z (e.2 i c A)) aD (.refl _);refine⟨W,X,F,aD,u,c,.imm Y,aF (λd2=>g λe=>?_) (λd2=>⟨L,M,P,aD,aD,O,.imm (bo Q),aF (λd3=>g λe=>?_) (λd3=>?_)⟩)⟩
  .have:=dW.1 e;omega
  .have:=dW.1 e;omega
  obtain⟨b2,o2,G,r2⟩:=R.inb (n:=c) aD aD;refine⟨L,M,P,aD,aD,O,.imm (bo Q),b2,o2,G,aD,aD,_,.imm r2,?_,?_,(i+1,(co.take (i+1)).map (λc=>a.getD c.toNat 0)),⟨aD,rfl,t.succ A (dW.2 ⟨aD,aD⟩)⟩,by show co.length-(i+1)<co.length-i;omega,?_⟩
  .simp;omega
  .simp;omega
  .rw[iH A,map_append];exact MT
 .rw[take_of_length_le aD]at f;exact d.ok (if_pos ⟨D,t.all aD⟩) E ⟨f,by simp;omega⟩
theorem bkZ(d:Av h s ps (.mk 9 ta w co on gr od li args) ks n)(c:Tst K m h (qU s ps (.mk 9 ta w co on gr od li args) ks)):GR n m h K:=by
 dsimp only[GR,push_cast];have x:=d.q_.parts;refine⟨n,s,ps,_,ks,rfl,d,n,1,⟨0,0,⟨0,0,eT,eT,⟨none,0,0⟩⟩,⟨none,0,0⟩,⟨none,0,0⟩,n.q.group,n.q.order,n.q.limit,⟨none,0,0⟩⟩,s,ps,_,ks,.mk 0 0 eJ [] [] gr od li [],rfl,d,sN.rep ⟨rfl,rfl,Ds h,⟨.nil _ _,bj⟩,⟨.nil _ _,bj⟩,x.group_,x.order_,x.limit_,.nil _ _ _ _⟩,λr u=>aC (λo=>c.err (w9 λe=>?_) aD (.refl _)) (λo=>?_)⟩
 .have:r=true:=u.2 ⟨e.1,by have:=e.2;simp[cO]at this;obtain⟨rfl,rfl,rfl,rfl⟩:=this;rfl⟩;rw[this]at o;cases o
 obtain⟨y,f⟩:=u.1 (bo o);simp only[Query.withOf,Query.mk.injEq]at f;obtain⟨_,rfl,rfl,rfl,rfl,_,_,_,_⟩:=f;obtain⟨z,A⟩:=qZ (s:=s) (ps:=ps) (op:=9) (ta:=0) (w:=eJ) (co:=[]) (on:=[]) (gr:=gr) (od:=od) (li:=li) (args:=args) (ks:=ks) y (by simp[cO]) bk;rw[z]at c;unfold dQ at c;rw[if_neg A]at c;dsimp only at c;rw[if_neg bk,if_neg bk,if_neg bk,if_neg bk,if_neg bk,if_pos rfl]at c;obtain⟨a,rfl⟩:=VJ y;obtain⟨B,C,D,E,F,G,I,J⟩:=d.arg (j:=0) rfl;refine⟨n,s,ps,_,[a],a,rfl,d,rfl,λL g=>aC (λt=>c.err (if_neg λe=>?_) aD (.refl _)) (λt=>⟨B,C,E,aD,aD,D,.imm (bo F),c.ok (if_pos ?_) (.refl _) G⟩)⟩
 .rw[g.2 ⟨_,_,_,_,_,_,_,_,_,rfl,e⟩]at t;cases t
 .obtain⟨_,_,_,_,_,_,_,_,_,e,H⟩:=g.1 (bo t);cases e;exact H
theorem bkX(d:Av h s ps (.mk 10 ta w co on gr od li args) ks n)(c:Tst K m h (qU s ps (.mk 10 ta w co on gr od li args) ks)):GQ n m h K:=by
 dsimp only[GQ,push_cast];have x:=d.q_.parts;refine⟨n,s,ps,_,ks,rfl,d,n,2,⟨0,0,⟨0,0,eT,eT,⟨none,0,0⟩⟩,⟨none,0,0⟩,⟨none,0,0⟩,n.q.group,n.q.order,n.q.limit,⟨none,0,0⟩⟩,s,ps,_,ks,.mk 0 0 eJ [] [] gr od li [],rfl,d,sN.rep ⟨rfl,rfl,Ds h,⟨.nil _ _,bj⟩,⟨.nil _ _,bj⟩,x.group_,x.order_,x.limit_,.nil _ _ _ _⟩,λr C=>aC (λt=>c.err (w9 λe=>?_) aD (.refl _)) (λt=>?_)⟩
 .have:r=true:=C.2 ⟨e.1,by have:=e.2;simp[cO]at this;obtain⟨rfl,rfl,rfl,rfl⟩:=this;rfl⟩;rw[this]at t;cases t
 obtain⟨D,f⟩:=C.1 (bo t);simp only[Query.withOf,Query.mk.injEq]at f;obtain⟨_,rfl,rfl,rfl,rfl,_,_,_,_⟩:=f;obtain⟨J,L⟩:=qZ (s:=s) (ps:=ps) (op:=10) (ta:=0) (w:=eJ) (co:=[]) (on:=[]) (gr:=gr) (od:=od) (li:=li) (args:=args) (ks:=ks) D (by simp[cO]) bk;rw[J]at c;unfold dQ at c;rw[if_neg L]at c;dsimp only at c;rw[if_neg bk,if_neg bk,if_neg bk,if_neg bk,if_neg bk,if_neg bk,if_pos rfl]at c;obtain⟨a,b,rfl⟩:=RC D;obtain⟨E,F,A,G,u,H,S,T⟩:=d.arg (j:=0) rfl;obtain⟨M,O,I,P,B,Q,U,V⟩:=d.arg (j:=1) rfl;refine⟨E,F,G,aD,aD,A,.imm (bo u),M,O,P,aD,aD,I,.imm (bo B),A,I,a,b,rfl,H,Q,λW g=>aC (λy=>⟨bo u,bo B,c.err (if_neg λe=>?_) aD (.refl _)⟩) (λy=>⟨bo u,bo B,n,s,ps,_,[a,b],a,rfl,d,rfl,λX o=>aC (λz=>c.err (if_neg λe=>?_) aD (.refl _)) (λz=>⟨E,F,G,aD,aD,A,.imm (bo u),c.ok (if_pos ⟨g.1 (bo y),?_⟩) (.refl _) H⟩)⟩)⟩
 .have e:a=b:=e.1;rw[g.2 e]at y;cases y
 .rw[o.2 ⟨_,_,_,_,_,_,_,_,_,rfl,e.2⟩]at z;cases z
 .obtain⟨_,_,_,_,_,_,_,_,_,e,R⟩:=o.1 (bo z);cases e;exact R
end
end Go.Ps
