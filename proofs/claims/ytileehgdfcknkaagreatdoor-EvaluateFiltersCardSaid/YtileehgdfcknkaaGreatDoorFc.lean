/-
  Part 3 of a proof that a law of the given program returns true: a condition generator that is proved sound, and contracts of functions. No condition of its own. Own work, joined by a program (pack2.py).
-/
import Derived.Test.YtileehgdfcknkaaGreatDoorFb
set_option linter.unusedVariables false
set_option linter.unusedSimpArgs false
namespace Go.Ps
open Go Go.Vc Go.Proofs
variable{K:CV->MH->PH->Prop}{m:MH}{h:PH}{ps:List Int}{cb:Nat}{sc:bJ}{v:QV}{q:Query}{p:Pred}{l:List Int}{i:Nat}{N:Nat}{m':MH}{h':PH}{co:List Int}{gr:List Int}{od:List (Int×Bool)}{w:Pred}{ta:Int}{li:Int}{xs:List (List Value)}{sz:Nat}{k:Nat}{ks:List (List Int)}{rs:List Int}{r:Sl}{a:List Int}{b:Nat}
structure Ref where
 columns:List Int
 table:Int
structure uX where
 name:ByteArray
 columns:List mC
 key:Int
 refs:List Ref
 checks:List Pred
structure nS where
 version:Int
 tables:List uX
variable{s:nS}
structure NC(h:PH)(r:Ref)(v:BP):Prop where
 columns:Ints h v.columns r.columns
 table:v.table=r.table
def BR(h:PH)(s:Sl)(l:List mC):Prop:=bU h 2 mC.enc Eq s l
structure G8(h:PH)(t:uX)(v:bR):Prop where
 name:v.name=t.name
 columns:BR h v.columns t.columns
 key:v.key=t.key
 refs:bU h 2 BP.enc (NC h) v.references t.refs
 checks:CC h v.checks t.checks
structure fV(h:PH)(s:nS)(v:bJ):Prop where
 version:v.version=s.version
 tables:bU h 5 bR.enc (G8 h) v.tables s.tables
theorem NC.mono{r:Ref}{v:BP}(x:NC h r v)(le:PH.le h h'):NC h' r v:=⟨x.columns.mono le,x.table⟩
theorem G8.mono{t:uX}{v:bR}(x:G8 h t v)(le:PH.le h h'):G8 h' t v:=
 ⟨x.name,bU.mono x.columns le λ_ _ e=>e,x.key,x.refs.mono le λ_ _ e=>e.mono le,x.checks.mono le⟩
theorem fV.mono{v:bJ}(x:fV h s v)(le:PH.le h h'):fV h' s v:=⟨x.version,x.tables.mono le λ_ _ e=>e.mono le⟩
def lower(c:Nat):Bool:=97<=c&&c<=122
def sO(c:Nat):Bool:=lower c||(48<=c&&c<=57)||c==95
def mE(s:ByteArray):List Nat:=s.data.toList.map UInt8.toNat
def lR(s:ByteArray):Bool:=1<=s.size&&s.size<=32&&lower ((mE s).headD 0)&&(mE s).all sO
theorem Ma(s:ByteArray):(mE s).length=s.size:=by simp[mE]
theorem UP{s:ByteArray}{c:Nat}(h:(mE s)[i]? =some c):(s.get! i).toNat=c/\c<256:=by
 simp only[mE,List.getElem?_map,Option.map_eq_some_iff]at h;obtain⟨b,hb,rfl⟩:=h;refine⟨?_,b.toNat_lt⟩
 have hi:i<s.data.size:=by
  have:=(List.getElem?_eq_some_iff.1 hb).1;simpa using this
 have:s.data[i]? =some b:=by simpa using hb
 cases s with
 |mk bs=>
  show(bs[i]!).toNat=b.toNat;rw[getElem!_def,this]
theorem G0{s:ByteArray}(h:(s.get! i).toNat<128):Utf8.decode s i=((s.get! i).toNat,1):=by
 simp only[Utf8.decode,Nat.add_zero];rw[if_pos h]
theorem UO{s:ByteArray}(h:¬(s.get! i).toNat<128):128<=(Utf8.decode s i).1:=by
 simp only[Utf8.decode,Nat.add_zero];rw[if_neg h]
 repeat' split
 all_goals simp_all [Utf8.runeError]
 all_goals omega
def Nl(s:ByteArray):CV:=.val (.string s)
def To:Vc.Spec:=λcvs m h K=>∃s,cvs=[Nl s]/\K (cB (lR s)) m h
noncomputable def V4(s:ByteArray)(m:MH)(h:PH):Ctx:=
 ctx [] [(4,{A:=Nat×Nat×MH,st:=λx=>cD 44 45 [(15,vv (.pointer (some ⟨x.2.1,0,none⟩)))] [] x.2.2 h,inv:=λx=>x.1<=s.size/\cC m h x.2.1/\jJ m x.2.2 x.2.1 (.stringIter s x.1)/\(x.1=0\/lower ((mE s).headD 0)=true)/\((mE s).take x.1).all sO=true,mu:=λx=>s.size-x.1})] [] [] false
noncomputable def V8(s:ByteArray)(m:MH)(h:PH):Ctx:=
 ctx [] [Cf 4 (λi=>cD 50 51 [(0,vv (.string s)),(3,iv i)] [] m h) (λi=>i<=s.size/\((mE s).take i).all sO=true) (λi=>s.size-i)] [] [] false
abbrev MQ(a b:(Nat×Nat×MH)->Prop):Prop:=(∃(x:Nat×Nat×MH),a x)/\∀(x:Nat×Nat×MH),b x
noncomputable abbrev iQ(a:Nat×Nat×MH):Nat:=a.2.1
noncomputable abbrev fS(a:Nat×Nat×MH):Nat->Option Obj:=a.2.2
abbrev yD(a:Nat×Nat×MH)(b:ByteArray)(c:MH)(d:PH):Prop:=aA (a.1<=b.size) (cC c d (iQ a)) (aA (jJ c (fS a) (iQ a) (Obj.stringIter b a.1)) (a.1=0\/dV (lower (List.headD (mE b) 0))) (dV (List.all (List.take a.1 (mE b)) sO)))
abbrev cX(a b:Nat):Prop:=Ve a 0=Ve b 0
noncomputable abbrev AT(a:ByteArray)(b:Nat):Nat:=(Utf8.decode a b).1
abbrev wO(a:ByteArray)(b c:Nat):Prop:=a.size-b<a.size-c
abbrev CS(a:(Nat×Nat×MH)->Prop)(b:ByteArray)(c:Nat×Nat×MH)(d:MH)(e:PH):Prop:=∃(x:Nat×Nat×MH),aA (a x) (wO b x.1 c.1) (aA (cX (iQ c) (iQ x)) (d=fS x) (cQ e e))
attribute [push_cast] MQ iQ fS yD cX AT wO CS
def GS(s:ByteArray)(m:MH)(h:PH)(K:CV->MH->PH->Prop):Prop:=
  aZ (↑s.size:Int) 1 (K aW m h) (eF (↑s.size:Int) 32 (K aW m h) (∀(b:Nat)(m1:MH),aM (cC m h b) (jJ m m1 b (Obj.stringIter s 0)) (MQ (λx=>aA (yD x s m h) (cX b (iQ x)) (aA (m1=fS x) (h=h) True)) (λx=>yD x s m h->∃(s1:ByteArray)(p:Nat),aA (uO (fS x) (iQ x) (Obj.stringIter s1 p)) (s1.size<=p->K fJ (fS x) h) (p<s1.size->∀(m2:MH),jJ (fS x) m2 (iQ x) (Obj.stringIter s1 (p+(Utf8.decode s1 p).2))->cT (decide ((↑(AT s1 p):Int)>=97)) (gP (decide ((↑(AT s1 p):Int)<=122)) (cT ((↑p:Int)==0) (K aW m2 h) ((↑(AT s1 p):Int) !=95) (aZ (↑(AT s1 p):Int) 48 (K aW m2 h) (eF (↑(AT s1 p):Int) 57 (K aW m2 h) (CS (λy=>yD y s m h) s x m2 h))) (CS (λy=>yD y s m h) s x m2 h)) (CS (λy=>
 yD y s m h) s x m2 h)) ((↑p:Int)==0) (K aW m2 h) (eA (↑(AT s1 p):Int) 95 (aZ (↑(AT s1 p):Int) 48 (K aW m2 h) (eF (↑(AT s1 p):Int) 57 (K aW m2 h) (CS (λy=>yD y s m h) s x m2 h))) (CS (λy=>yD y s m h) s x m2 h)))))))
abbrev H5(a:Prop)(b:ByteArray)(c:Nat)(d:UInt8->UInt8)(e:UInt8->Prop):Prop:=a/\∃(x:UInt8),b.data.toList[c]? =Option.some (d x)/\e x
noncomputable abbrev sC(a:UInt8):Int:=(↑a.toNat:Int)
abbrev tU(a:Nat)(b:ByteArray):Prop:=a<=b.size/\dV (List.all (List.take a (mE b)) sO)
noncomputable abbrev rA(a:Nat):Nat:=(↑a:Int).toNat
attribute [push_cast] H5 sC tU rA
def L0(s:ByteArray)(m:MH)(h:PH)(K:CV->MH->PH->Prop):Prop:=
  cT ((↑s.size:Int)==0) (K aW m h) (decide ((↑s.size:Int)>32)) (K aW m h) (H5 (cA 0) s 0 (λb=>b) (λb=>aZ (↑b.toNat:Int) 97 (K aW m h) (H5 (cA 0) s 0 (λb1=>b1) (λb1=>eF (sC b1) 122 (K aW m h) (gE (∃(x:Nat),aA (tU x s) (eQ (SV.at (Nt s))) (aA (bD x) (m=m) (cQ h h))) (λx=>tU x s->aZ (↑x:Int) (↑s.size:Int) (H5 (cA (↑x:Int)) s (rA x) (λb2=>b2) (λb2=>aZ (↑b2.toNat:Int) 97 (aZ (↑b2.toNat:Int) 48 (iE (sC b2 !=95) (K aW m h) (λy=>aA (tU y s) (wO s y x) (aA (eQ (SV.at (Nt s))) (fN (bG x 1)=bV y) (dQ m m h h)))) (eF (sC b2) 57 (iE (sC b2 !=95) (K aW m h) (λy=>aA (tU y s) (wO s y x) (aA (eQ (SV.at (Nt s))) (fN (bG x 1)=bV y) (dQ m m h h)))) (∃(y:
 Nat),aA (tU y s) (wO s y x) (aA (eQ (SV.at (Nt s))) (fN (bG x 1)=bV y) (dQ m m h h))))) (eF (sC b2) 122 (aZ (↑b2.toNat:Int) 48 (iE (sC b2 !=95) (K aW m h) (λy=>aA (tU y s) (wO s y x) (aA (eQ (SV.at (Nt s))) (fN (bG x 1)=bV y) (dQ m m h h)))) (eF (sC b2) 57 (iE (sC b2 !=95) (K aW m h) (λy=>aA (tU y s) (wO s y x) (aA (eQ (SV.at (Nt s))) (fN (bG x 1)=bV y) (dQ m m h h)))) (∃(y:Nat),aA (tU y s) (wO s y x) (aA (eQ (SV.at (Nt s))) (fN (bG x 1)=bV y) (dQ m m h h))))) (∃(y:Nat),aA (tU y s) (wO s y x) (aA (eQ (SV.at (Nt s))) (fN (bG x 1)=bV y) (dQ m m h h)))))) (K fJ m h)))))))
def kD(h:PH)(K:CV->MH->PH->Prop):CV->MH->PH->Prop:=λr m' h'=>∃m2 h2,(∀b o,m2 b=some o->m' b=some o)/\PH.le h h2/\PH.le h2 h'/\K r m2 h2
theorem kD.here{r:CV}(hK:K r m h):kD h K r m h:=⟨m,h,λ_ _ e=>e,.refl _,.refl _,hK⟩
theorem kD.sub{r:CV}(hm:∀b o,m b=some o->m' b=some o)(hK:K r m h):kD h K r m' h:=⟨m,h,hm,.refl _,.refl _,hK⟩
theorem jJ.keeps{o:Obj}(hb:cC m h b)(hu:jJ m m' b o):∀b o,m b=some o->m' b=some o:=λb' o' e=>by
 have hne:b'≠b:=λe'=>by rw[e',hb.m_]at e;cases e
 rw[hu.other b' hne,e]
theorem Rv:Sound Tryz.prog 135 To:=by
 refine Fu Tryz.func135 ?_;rintro cvs m h K ⟨s,rfl,hK⟩;refine⟨V4 s m h,rfl,aF,GS s m h (kD h K),by kernel_rfl,?_⟩;show GS s m h (kD h K);dsimp only[GS,push_cast];have hl:=Ma s;refine aE (λh1=>?_) (λh1=>aE (λh2=>?_) (λh2 b m1 hb hm1=>?_))
 .refine .here (gO hK ?_);have:¬1<=s.size:=by omega
  simp[lR,this]
 .refine .here (gO hK ?_);have:¬s.size<=32:=by omega
  simp[lR,this]
 refine⟨⟨(0,b,m1),⟨by simp,hb,hm1,.inl rfl,by simp⟩,MT⟩,?_⟩;rintro⟨pos,b,mx⟩ ⟨hp,hb,hmx,hhead,hall⟩;simp only at hp hb hmx hhead hall;refine⟨s,pos,⟨hmx.at_⟩,λhge=>?_,λhlt m2 hm2=>?_⟩
 .refine .sub (jJ.keeps hb hmx) (gO hK ?_);rw[List.take_of_length_le aC]at hall
  have h3:lower ((mE s).headD 0)=true:=by
   rcases hhead with e|e
   .omega
   .exact e
  have h1':1<=s.size:=by omega
  have h2':s.size<=32:=by omega
  simp only[lR,hall,h3,decide_eq_true h1',decide_eq_true h2'];rfl
 .have hm3:=hmx.trans hm2;obtain⟨c,hc⟩:∃c,(mE s)[pos]? =some c:=⟨(mE s)[pos]'(by omega),List.getElem?_eq_getElem _⟩
  obtain⟨hg,hc256⟩:=UP hc
  have hhd:pos=0->(mE s).headD 0=c:=λe=>by
   subst e;cases hcs:mE s with
   |nil=>rw[hcs]at hc;simp at hc
   |cons x l=>rw[hcs]at hc;simp at hc;simpa using hc
  have stop:¬((97<=(Utf8.decode s pos).1/\(Utf8.decode s pos).1<=122)\/(pos≠0/\((Utf8.decode s pos).1=95\/(48<=(Utf8.decode s pos).1/\(Utf8.decode s pos).1<=57))))->kD h K (.val (.bool false)) m2 h:=by
   intro hn;refine .sub (jJ.keeps hb hm3) (gO hK ?_);by_cases hlo:(s.get! pos).toNat<128
   .rw[G0 hlo,hg]at hn;by_cases hp0:pos=0
    .have:lower c=false:=by
      simp only[lower,Bool.and_eq_false_iff,decide_eq_false_iff_not];simp only at hn;omega
     simp only[lR,hhd hp0,this,Bool.and_false,Bool.false_and]
    .have:sO c=false:=by
      simp only[sO,lower,Bool.or_eq_false_iff,Bool.and_eq_false_iff,decide_eq_false_iff_not,beq_eq_false_iff_ne];simp only at hn;omega
     simp[lR,zE hc this]
   .have:sO c=false:=by
     simp only[sO,lower,Bool.or_eq_false_iff,Bool.and_eq_false_iff,decide_eq_false_iff_not,beq_eq_false_iff_ne];omega
    simp[lR,zE hc this]
  have go:((97<=(Utf8.decode s pos).1/\(Utf8.decode s pos).1<=122)\/(pos≠0/\((Utf8.decode s pos).1=95\/(48<=(Utf8.decode s pos).1/\(Utf8.decode s pos).1<=57))))->pos+1<=s.size/\jJ m m2 b (.stringIter s (pos+1))/\lower ((mE s).headD 0)=true/\((mE s).take (pos+1)).all sO=true:=by
   intro hy
   have hlo:(s.get! pos).toNat<128:=by
    refine Decidable.byContradiction λhlo=>?_;have:=UO hlo;omega
   rw[G0 hlo]at hm3;rw[G0 hlo,hg]at hy;simp only at hy;refine⟨aC,hm3,?_,?_⟩
   .rcases hhead with e|e
    .rw[hhd e];simp only[lower,Bool.and_eq_true,decide_eq_true_eq];omega
    .exact e
   .rw[xT hc,hall];simp only[sO,lower,Bool.true_and,Bool.or_eq_true,Bool.and_eq_true,decide_eq_true_eq,beq_iff_eq];omega
  have next:((97<=(Utf8.decode s pos).1/\(Utf8.decode s pos).1<=122)\/(pos≠0/\((Utf8.decode s pos).1=95\/(48<=(Utf8.decode s pos).1/\(Utf8.decode s pos).1<=57))))->_:=λhy=>(⟨(pos+1,b,m2),⟨(go hy).1,hb,(go hy).2.1,.inr (go hy).2.2.1,(go hy).2.2.2⟩,by show s.size-(pos+1)<s.size-pos;omega,MT⟩:∃(y:Nat×Nat×MH),(y.fst<=s.size/\cC m h y.snd.fst/\jJ m y.snd.2 y.snd.fst (Obj.stringIter s y.fst)/\(y.fst=0\/lower ((mE s).headD 0)=true)/\(List.take y.fst (mE s)).all sO=true)/\s.size-y.fst<s.size-pos/\SV.at (At.val (Value.pointer (some (Addr.mk b 0 none))))=SV.at (At.val (Value.pointer (some (Addr.mk y.snd.fst 0 none))))/\m2=y.snd.2/\h=h/\True)
  clear go hm3 hm2 hall hhead hhd hmx hm1 hK
  repeat' (first|(refine aB (λ_=>?_) (λ_=>?_))|exact stop (by simp only[decide_eq_true_eq,decide_eq_false_iff_not,bne_iff_ne,ne_eq,beq_iff_eq,beq_eq_false_iff_ne,bne_eq_false_iff_eq,Bool.not_eq_true',Bool.not_eq_false']at*;omega)|exact next (by simp only[decide_eq_true_eq,decide_eq_false_iff_not,bne_iff_ne,ne_eq,beq_iff_eq,beq_eq_false_iff_ne,bne_eq_false_iff_eq,Bool.not_eq_true',Bool.not_eq_false']at*;omega))
theorem RE:Sound Tryz.prog 122 To:=by
 refine iB Tryz.func122 ?_;rintro cvs m h K ⟨s,rfl,hK⟩;refine⟨V8 s m h,rfl,aF,L0 s m h K,by kernel_rfl,?_⟩;dsimp only[L0,push_cast];have hl:=Ma s;refine aB (λh1=>gO hK ?_) (λh1=>aE (λh2=>gO hK ?_) (λh2=>?_))
 .have:¬1<=s.size:=by have:(s.size:Int)=0:=(by simpa using h1);omega
  simp[lR,this]
 .have:¬s.size<=32:=by omega
  simp[lR,this]
 have h1:s.size≠0:=by intro e;rw[e]at h1;simp at h1
 obtain⟨c0,hc0⟩:∃c,s.data.toList[0]? =some c:=⟨s.data.toList[0]'(by simpa using(by omega:0<s.size)),List.getElem?_eq_getElem _⟩
 have hhd:(mE s).headD 0=c0.toNat:=by
  unfold mE;cases hcs:s.data.toList with
  |nil=>rw[hcs]at hc0;simp at hc0
  |cons x l=>rw[hcs]at hc0;simp at hc0;simp[hc0]
 refine⟨aC,c0,hc0,aE (λh3=>gO hK ?_) (λh3=>⟨aC,c0,hc0,aE (λh4=>gO hK ?_) (λh4=>?_)⟩)⟩
 .have:lower c0.toNat=false:=by simp only[lower,Bool.and_eq_false_iff,decide_eq_false_iff_not];omega
  simp only[lR,hhd,this,Bool.and_false,Bool.false_and]
 .have:lower c0.toNat=false:=by simp only[lower,Bool.and_eq_false_iff,decide_eq_false_iff_not];omega
  simp only[lR,hhd,this,Bool.and_false,Bool.false_and]
 refine⟨⟨0,⟨aC,by simp⟩,MT⟩,λi hi=>aE (λhlt=>?_) (λhge=>gO hK ?_)⟩
 .obtain⟨c,hc⟩:∃c,s.data.toList[i]? =some c:=⟨s.data.toList[i]'(by simpa using(by omega:i<s.size)),List.getElem?_eq_getElem _⟩
  have hcc:(mE s)[i]? =some c.toNat:=by simp[mE,hc]
  have stop:sO c.toNat=false->K (.val (.bool false)) m h:=λe=>gO hK (by simp[lR,zE hcc e]);have next:sO c.toNat=true->∃(y:Nat),(y<=s.size/\(List.take y (mE s)).all sO=true)/\s.size-y<s.size-i/\SV.at (At.val (Value.string s))=SV.at (At.val (Value.string s))/\SV.at (At.val (Value.int IntKind.i64 (IntKind.i64.wrap ((i:Int)+1))))=SV.at (At.val (Value.int IntKind.i64 (y:Int)))/\m=m/\h=h/\True:=λe=>⟨i+1,⟨aC,by rw[xT hcc,hi.2,e];rfl⟩,aC,MT⟩
  have hn:sO c.toNat=true↔(97<=c.toNat/\c.toNat<=122)\/(48<=c.toNat/\c.toNat<=57)\/c.toNat=95:=by
   simp only[sO,lower,Bool.or_eq_true,Bool.and_eq_true,decide_eq_true_eq,beq_iff_eq];omega
  have hn':sO c.toNat=false↔¬((97<=c.toNat/\c.toNat<=122)\/(48<=c.toNat/\c.toNat<=57)\/c.toNat=95):=by
   rw[<-hn];simp
  refine⟨aC,c,by simpa using hc,?_⟩;clear hK hi hhd hcc hn';rw[hn]at next
  have stop:=λe=>stop (by rw[<-Bool.not_eq_true,hn];exact e);clear hn
  repeat' (first|(refine aB (λ_=>?_) (λ_=>?_))|exact stop (by simp only[decide_eq_true_eq,decide_eq_false_iff_not,bne_iff_ne,ne_eq,beq_iff_eq,beq_eq_false_iff_ne,bne_eq_false_iff_eq,Bool.not_eq_true',Bool.not_eq_false']at*;omega)|exact next (by simp only[decide_eq_true_eq,decide_eq_false_iff_not,bne_iff_ne,ne_eq,beq_iff_eq,beq_eq_false_iff_ne,bne_eq_false_iff_eq,Bool.not_eq_true',Bool.not_eq_false']at*;omega))
 .have:=hi.2;rw[List.take_of_length_le aC]at this;have h5:lower c0.toNat=true:=by simp only[lower,Bool.and_eq_true,decide_eq_true_eq];omega
  have h1':1<=s.size:=by omega
  have h2':s.size<=32:=by omega
  simp only[lR,this,hhd,h5,decide_eq_true h1',decide_eq_true h2'];rfl
theorem Mw:Tryz.prog.underlying 9=some .string:=by kernel_rfl
theorem AE:KeyLaw Tryz.prog 9 (λv=>∃s,v= .string s):=by
 refine⟨⟨_,Mw⟩,?_,?_,?_⟩
 .rintro _ w b ⟨s,rfl⟩
  have e:∀n:Nat,(Instr.checkKey b (n+1) 9 (.string s)).run Tryz.prog w= .ok () w:=λn=>by
   unfold Instr.checkKey;simp only[Sem.run_bind,run_underlying Mw,Result.andThen];simp
  exact e 9999
 .rintro _ _ w ⟨s,rfl⟩ ⟨t,rfl⟩;refine⟨_,run_equalIn_string w 9999 9 s t Mw,?_⟩;rw[beq_iff_eq];exact⟨λe=>by rw[w8 e],λe=>by injection e with e;rw[e]⟩
 .rintro d _ _ r hd ⟨s,rfl⟩ ⟨t,rfl⟩ h;rw[Mw]at hd;cases hd;simp only[Instr.sameNow,Option.some.injEq]at h;subst h;rw[beq_toListBytes,beq_iff_eq];exact⟨λe=>by rw[w8 e],λe=>by injection e with e;rw[e]⟩
def eH{α:Type}(T:List α->α->Prop)(l:List α)(i:Nat):Prop:=∀j x,j<i->l[j]? =some x->T (l.take j) x
def Good{α:Type}(T:List α->α->Prop)(l:List α):Prop:=∀(j:Nat) x,l[j]? =some x->T (l.take j) x
theorem eH.zero{α:Type}{T:List α->α->Prop}{l:List α}:eH T l 0:=λ_ _ h=>by omega
theorem eH.succ{α:Type}{T:List α->α->Prop}{l:List α}{x:α}(h:eH T l i)(hx:l[i]? =some x)(t:T (l.take i) x):eH T l (i+1):=by
 intro j y hj hy;by_cases e:j=i
 .subst e;rw[hx]at hy;cases hy;exact t
 .exact h j y aC hy
theorem eH.all{α:Type}{T:List α->α->Prop}{l:List α}(h:eH T l i)(hi:l.length<=i):Good T l:=λj x hx=>h j x (by have:=(List.getElem?_eq_some_iff.1 hx).1;omega) hx
theorem Good.not{α:Type}{T:List α->α->Prop}{l:List α}{x:α}(hx:l[i]? =some x)(t:¬T (l.take i) x):¬Good T l:=λh=>t (h i x hx)
def Qc(pre:List mC)(c:mC):Prop:=lR c.name=true/\dM c.kind=true/\c.name∉pre.map mC.name
def Au(pre:List uX)(t:uX):Prop:=lR t.name=true/\1<=t.key/\t.key<=t.columns.length/\t.name∉pre.map uX.name/\Good Qc t.columns
def gT(s:nS)(t:Int):List Int:=if t<0 then[]else match s.tables[t.toNat]? with|none=>[]|some t=>t.columns.map mC.kind
def tI(s:nS)(t:Int):Bool:=decide (0<=t)&&decide (t<s.tables.length)
def aS(v:bJ):CV:=.val (.agg ⟨v.enc⟩)
def mW(s:nS):Prop:=∀t∈s.tables,t.columns.length<=8
def Zg:Vc.Spec:=λcvs m h K=>∃v s t,cvs=[aS v,cI t]/\fV h s v/\K (cB (tI s t)) m h
def uZ:Vc.Spec:=λcvs m h K=>∃v s t,cvs=[aS v,cI t]/\fV h s v/\mW s/\∀sl h',PH.le h h'->Ints h' sl (gT s t)->K (cS sl) m h'
noncomputable def Nd(m:MH)(h:PH):Ctx:=
 dL [] [(5,{A:=Nat×Sl×List Int,st:=λx=>cD 35 37 [(5,.at (.lst 32)),(22,sv x.2.1),(23,iv x.2.1.len),(24,iv x.1)] [(32,.lst 3 1 (x.2.2.map eI))] m h})] [] [] false
noncomputable def XB(m:MH)(h:PH):Ctx:=
 dL [(104,Zg)] [(5,{A:=Nat×Sl×List Int,st:=λx=>cD 38 40 [(5,.at (.lst 19)),(25,sv x.2.1),(26,iv x.2.1.len),(27,iv x.1)] [(19,.lst 3 1 (x.2.2.map eI))] m h})] [] [] false
noncomputable abbrev gQ(a:bJ):Int:=aG a.tables
attribute [push_cast] gQ
def L5(v:bJ)(t:Int)(m:MH)(h:PH)(K:CV->MH->PH->Prop):Prop:=
  fU t 0 (K (By (decide (t<gQ v))) m h) (K aW m h)
noncomputable abbrev pD(a:bJ):Option Addr:=a.tables.a
noncomputable abbrev aU(a:Sl):List Value:=iO (dT a)
abbrev Ie(a:bJ)(b c:Int)(d:MH)(e:PH)(g i:Nat->Nat)(j:Nat)(k:Sl->Sl)(l:Sl->(Nat×Sl×List Int->Prop)->(Nat×Sl×List Int)->Prop)(n:(Nat×Sl×List Int->Prop)->(Nat×Sl×List Int->Nat)->(Nat×Sl×List Int)->Prop):Prop:=aR (λx x1=>aA (aT (pD a) x x1) (b<=c) (c<aG a.tables/\∃(x2:Sl),aL d e (g x) (fQ (i x1) c j+1) (aU (k x2))/\∃(x3:Nat×Sl×List Int->Prop)(x4:Nat×Sl×List Int->Nat),(∃(x5:Nat×Sl×List Int),l x2 x3 x5)/\∀(x5:Nat×Sl×List Int),n x3 x4 x5))
abbrev bF(a b:Sl):Prop:=W2 a=W2 b
noncomputable abbrev kI(a:Nat×Sl×List Int):Sl:=a.2.1
abbrev cK(a b:Sl):Prop:=bV a.len=bV b.len
abbrev rL(a:List Int):Prop:=Option.some (Own.lst 3 1 [])=Option.some (Own.lst 3 1 (List.map eI a))
noncomputable abbrev pZ(a:Nat×Sl×List Int):List Int:=a.2.2
abbrev gM(a:Nat):Prop:=a<=140737488355328
noncomputable abbrev jF(a:List Int):List (List Value):=List.map eI a
abbrev CZ(a:List Int):Prop:=gM (((jF a).length+1)*8)
abbrev iF(a:List (List Value)):Prop:=a.length<140737488355328
abbrev Ic(a:Prop)(b:Nat×Sl×List Int)(c:Int)(d:Nat->Nat->mC->Prop)(e:mC->(Nat×Sl×List Int)->Prop)(g:Prop):Prop:=a->aZ (↑b.1:Int) (aG (kI b)) (aR (λx x1=>aA (aT (kI b).a x x1) (c<=(↑b.1:Int)) ((↑b.1:Int)<aG (kI b)/\∃(x2:mC),aA (d x x1 x2) (CZ (pZ b)) (iF (jF (pZ b))/\∃(x3:Nat×Sl×List Int),e x2 x3)))) g
noncomputable abbrev zR(a:mC):Value:=Value.string a.name
noncomputable abbrev fE(a:List Value):List (List Value):=[a]
abbrev rM(a:List Int)(b:Int)(c:List Int):Prop:=Option.some (Own.lst 3 1 (jF a++fE (cL b)))=Option.some (Own.lst 3 1 (List.map eI c))
abbrev bZ(a:Sl->PH->Prop):Prop:=∀(x:Sl)(x1:PH),a x x1
abbrev bE(a b:PH)(c d:Prop):Prop:=aM (PH.le a b) c d
abbrev EZ(a:PH)(b:List Int)(c:CV->MH->PH->Prop)(d:MH):Prop:=bZ (λx x1=>bE a x1 (aX x1 x 1 (jF b)) (c (dN x) d x1))
attribute [push_cast] pD aU Ie bF kI cK rL pZ gM jF CZ iF Ic zR fE rM bZ bE EZ
def Ph(v:bJ)(t:Int)(m:MH)(h:PH)(K:CV->MH->PH->Prop):Prop:=
  aZ t 0 (K Cz m h) (fU t (gQ v) (K Cz m h) (Ie v 0 t m h (λb=>b) (λo=>o) 5 (λy=>y) (λy I x=>aA (I x) (eL 32) (aA (bF y (kI x)) (cK y (kI x)) (aA (bD x.1) (rL (pZ x)) (aA (m=m) (h=h) True)))) (λI m1 x=>Ic (I x) x 0 (λb o y=>aL m h b (bA o x.1 2) (gL (zR y) (dO y.kind))) (λy x1=>aA (I x1) (m1 x1<m1 x) (aA (eL 32) (bF (kI x) (kI x1)) (aA (cK (kI x) (kI x1)) (fN (bG x.1 1)=bV x1.1) (aA (rM (pZ x) y.kind (pZ x1)) (m=m) (cQ h h))))) (EZ h (pZ x) K m))))
abbrev lE(a:bJ->nS->Prop):Prop:=∃(x:bJ)(x1:nS),a x x1
noncomputable abbrev pI(a:bJ):Value:=dO a.version
noncomputable abbrev pH(a:bJ):Value:=dT a.tables
noncomputable abbrev bN(a:bJ):CV:=lF (gL (pI a) (pH a))
abbrev qE(a:Int):Prop:=a<=281474976710656
attribute [push_cast] lE pI pH bN qE
def O6(v:bJ)(t:Int)(m:MH)(h:PH)(K:CV->MH->PH->Prop):Prop:=
  lE (λv1 s=>∃(t1:Int),aA (cJ (bN v) t=cJ (bN v1) t1) (fV h s v1) (gP (tI s t1) (K Cz m h) (aR (λb o=>aA (aT (pD v) b o) (0<=t) (t<aG v.tables/\∃(y:Sl),aA (aL m h b (fQ o t 5+1) (aU y)) (cA 0) (aA (cA (aG y)) (qE (aG y*8)) (qE (aG y)/\Ie v 0 t m h (λb1=>b1) (λo1=>o1) 5 (λy1=>y1) (λy1 I x=>aA (I x) (eL 19) (aA (bF y1 (kI x)) (cK y1 (kI x)) (aA (bD x.1) (rL (pZ x)) (aA (m=m) (h=h) True)))) (λI m1 x=>Ic (I x) x 0 (λb1 o1 y1=>aL m h b1 (bA o1 x.1 2) (gL (zR y1) (dO y1.kind))) (λy1 x1=>aA (I x1) (m1 x1<m1 x) (aA (eL 19) (bF (kI x) (kI x1)) (aA (cK (kI x) (kI x1)) (fN (bG x.1 1)=bV x1.1) (aA (rM (pZ x) y1.kind (pZ x1)) (m=m)
 (cQ h h))))) (EZ h (pZ x) K m)))))))))
theorem aY.part{o:Nat}{l:List Value}(r:aY h b o l)(k n:Nat):aY h b (o+k) ((l.drop k).take n):=
 ⟨λi v e=>by
  have:l[k+i]? =some v:=by
   rw[List.getElem?_take]at e;split at e
   .rwa [List.getElem?_drop]at e
   .cases e
  have:=r.rd (k+i) v this
  rwa [<-Nat.add_assoc]at this⟩
theorem BR.at{s:Sl}{l:List mC}(r:BR h s l){x:mC}(hi:l[i]? =some x):∃b o,s.a=some ⟨b,o,none⟩/\aY h b (o+i*2) (mC.enc x):=by
 obtain⟨b,o,v,e,k,rfl⟩:=bU.at r hi;exact⟨b,o,e,k⟩
theorem Ch{t:Int}(h:¬(0<=t/\t<s.tables.length)):gT s t=[]:=by
 unfold gT;split
 .rfl
 .rw[List.getElem?_eq_none aC]
theorem Ht{t:Int}{x:uX}(h:0<=t)(hx:s.tables[t.toNat]? =some x):gT s t=x.columns.map mC.kind:=by
 unfold gT;rw[if_neg aC,hx]
theorem fV.table{v:bJ}(hs:fV h s v){t:Int}(h0:0<=t)(h1:t<(v.tables.len:Int)):∃x b o w,s.tables[t.toNat]? =some x/\v.tables.a=some ⟨b,o,none⟩/\aY h b (o+t.toNat*5) (bR.enc w)/\G8 h x w:=by
 have hl:=hs.tables.slen;have hx:s.tables[t.toNat]? =some (s.tables[t.toNat]'(by omega)):=List.getElem?_eq_getElem _;obtain⟨b,o,w,e,r,k⟩:=hs.tables.at hx;exact⟨_,b,o,w,hx,e,r,k⟩
theorem fO{α β:Type}{f:α->β}{l:List α}{x:α}(hx:l[i]? =some x):(l.take (i+1)).map f=(l.take i).map f++[f x]:=by
 rw[List.take_add_one,hx];simp
theorem J5:Sound Tryz.prog 104 Zg:=by
 refine iB Tryz.func104 ?_;rintro cvs m h K ⟨v,s,t,rfl,hs,hK⟩;refine⟨dL [] [] [] [] false,rfl,aF,L5 v t m h K,by kernel_rfl,?_⟩;dsimp only[L5,push_cast];have hl:=hs.tables.slen;refine aE (λh1=>gO hK ?_) (λh1=>gO hK ?_)
 .have h1:0<=t:=h1;simp only[tI,hl,decide_eq_true h1,Bool.true_and]
 .have h1:¬0<=t:=by omega
  simp only[tI,decide_eq_false h1,Bool.false_and]
theorem Dp:Sound Tryz.prog 44 uZ:=by
 refine iB Tryz.func44 ?_;rintro cvs m h K ⟨v,s,t,rfl,hs,h8,hK⟩;refine⟨Nd m h,rfl,aF,Ph v t m h K,by kernel_rfl,?_⟩;dsimp only[Ph,push_cast];have hl:=hs.tables.slen;have hnil:gT s t=[]->K (.val (.slice none 0 0)) m h:=λe=>hK ⟨none,0,0⟩ h (.refl _) (by rw[e];exact⟨.nil _ _,by simp⟩);refine aE (λh1=>hnil (Ch aC)) (λh1=>aE (λh2=>hnil (Ch aC)) (λh2=>?_));obtain⟨x,b,o,w,hx,ea,hr,hrep⟩:=hs.table (t:=t) aC aC;have hx8:=h8 x (List.mem_of_getElem? hx);have hcl:=bU.slen hrep.columns;rw[Ht aC hx]at hK;refine⟨b,o,ea,aC,aC,w.columns,.imm (aY.part hr 1 1),λ⟨i,sl,l⟩=>sl=w.columns/\i<=x.columns.length/\l=(x.columns.take i).map mC.kind,λ⟨i,_,_⟩=>x.columns.length-i,⟨(0,w.columns,[]),⟨rfl,by simp,by simp⟩,MT⟩,?_⟩;rintro⟨i,_,_⟩ ⟨rfl,hi,rfl⟩;dsimp only;refine aE (λhlt=>?_) (λhge sl h' hle hrow=>?_)
 .obtain⟨c,hc⟩:=fD hcl hlt;obtain⟨b,o,e,r⟩:=BR.at hrep.columns hc;refine⟨b,o,e,aC,hlt,c,.imm r,?_,?_,(i+1,w.columns,(x.columns.take (i+1)).map mC.kind),⟨rfl,aC,rfl⟩,by show x.columns.length-(i+1)<x.columns.length-i;omega,?_⟩
  .simp;omega
  .simp;omega
  .rw[fO hc,List.map_append];exact MT
 .rw[List.take_of_length_le aC]at hrow;exact hK sl h' hle ⟨hrow,by simp;omega⟩
theorem Lj:Sound Tryz.prog 72 uZ:=by
 refine iB Tryz.func72 ?_;rintro cvs m h K ⟨v,s,t,rfl,hs,h8,hK⟩;refine⟨XB m h,rfl,aD J5 aF,O6 v t m h K,by kernel_rfl,?_⟩;dsimp only[O6,push_cast];have hl:=hs.tables.slen;have hnil:gT s t=[]->K (.val (.slice none 0 0)) m h:=λe=>hK ⟨none,0,0⟩ h (.refl _) (by rw[e];exact⟨.nil _ _,by simp⟩);refine⟨v,s,t,rfl,hs,aB (λh1=>hnil (Ch ?_)) (λh1=>?_)⟩
 .simp only[tI,Bool.not_eq_true',Bool.and_eq_false_iff,decide_eq_false_iff_not]at h1;omega
 simp only[tI,Bool.not_eq_false',Bool.and_eq_true,decide_eq_true_eq]at h1;obtain⟨x,b,o,w,hx,ea,hr,hrep⟩:=hs.table (t:=t) aC aC;have hx8:=h8 x (List.mem_of_getElem? hx);have hcl:=bU.slen hrep.columns;rw[Ht aC hx]at hK;refine⟨b,o,ea,aC,aC,w.columns,.imm (aY.part hr 1 1),aC,aC,aC,aC,b,o,ea,aC,aC,w.columns,.imm (aY.part hr 1 1),λ⟨i,sl,l⟩=>sl=w.columns/\i<=x.columns.length/\l=(x.columns.take i).map mC.kind,λ⟨i,_,_⟩=>x.columns.length-i,⟨(0,w.columns,[]),⟨rfl,by simp,by simp⟩,MT⟩,?_⟩;rintro⟨i,_,_⟩ ⟨rfl,hi,rfl⟩;dsimp only;refine aE (λhlt=>?_) (λhge sl h' hle hrow=>?_)
 .obtain⟨c,hc⟩:=fD hcl hlt;obtain⟨b,o,e,r⟩:=BR.at hrep.columns hc;refine⟨b,o,e,aC,hlt,c,.imm r,?_,?_,(i+1,w.columns,(x.columns.take (i+1)).map mC.kind),⟨rfl,aC,rfl⟩,by show x.columns.length-(i+1)<x.columns.length-i;omega,?_⟩
  .simp;omega
  .simp;omega
  .rw[fO hc,List.map_append];exact MT
 .rw[List.take_of_length_le aC]at hrow;exact hK sl h' hle ⟨hrow,by simp;omega⟩
def Sub(m m':MH):Prop:=∀b o,m b=some o->m' b=some o
theorem Sub.refl(m:MH):Sub m m:=λ_ _ e=>e
theorem Sub.free(h:Sub m m')(hb:m' b=none):m b=none:=by
 cases e:m b with
 |none=>rfl
 |some o=>rw[h b o e]at hb;cases hb
theorem Sub.upd{mx:MH}(h:Sub m mx)(hb:m b=none)(ho:∀b',b'≠b->m' b'=mx b'):Sub m m':=λb' o e=>by
 have hne:b'≠b:=λe'=>by rw[e',hb]at e;cases e
 rw[ho b' hne,h b' o e]
def G9(m:MH)(b:Nat)(ns:List ByteArray):Prop:=zJ m b (ns.map λn=>(.string n,.bool true))
theorem G9.other{b':Nat}{ns:List ByteArray}(h:G9 m b ns)(hne:b≠b')(ho:∀c,c≠b'->m' c=m c):G9 m' b ns:=by
 obtain⟨es,cl,h1,h2⟩:=h.ex;exact⟨es,cl,by rw[ho b hne,h1],h2⟩
def WI:Vc.Spec:=λcvs m h K=>∃v s,cvs=[aS v]/\fV h s v/\∀r:Bool,(r=true↔Good Au s.tables)->K (cB r) m h
def Wt:Vc.Spec:=λcvs m h K=>∃v s t,∃i:Nat,cvs=[aS v,cI i]/\fV h s v/\s.tables[i]? =some t/\∀r:Bool,(r=true↔Au (s.tables.take i) t)->K (cB r) m h
noncomputable def Wb(v:bJ)(h:PH):Ctx:=
 dL [(135,To)] [(3,{A:=Nat×Nat×MH,st:=λ⟨i,b1,mx⟩=>cD 79 80 [(3,vv (.map (some b1))),(11,sv v.tables),(12,iv v.tables.len),(13,iv i)] [] mx h}),
  (10,{A:=Nat×Nat×Nat×Nat×Sl×MH,st:=λ⟨i,k,b1,b2,sl,mx⟩=>cD 79 80 [(3,vv (.map (some b1))),(6,vv (.map (some b2))),(11,sv v.tables),(12,iv v.tables.len),(13,iv i),(45,sv sl),(46,iv sl.len),(47,iv k)] [] mx h})] [] [] false
noncomputable def Xt(v:bJ)(i:Nat)(m:MH)(h:PH):Ctx:=
 dL [(122,To),(93,WK)] [(5,{A:=Nat×bR,st:=λ⟨k,w⟩=>cD 94 96 [(1,iv i),(2,.at (.ptr 2 0)),(5,.at (.ptr 5 0)),(6,iv k)] [(2,.cells 43 (v.enc.map .val)),(5,.cells 86 (w.enc.map .val))] m h}),
  (10,{A:=Nat×bR,st:=λ⟨k,w⟩=>cD 94 96 [(5,.at (.ptr 5 0)),(53,iv w.columns.len),(54,iv k)] [(5,.cells 86 (w.enc.map .val))] m h}),
  (15,{A:=Nat×Nat×bR,st:=λ⟨k,j,w⟩=>cD 94 96 [(5,.at (.ptr 5 0)),(7,iv k),(8,iv j),(53,iv w.columns.len),(54,iv k)] [(5,.cells 86 (w.enc.map .val))] m h})] [] [] false
abbrev Ba(a:MH)(b:PH)(c:Nat)(d:Nat->MH->Prop):Prop:=∀(x:Nat)(x1:MH),aM (cC a b x) (jJ a x1 x (Obj.map (Array.mk []) c)) (d x x1)
noncomputable abbrev BH(a:Nat):Value:=Value.map (Option.some a)
abbrev Eb(a b:Nat):Prop:=SV.at (At.val (BH a))=SV.at (At.val (BH b))
abbrev lD(a:bJ):Prop:=aI a.tables
abbrev fY(a:bJ):Prop:=bL a.tables
abbrev CO(a:Prop)(b:Nat)(c:bJ)(d:Nat->Nat->bR->Prop)(e:Prop):Prop:=a->aZ (↑b:Int) (aG c.tables) (aR (λx x1=>aA (aT (pD c) x x1) (0<=(↑b:Int)) ((↑b:Int)<aG c.tables/\∃(x2:bR),d x x1 x2))) e
noncomputable abbrev uH(a:bR):List Value:=aJ (Value.string a.name) (dT a.columns) (aJ (dO a.key) (dT a.references) (aU a.checks))
noncomputable abbrev iU(a:ByteArray):CV:=CV.val (Value.string a)
abbrev mJ(a:CV->MH->PH->Prop)(b:Nat×Nat×MH)(c:PH):Prop:=a aW (fS b) c
abbrev pY(a:Value->Prop):Prop:=KeyLaw Proofs.Tryz.prog 9 a
abbrev Il(a:MH)(b:Nat)(c:(Value->Prop)->Prop)(d:(List (Value×Bool))->(Value×Bool)->Prop)(e:Prop)(g:Value)(i:Prop):Prop:=∃(x:List (Value×Bool))(x1:Value->Prop),aA (zJ a b (List.map (fun(x2:Value×Bool)=>(x2.1,Value.bool x2.2)) x)) (pY x1) (aA (c x1) (∀(x2:Value×Bool),List.Mem x2 x->x1 x2.1) (((∀(x2:Value×Bool),d x x2)->e)/\∀(x2:Bool),fT (List.Mem (g,x2) x) x2 i e))
noncomputable abbrev Dh(a:bR):Value:=Value.string a.name
abbrev nZ(a b:Prop):Prop:=aM a b False
noncomputable abbrev AM(a:bR):Int:=aG a.columns
abbrev vJ(a:(List (Value×Value))->(Value->Prop)->Prop):Prop:=∃(x:List (Value×Value))(x1:Value->Prop),a x x1
abbrev u9(a:Value×Value)(b:List (Value×Value))(c:Value->Prop):Prop:=List.Mem a b->c a.1
noncomputable abbrev kN(a b:Value)(c:List (Value×Value)):List (Value×Value):=(a,b)::c
noncomputable abbrev vF(a b:Value):List (Value×Value):=kN a b []
noncomputable abbrev zU:Value:=Value.bool true
abbrev MS(a:Nat->Option Obj)(b:Nat)(c:(Value->Prop)->Prop)(d:Value)(e:MH->Prop):Prop:=vJ (λx x1=>aA (zJ a b x) (pY x1) (aA (c x1) (∀(x2:Value×Value),u9 x2 x x1) ((∀(x2:Value×Value),nZ (List.Mem x2 x) (x2.1=d))/\∀(x2:MH),aM (iJ a x2 b) (zJ x2 b (x++vF d zU)) (e x2))))
noncomputable abbrev Gg(a:Nat×Nat×Nat×Nat×Sl×MH):Nat:=a.2.2.2.1
abbrev bY(a b:Nat):Prop:=bV a=bV b
noncomputable abbrev zZ(a:Nat×Nat×Nat×Nat×Sl×MH):Sl:=a.2.2.2.2.1
noncomputable abbrev vD(a:Nat×Nat×Nat×Nat×Sl×MH):Nat:=a.2.1
noncomputable abbrev xI(a:Nat×Nat×Nat×Nat×Sl×MH):Nat->Option Obj:=a.2.2.2.2.2
abbrev Iy(a:mC)(b:Int)(c:Prop)(d:(Nat×Nat×Nat×Nat×Sl×MH)->Prop):Prop:=branch (a.kind !=b) c (∃(x:Nat×Nat×Nat×Nat×Sl×MH),d x)
abbrev Is(a b:Nat×Nat×Nat×Nat×Sl×MH):Prop:=Eb a.2.2.1 b.2.2.1
abbrev It(a b:Nat×Nat×Nat×Nat×Sl×MH):Prop:=Eb (Gg a) (Gg b)
abbrev Iu(a b:Nat×Nat×Nat×Nat×Sl×MH):Prop:=bY a.1 b.1
abbrev Iv(a b:Nat×Nat×Nat×Nat×Sl×MH):Prop:=bF (zZ a) (zZ b)
abbrev Iw(a b:Nat×Nat×Nat×Nat×Sl×MH):Prop:=cK (zZ a) (zZ b)
attribute [push_cast] Ba BH Eb lD fY CO uH iU mJ pY Il Dh nZ AM vJ u9 kN vF zU MS Gg bY zZ vD xI Iy Is It Iu Iv Iw
def GX(v:bJ)(m:MH)(h:PH)(K:CV->MH->PH->Prop):Prop:=
  Ba m h 0 (λb m1=>∃(I:Nat×Nat×MH->Prop)(m2:Nat×Nat×MH->Nat),MQ (λx=>aA (I x) (Eb b (iQ x)) (aA (lD v) (fY v) (cO (bD x.1) m1 (fS x) h h))) (λx=>CO (I x) x.1 v (λb1 o y=>aL (fS x) h b1 (bA o x.1 5) (uH y)/\∃(s:ByteArray),pX (iU y.name) (iU s) (gP (lR s) (mJ K x h) (Il (fS x) (iQ x) (λO=>O (Dh y)) (λk e=>nZ (List.Mem e k) (e.1=Dh y)) (aZ y.key 1 (mJ K x h) (eF y.key (AM y) (mJ K x h) (MS (fS x) (iQ x) (λO=>O (Dh y)) (Dh y) (λm3=>Ba m3 h 0 (λb2 m4=>∃(I1:Nat×Nat×Nat×Nat×Sl×MH->Prop)(m5:Nat×Nat×Nat×Nat×Sl×MH->Nat),(∃(x1:Nat×Nat×Nat×Nat×Sl×MH),aA (I1 x1) (Eb (iQ x) x1.2.2.1) (aA (Eb b2 (Gg x1)) (lD v)
 (aA (fY v) (bY x.1 x1.1) (aA (bF y.columns (zZ x1)) (cK y.columns (zZ x1)) (cO (bD (vD x1)) m4 (xI x1) h h)))))/\∀(x1:Nat×Nat×Nat×Nat×Sl×MH),I1 x1->aZ (↑(vD x1):Int) (aG (zZ x1)) (aR (λb3 o1=>aA (aT (zZ x1).a b3 o1) (0<=(↑(vD x1):Int)) ((↑(vD x1):Int)<aG (zZ x1)/\∃(y1:mC),aL (xI x1) h b3 (bA o1 (vD x1) 2) (gL (zR y1) (dO y1.kind))/\∃(s1:ByteArray),pX (iU y1.name) (iU s1) (gP (lR s1) (K aW (xI x1) h) (Il (xI x1) (Gg x1) (λO=>O (zR y1)) (λk e=>nZ (List.Mem e k) (e.1=zR y1)) (MS (xI x1) (Gg x1) (λO=>O (zR y1)) (zR y1) (λm6=>Iy y1 3 (Iy y1 4 (Iy y1 5 (K aW m6 h) (λx2=>aA (I1 x2) (m5 x2<m5 x1) (aA (Is x1 x2)
 (It x1 x2) (aA (lD v) (fY v) (aA (Iu x1 x2) (Iv x1 x2) (aA (Iw x1 x2) (fN (bG (vD x1) 1)=bV (vD x2)) (aA (m6=xI x2) (h=h) True))))))) (λx2=>aA (I1 x2) (m5 x2<m5 x1) (aA (Is x1 x2) (It x1 x2) (aA (lD v) (fY v) (aA (Iu x1 x2) (Iv x1 x2) (aA (Iw x1 x2) (fN (bG (vD x1) 1)=bV (vD x2)) (aA (m6=xI x2) (h=h) True))))))) (λx2=>aA (I1 x2) (m5 x2<m5 x1) (aA (Is x1 x2) (It x1 x2) (aA (lD v) (fY v) (aA (Iu x1 x2) (Iv x1 x2) (aA (Iw x1 x2) (fN (bG (vD x1) 1)=bV (vD x2)) (aA (m6=xI x2) (h=h) True)))))))) (zR y1) (K aW (xI x1) h)))))) (∃(x2:Nat×Nat×MH),aA (I x2) (m2 x2<m2 x) (aA (Eb x1.2.2.1 (iQ x2)) (lD v) (aA (fY v) (fN (bG x1.1 1)=bV x2.1)
 (aA (xI x1=fS x2) (h=h) True))))))))) (Dh y) (mJ K x h)))) (K fJ (fS x) h)))
abbrev H6(a:(Nat×bR->Prop)->(Nat×bR)->Prop)(b:(Nat×bR->Prop)->(Nat×bR->Nat)->(Nat×bR)->Prop):Prop:=∃(x:Nat×bR->Prop)(x1:Nat×bR->Nat),(∃(x2:Nat×bR),a x x2)/\∀(x2:Nat×bR),b x x1 x2
noncomputable abbrev rJ(a:Int)(b:At):List At:=dU (fP a) b []
noncomputable abbrev fK(a:bJ):List At:=rJ a.version (xW a.tables)
abbrev bP(a:bJ):Prop:=eQ (oQ 43 (fK a))
noncomputable abbrev pJ(a:At):List At:=[a]
noncomputable abbrev qJ(a:Sl):List At:=pJ (xW a)
noncomputable abbrev eM(a:bR):List At:=dU (Nt a.name) (xW a.columns) (dU (fP a.key) (xW a.references) (qJ a.checks))
abbrev Bd(a:bR)(b:Nat×bR):Prop:=oQ 86 (eM a)=oQ 86 (eM b.2)
abbrev Ix(a:Option Addr)(b:Int)(c:Nat)(d:Sl)(e:Nat->Nat->ByteArray->Prop):Prop:=aR (λx x1=>aA (aT a x x1) (b<=(↑c:Int)) ((↑c:Int)<aG d/\∃(x2:ByteArray),e x x1 x2))
noncomputable abbrev nQ(a:Nat×Nat×bR):Nat:=a.2.1
noncomputable abbrev jH(a:Nat×Nat×bR):bR:=a.2.2
attribute [push_cast] H6 rJ fK bP pJ qJ eM Bd Ix nQ jH
def OU(v:bJ)(i:Nat)(m:MH)(h:PH)(K:CV->MH->PH->Prop):Prop:=
  aR (λb o=>aA (aT (pD v) b o) (0<=(↑i:Int)) ((↑i:Int)<aG v.tables/\∃(y:bR),aL m h b (bA o i 5) (uH y)/\∃(s:ByteArray),pX (iU y.name) (iU s) (cT (!(lR s)) (K aW m h) (AM y==0) (K aW m h) (aZ y.key 1 (K aW m h) (eF y.key (AM y) (K aW m h) (H6 (λI x=>aA (I x) (eQ (bV i)) (aA (eP 2) fH (aA (bD x.1) (bP v) (aA (Bd y x) (m=m) (cQ h h))))) (λI m1 x=>I x->aZ (↑x.1:Int) (↑i:Int) (Ix (pD v) 0 x.1 v.tables (λb1 o1 y1=>aL m h b1 (bA o1 x.1 5+0) (iO (Value.string y1))/\branch (y1.toList==x.2.name.toList) (K aW m h) (∃(x1:Nat×bR),aA (I x1) (m1 x1<m1 x) (aA (eQ (bV i)) (eP 2) (aA fH (fN (bG x.1 1)=bV x1.1) (aA (bP v) (Bd x.2 x1) (dQ m m h h))))))) (H6 (λI1 x1=>
 aA (I1 x1) fH (aA (cK x.2.columns x1.2.columns) (bD x1.1) (cO (Bd x.2 x1) m m h h))) (λI1 m2 x1=>I1 x1->aZ (↑x1.1:Int) (aG x1.2.columns) (aR (λb1 o1=>aA (aT x1.2.columns.a b1 o1) (0<=(↑x1.1:Int)) ((↑x1.1:Int)<aG x1.2.columns/\∃(y1:ByteArray),aL m h b1 (bA o1 x1.1 2+0) (iO (Value.string y1))/\∃(s1:ByteArray),pX (iU y1) (iU s1) (gP (lR s1) (K aW m h) (aR (λb2 o2=>aA (aT x1.2.columns.a b2 o2) (0<=(↑x1.1:Int)) ((↑x1.1:Int)<aG x1.2.columns/\∃(y2:Int),aL m h b2 (bA o2 x1.1 2+1) (cL y2)/\jM y2 (λk=>gP (dM k) (K aW m h) (∃(I2:Nat×Nat×bR->Prop)(m3:Nat×Nat×bR->Nat),(∃(x2:Nat×Nat×bR),aA (I2 x2) fH (aA (bY x1.1 x2.1) (bD (nQ x2)) (aA (cK x1.2.columns (jH x2).columns)
 (bY x1.1 x2.1) (aA (oQ 86 (eM x1.2)=oQ 86 (eM (jH x2))) (m=m) (cQ h h)))))/\∀(x2:Nat×Nat×bR),I2 x2->aZ (↑(nQ x2):Int) (↑x2.1:Int) (Ix (jH x2).columns.a 0 (nQ x2) (jH x2).columns (λb3 o3 y3=>aL m h b3 (bA o3 (nQ x2) 2+0) (iO (Value.string y3))/\Ix (jH x2).columns.a 0 x2.1 (jH x2).columns (λb4 o4 y4=>aL m h b4 (bA o4 x2.1 2+0) (iO (Value.string y4))/\branch (y3.toList==y4.toList) (K aW m h) (∃(x3:Nat×Nat×bR),aA (I2 x3) (m3 x3<m3 x2) (aA fH (bY x2.1 x3.1) (aA (fN (bG (nQ x2) 1)=bV (nQ x3)) (cK (jH x2).columns (jH x3).columns) (aA (bY x2.1 x3.1) (oQ 86 (eM (jH x2))=oQ 86 (eM (jH x3))) (dQ m m h h)))))))) (∃(x3:Nat×bR),aA (I1 x3) (m2 x3<m2 x1) (aA fH (cK (jH
 x2).columns x3.2.columns) (aA (fN (bG x2.1 1)=bV x3.1) (Bd (jH x2) x3) (aA (m=m) (h=h) True))))))))))))) (K fJ m h))))))))))
theorem G9.snoc{ns:List ByteArray}{n:ByteArray}(h:zJ m b ((ns.map λn=>(Value.string n,Value.bool true))++[(.string n,.bool true)])):G9 m b (ns++[n]):=by
 unfold G9;rw[List.map_append];exact h
theorem G9.look{ns:List ByteArray}(h:G9 m b ns):zJ m b (List.map (λp:Value×Bool=>(p.fst,Value.bool p.snd)) (ns.map λn=>(Value.string n,true))):=by
 rw[List.map_map];exact h
theorem EN{β:Type}{ns:List ByteArray}{x:β}:∀e:Value×β,e∈(ns.map λn=>(Value.string n,x))->∃s,e.fst= .string s:=λe he=>by
 obtain⟨n,_,rfl⟩:=List.mem_map.1 he;exact⟨n,rfl⟩
theorem Ox{β:Type}{ns:List ByteArray}{x:β}{n:ByteArray}(h:n∉ns):∀e:Value×β,e∈(ns.map λn=>(Value.string n,x))->e.fst= .string n->False:=λe he h'=>by
 obtain⟨n',hn,rfl⟩:=List.mem_map.1 he;exact h (by have:n'=n:=(by injection h');rwa [<-this])
theorem CN{β:Type}{ns:List ByteArray}{x:β}{n:ByteArray}(h:∀e:Value×β,e∈(ns.map λn=>(Value.string n,x))->e.fst= .string n->False):n∉ns:=λhn=>h (.string n,x) (List.mem_map.2 ⟨n,hn,rfl⟩) rfl
theorem Oy{β:Type}{ns:List ByteArray}{x y:β}{n:ByteArray}(h:(Value.string n,y)∈(ns.map λn=>(Value.string n,x))):n∈ns/\y=x:=by
 obtain⟨n',hn,e⟩:=List.mem_map.1 h;injection e with e1 e2;injection e1 with e1;exact⟨by rwa [<-e1],e2.symm⟩
theorem RM:Sound Tryz.prog 111 WI:=by
 refine Fu Tryz.func111 ?_;rintro cvs m h K ⟨v,s,rfl,hs,hK⟩;refine⟨Wb v h,rfl,aD Rv aF,GX v m h (kD h K),by kernel_rfl,?_⟩;show GX v m h (kD h K);dsimp only[GX,push_cast];have hl:=hs.tables.slen;have hlen:=hs.tables.len;have hf:¬Good Au s.tables->K (cB false) m h:=λh=>hK false ⟨λe=>(by cases e),λe=>(h e).elim⟩;intro b m1 hb hm1;refine⟨λ⟨i,b1,mx⟩=>i<=s.tables.length/\Sub m mx/\m b1=none/\G9 mx b1 ((s.tables.take i).map uX.name)/\eH Au s.tables i,λ⟨i,_,_⟩=>s.tables.length-i,⟨(0,b,m1),⟨aC,(Sub.refl m).upd hb.m_ hm1.other,hb.m_,⟨_,_,hm1.at_,rfl⟩,.zero⟩,MT⟩,?_⟩;rintro⟨i,b1,mx⟩ ⟨hi,hsub,hb1,hmap,hgood⟩;dsimp only;refine aE (λhlt=>?_) (λhge=>.sub hsub (hK true ⟨λ_=>hgood.all aC,λ_=>rfl⟩));obtain⟨t,hx⟩:=fD hl hlt;obtain⟨bb,o,w,ea,hr,hrep⟩:=hs.tables.at hx;have hcl:=bU.slen hrep.columns;have hcb:=bU.len hrep.columns;have hnm:=hrep.name;have hky:=hrep.key;have bad:¬Au (s.tables.take i) t->kD h K (.val (.bool false)) mx h:=λhn=>.sub hsub (hf (Good.not hx hn));have rest:t.name∉(s.tables.take i).map uX.name->lR w.name=true->1<=w.key->w.key<=w.columns.len->Good Qc t.columns->Au (s.tables.take i) t:=λh1 h2 h3 h4 h5=>⟨by rw[<-hnm];exact h2,by rw[<-hky];exact h3,by rw[<-hky];omega,h1,h5⟩
 refine⟨bb,o,ea,aC,hlt,w,.imm hr,w.name,rfl,aB (λh1=>bad λht=>?_) (λh1=>⟨_,_,hmap.look,AE,⟨_,rfl⟩,EN,λhno=>aE (λh2=>bad λht=>?_) (λh2=>aE (λh3=>bad λht=>?_) (λh3=>⟨_,_,hmap,AE,⟨_,rfl⟩,EN,Ox (CN hno),λm2 hs2 hm2 b2 m3 hb2 hm3=>?_⟩)),λy hy=>?_⟩)⟩
 .have:=ht.1;rw[<-hnm]at this;rw[this]at h1;cases h1
 .have:=ht.2.1;omega
 .have:=ht.2.2.1;omega
 .have hm2:=G9.snoc hm2;have hsub2:Sub m m2:=hsub.upd hb1 hs2.other;have hsub3:Sub m m3:=hsub2.upd (hsub2.free hb2.m_) hm3.other
  have hne:b1≠b2:=λe=>by
   obtain⟨es,cl,e1,_⟩:=hm2.ex;rw[e,hb2.m_]at e1;cases e1
  have hno':t.name∉(s.tables.take i).map uX.name:=by rw[<-hnm];exact CN hno
  rw[hnm, <-fO hx]at hm2
  refine⟨λ⟨i',k,b1',b2',sl,my⟩=>i'=i/\b1'=b1/\b2'=b2/\sl=w.columns/\k<=t.columns.length/\Sub m my/\G9 my b1 ((s.tables.take (i+1)).map uX.name)/\G9 my b2 ((t.columns.take k).map mC.name)/\eH Qc t.columns k,λ⟨_,k,_,_,_,_⟩=>t.columns.length-k,
   ⟨(i,0,b1,b2,w.columns,m3),⟨rfl,rfl,rfl,rfl,aC,hsub3,hm2.other hne hm3.other,⟨_,_,hm3.at_,rfl⟩,.zero⟩,MT⟩,?_⟩
  rintro⟨i,k,b1,b2,_,my⟩ ⟨rfl,rfl,rfl,rfl,hk,hsuby,hmy1,hmy2,hg2⟩;dsimp only;refine aE (λhlt2=>?_) (λhge2=>?_)
  .obtain⟨c,hc⟩:=fD hcl hlt2;obtain⟨bc,oc,ec,rc⟩:=BR.at hrep.columns hc;have cbad:∀mz,Sub m mz->¬Qc (t.columns.take k) c->kD h K (.val (.bool false)) mz h:=λmz hz hn=>.sub hz (hf (Good.not hx (λht=>Good.not hc hn ht.2.2.2.2)));refine⟨bc,oc,ec,aC,hlt2,c,.imm rc,c.name,rfl,aB (λh4=>cbad my hsuby λht=>?_) (λh4=>⟨_,_,hmy2.look,AE,⟨_,rfl⟩,EN,λhno2=>⟨_,_,hmy2,AE,⟨_,rfl⟩,EN,Ox (CN hno2),λm4 hs4 hm4=>?_⟩,λy hy=>?_⟩)⟩
   .rw[ht.1]at h4;cases h4
   .have hm4:=G9.snoc hm4;rw[<-fO hc]at hm4;have hsub4:Sub m m4:=hsuby.upd (hsub2.free hb2.m_) hs4.other;have cgood:dM c.kind=true->Qc (t.columns.take k) c:=λe=>⟨by simpa using h4,e,CN hno2⟩
    have ckind:dM c.kind=false->¬Qc (t.columns.take k) c:=λe ht=>by rw[ht.2.1]at e;cases e
    have m1':=hmy1.other hne hs4.other
    repeat' (first|(refine aB (λ_=>?_) (λ_=>?_))|(refine cbad m4 hsub4 (ckind ?_);simp_all [dM];done)|exact⟨(i,k+1,b1,b2,w.columns,m4),⟨rfl,rfl,rfl,rfl,by show k+1<=t.columns.length;omega,hsub4,m1',hm4,hg2.succ hc (cgood (by simp_all [dM]))⟩,by show t.columns.length-(k+1)<t.columns.length-k;omega,MT⟩)
   .obtain⟨hin,rfl⟩:=Oy hy;exact aB (λ_=>cbad my hsuby λht=>ht.2.2 hin) (λe=>by cases e)
  .refine⟨(i+1,b1,my),⟨aC,hsuby,hb1,hmy1,hgood.succ hx (rest hno' (by simpa using h1) aC aC (hg2.all aC))⟩,?_,MT⟩;show s.tables.length-(i+1)<s.tables.length-i;omega
 .obtain⟨hin,rfl⟩:=Oy hy;exact aB (λ_=>bad λht=>ht.2.2.2.1 (by rw[<-hnm];exact hin)) (λe=>by cases e)
theorem Ji{α:Type}{f:α->ByteArray}{l:List α}{x:α}{n:ByteArray}(hx:l[i]? =some x)(h:n∉(l.take i).map f)(hn:f x≠n):n∉(l.take (i+1)).map f:=by
 rw[fO hx,List.mem_append];rintro(e|e)
 .exact h e
 .simp at e;exact hn e.symm
theorem Yv{α:Type}{f:α->ByteArray}{l:List α}{x:α}{n:ByteArray}(hx:l[i]? =some x)(hi:i<k)(hn:f x=n):n∈(l.take k).map f:=
 List.mem_map.2 ⟨x,List.mem_of_getElem? (i:=i) (by rw[List.getElem?_take,if_pos hi,hx]),hn⟩
theorem T8:Sound Tryz.prog 91 Wt:=by
 refine iB Tryz.func91 ?_;rintro cvs m h K ⟨v,s,t,i,rfl,hs,hx,hK⟩;refine⟨Xt v i m h,rfl,aD RE (aD Lg aF),OU v i m h K,by kernel_rfl,?_⟩;dsimp only[OU,push_cast];have hl:=hs.tables.slen;have hlen:=hs.tables.len;have hil:i<s.tables.length:=(List.getElem?_eq_some_iff.1 hx).1;have bad:¬Au (s.tables.take i) t->K (.val (.bool false)) m h:=λh=>hK false ⟨λe=>(by cases e),λe=>(h e).elim⟩;obtain⟨bb,o,w,ea,hr,hrep⟩:=hs.tables.at hx;have hcl:=bU.slen hrep.columns;have hcb:=bU.len hrep.columns;have hnm:=hrep.name;have hky:=hrep.key;refine⟨bb,o,ea,aC,aC,w,.imm hr,w.name,rfl,aB (λh1=>bad λht=>?_) (λh1=>aB (λh2=>bad λht=>?_) (λh2=>aE (λh3=>bad λht=>?_) (λh3=>aE (λh4=>bad λht=>?_) (λh4=>?_))))⟩
 .have:=ht.1;rw[<-hnm]at this;rw[this]at h1;cases h1
 .have:=ht.2.1;have:=ht.2.2.1;have:(w.columns.len:Int)=0:=(by simpa using h2);omega
 .have:=ht.2.1;omega
 .have:=ht.2.2.1;omega
 refine⟨λ⟨k,w'⟩=>w'=w/\k<=i/\t.name∉(s.tables.take k).map uX.name,λ⟨k,_⟩=>i-k,⟨(0,w),⟨rfl,aC,by simp⟩,MT⟩,?_⟩;rintro⟨k,w⟩ ⟨rfl,hk,hno⟩;dsimp only;refine aE (λhlt=>?_) (λhge=>?_)
 .obtain⟨t',hx'⟩:∃t',s.tables[k]? =some t':=⟨s.tables[k]'(by omega),List.getElem?_eq_getElem _⟩
  obtain⟨b',o',w',ea',hr',hrep'⟩:=hs.tables.at hx';refine⟨b',o',ea',aC,aC,w'.name,.imm (aY.part hr' 0 1),aB (λe=>bad λht=>?_) (λe=>?_)⟩
  .refine ht.2.2.2.1 (Yv hx' aC ?_);rw[<-hrep'.name, <-hnm];exact w8 (by simpa using e)
  .refine⟨(k+1,w),⟨rfl,aC,Ji hx' hno λe'=>?_⟩,by show i-(k+1)<i-k;omega,MT⟩;rw[<-hrep'.name, <-hnm]at e';rw[e']at e;simp at e
 .have hki:k=i:=by omega
  subst hki;refine⟨λ⟨k,w'⟩=>w'=w/\k<=t.columns.length/\eH Qc t.columns k,λ⟨k,_⟩=>t.columns.length-k,⟨(0,w),⟨rfl,aC,.zero⟩,MT⟩,?_⟩;rintro⟨c,w⟩ ⟨rfl,hc,hg⟩;dsimp only;refine aE (λhlt=>?_) (λhge2=>hK true ⟨λ_=>⟨by rw[<-hnm];simpa using h1,aC,aC,hno,hg.all aC⟩,λ_=>rfl⟩);obtain⟨x,hxc⟩:=fD hcl hlt;obtain⟨bc,oc,ec,rc⟩:=BR.at hrep.columns hxc;have cbad:¬Qc (t.columns.take c) x->K (.val (.bool false)) m h:=λhn=>bad λht=>Good.not hxc hn ht.2.2.2.2;refine⟨bc,oc,ec,aC,hlt,x.name,.imm (aY.part rc 0 1),x.name,rfl,aB (λe1=>cbad λht=>?_) (λe1=>⟨bc,oc,ec,aC,hlt,x.kind,.imm (aY.part rc 1 1),x.kind,rfl,aB (λe2=>cbad λht=>?_) (λe2=>?_)⟩)⟩
  .rw[ht.1]at e1;cases e1
  .rw[ht.2.1]at e2;cases e2
  refine⟨λ⟨c',j,w'⟩=>w'=w/\c'=c/\j<=c/\x.name∉(t.columns.take j).map mC.name,λ⟨_,j,_⟩=>c-j,⟨(c,0,w),⟨rfl,rfl,aC,by simp⟩,MT⟩,?_⟩;rintro⟨c,j,w⟩ ⟨rfl,rfl,hj,hnoj⟩;dsimp only;refine aE (λhlt3=>?_) (λhge3=>?_)
  .obtain⟨y,hy⟩:∃y,t.columns[j]? =some y:=⟨t.columns[j]'(by omega),List.getElem?_eq_getElem _⟩
   obtain⟨by',oy,ey,ry⟩:=BR.at hrep.columns hy;refine⟨by',oy,ey,aC,aC,y.name,.imm (aY.part ry 0 1),bc,oc,ec,aC,hlt,x.name,.imm (aY.part rc 0 1),aB (λe=>cbad λht=>?_) (λe=>?_)⟩
   .exact ht.2.2 (Yv hy aC (w8 (by simpa using e)))
   .refine⟨(c,j+1,w),⟨rfl,rfl,by show j+1<=c;omega,Ji hy hnoj λe'=>?_⟩,by show c-(j+1)<c-j;omega,MT⟩;rw[e']at e;simp at e
  .have:j=c:=by omega
   subst this;exact⟨(j+1,w),⟨rfl,aC,hg.succ hxc ⟨by simpa using e1,by simpa using e2,hnoj⟩⟩,by show t.columns.length-(j+1)<t.columns.length-j;omega,MT⟩
def En(t g:uX)(k:Nat)(c:Int):Prop:=0<=c/\c<t.columns.length/\∃x y,t.columns[c.toNat]? =some x/\g.columns[k]? =some y/\x.kind=y.kind
def WD(tabs:List uX)(t:uX)(_:List Ref)(r:Ref):Prop:=0<=r.table/\r.table<tabs.length/\∃g,tabs[r.table.toNat]? =some g/\(r.columns.length:Int)=g.key/\Good (λpre c=>En t g pre.length c) r.columns
def BM(tabs:List uX)(_:List uX)(t:uX):Prop:=Good (WD tabs t) t.refs
def WC:Vc.Spec:=λcvs m h K=>∃v s,cvs=[aS v]/\fV h s v/\Good Au s.tables/\∀r:Bool,(r=true↔Good (BM s.tables) s.tables)->K (cB r) m h
def Th:Vc.Spec:=λcvs m h K=>∃v s t,∃i:Nat,cvs=[aS v,cI i]/\fV h s v/\Good Au s.tables/\s.tables[i]? =some t/\∀r:Bool,(r=true↔BM s.tables [] t)->K (cB r) m h
noncomputable def Wa(v:bJ)(m:MH)(h:PH):Ctx:=
 dL [] [(2,{A:=Nat,st:=λi=>cD 82 83 [(1,.at (.ptr 1 0)),(11,sv v.tables),(12,iv v.tables.len),(13,iv i)] [(1,.cells 43 (v.enc.map .val))] m h}),
  (5,{A:=Nat×Nat×bR,st:=λ⟨i,k,w⟩=>cD 82 83 [(1,.at (.ptr 1 0)),(4,.at (.ptr 4 0)),(11,sv v.tables),(12,iv v.tables.len),(13,iv i),(18,sv w.references),(19,iv w.references.len),(20,iv k)] [(1,.cells 43 (v.enc.map .val)),(4,.cells 86 (w.enc.map .val))] m h}),
  (13,{A:=Nat×Nat×Nat×bR×bR×Sl,st:=λ⟨i,k,j,w,g,sl⟩=>cD 82 83 [(1,.at (.ptr 1 0)),(4,.at (.ptr 4 0)),(7,.at (.ptr 7 0)),(11,sv v.tables),(12,iv v.tables.len),(13,iv i),(18,sv w.references),(19,iv w.references.len),(20,iv k),(48,sv sl),(49,iv sl.len),(50,iv j)] [(1,.cells 43 (v.enc.map .val)),(4,.cells 86 (w.enc.map .val)),(7,.cells 86 (g.enc.map .val))] m h})] [] [] false
noncomputable def Xs(v:bJ)(m:MH)(h:PH):Ctx:=
 dL [] [(3,{A:=Nat×bR,st:=λ⟨k,w⟩=>cD 85 87 [(2,.at (.ptr 2 0)),(5,.at (.ptr 5 0)),(16,sv w.references),(17,iv w.references.len),(18,iv k)] [(2,.cells 43 (v.enc.map .val)),(5,.cells 86 (w.enc.map .val))] m h}),
  (8,{A:=Nat×Nat×bR×BP,st:=λ⟨k,j,w,r⟩=>cD 85 87 [(2,.at (.ptr 2 0)),(5,.at (.ptr 5 0)),(7,.at (.ptr 7 0)),(16,sv w.references),(17,iv w.references.len),(18,iv k),(47,sv r.columns),(48,iv r.columns.len),(49,iv j)] [(2,.cells 43 (v.enc.map .val)),(5,.cells 86 (w.enc.map .val)),(7,.cells 118 (r.enc.map .val))] m h})] [] [] false
abbrev mX(a:(Nat->Prop)->Nat->Prop)(b:(Nat->Prop)->(Nat->Nat)->Nat->Prop):Prop:=∃(x:Nat->Prop)(x1:Nat->Nat),gE (∃(x2:Nat),a x x2) (λx2=>b x x1 x2)
abbrev eZ:Prop:=eP 1
abbrev AO(a b:bR):Prop:=bF a.references b.references
abbrev AP(a b:bR):Prop:=cK a.references b.references
abbrev CR(a:bJ)(b:Int)(c:Nat->Nat->Prop):Prop:=aR (λx x1=>aA (aT (pD a) x x1) (0<=b) (b<aG a.tables/\c x x1))
noncomputable abbrev pB(a:Nat×Nat×Nat×bR×bR×Sl):bR:=a.2.2.2.1
noncomputable abbrev tV(a:Nat×Nat×Nat×bR×bR×Sl):Sl:=a.2.2.2.2.2
noncomputable abbrev rT(a:Nat×Nat×Nat×bR×bR×Sl):Nat:=a.2.2.1
noncomputable abbrev Gd(a:Nat×Nat×Nat×bR×bR×Sl):bR:=a.2.2.2.2.1
attribute [push_cast] mX eZ AO AP CR pB tV rT Gd
def GW(v:bJ)(m:MH)(h:PH)(K:CV->MH->PH->Prop):Prop:=
  mX (λI x=>aA (I x) eZ (aA (lD v) (fY v) (aA (bD x) (bP v) (aA (m=m) (h=h) True)))) (λI m1 x=>CO (I x) x v (λb o y=>aL m h b (bA o x 5) (uH y)/\∃(I1:Nat×Nat×bR->Prop)(m2:Nat×Nat×bR->Nat),(∃(x1:Nat×Nat×bR),aA (I1 x1) (eP 1) (aA (eP 4) (lD v) (aA (fY v) (bY x x1.1) (aA (AO y (jH x1)) (AP y (jH x1)) (aA (bD (nQ x1)) (bP v) (aA (oQ 86 (eM y)=oQ 86 (eM (jH x1))) (m=m) (cQ h h)))))))/\∀(x1:Nat×Nat×bR),I1 x1->aZ (↑(nQ x1):Int) (aG (jH x1).references) (aR (λb1 o1=>aA (aT (jH x1).references.a b1 o1) (0<=(↑(nQ x1):Int)) ((↑(nQ x1):Int)<aG (jH x1).references/\∃(y1:BP),aL m h b1 (bA o1 (nQ x1) 2) (gL (dT y1.columns) (dO y1.table))/\
 aZ y1.table 0 (K aW m h) (fU y1.table (gQ v) (K aW m h) (CR v y1.table (λb2 o2=>∃(y2:bR),aL m h b2 (fQ o2 y1.table 5) (uH y2)/\eA (aG y1.columns) y2.key (K aW m h) (∃(I2:Nat×Nat×Nat×bR×bR×Sl->Prop)(m3:Nat×Nat×Nat×bR×bR×Sl->Nat),(∃(x2:Nat×Nat×Nat×bR×bR×Sl),aA (I2 x2) (eP 1) (aA (eP 4) (eP 7) (aA (lD v) (fY v) (aA (bY x1.1 x2.1) (AO (jH x1) (pB x2)) (aA (AP (jH x1) (pB x2)) (bY (nQ x1) x2.2.1) (aA (bF y1.columns (tV x2)) (cK y1.columns (tV x2)) (aA (bD (rT x2)) (bP v) (aA (oQ 86 (eM (jH x1))=oQ 86 (eM (pB x2))) (oQ 86 (eM y2)=oQ 86 (eM (Gd x2))) (dQ m m h h)))))))))/\∀(x2:Nat×Nat×Nat×bR×bR×Sl),I2 x2->aZ (↑(rT x2):Int) (aG
 (tV x2)) (aR (λb3 o3=>aA (aT (tV x2).a b3 o3) (0<=(↑(rT x2):Int)) ((↑(rT x2):Int)<aG (tV x2)/\∃(y3:Int),aL m h b3 (bA o3 (rT x2) 1) (cL y3)/\aZ y3 0 (K aW m h) (fU y3 (AM (pB x2)) (K aW m h) (aR (λb4 o4=>aA (aT (pB x2).columns.a b4 o4) (0<=y3) (y3<aG (pB x2).columns/\∃(y4:Int),aL m h b4 (fQ o4 y3 2+1) (cL y4)/\aR (λb5 o5=>aA (aT (Gd x2).columns.a b5 o5) (0<=(↑(rT x2):Int)) ((↑(rT x2):Int)<aG (Gd x2).columns/\∃(y5:Int),aL m h b5 (bA o5 (rT x2) 2+1) (cL y5)/\eA y4 y5 (K aW m h) (∃(x3:Nat×Nat×Nat×bR×bR×Sl),aA (I2 x3) (m3 x3<m3 x2) (aA eZ (eP 4) (aA (eP 7) (lD v) (aA (fY v) (bY x2.1 x3.1) (aA (AO (pB x2) (pB x3)) (AP
 (pB x2) (pB x3)) (aA (bY x2.2.1 x3.2.1) (bF (tV x2) (tV x3)) (aA (cK (tV x2) (tV x3)) (fN (bG (rT x2) 1)=bV (rT x3)) (aA (bP v) (oQ 86 (eM (pB x2))=oQ 86 (eM (pB x3))) (cO (oQ 86 (eM (Gd x2))=oQ 86 (eM (Gd x3))) m m h h)))))))))))))))))) (∃(x3:Nat×Nat×bR),aA (I1 x3) (m2 x3<m2 x1) (aA eZ (eP 4) (aA (lD v) (fY v) (aA (bY x2.1 x3.1) (AO (pB x2) (jH x3)) (aA (AP (pB x2) (jH x3)) (fN (bG x2.2.1 1)=bV (nQ x3)) (aA (bP v) (oQ 86 (eM (pB x2))=oQ 86 (eM (jH x3))) (dQ m m h h)))))))))))))) (∃(x2:Nat),aA (I x2) (m1 x2<m1 x) (aA eZ (lD v) (aA (fY v) (fN (bG x1.1 1)=bV x2) (aA (bP v) (m=m) (cQ h h)))))) (K fJ m h))
noncomputable abbrev pC(a:Nat×Nat×bR×BP):bR:=a.2.2.1
noncomputable abbrev oM(a:Nat×Nat×bR×BP):Sl:=a.2.2.2.columns
noncomputable abbrev Bc(a:Nat×Nat×bR×BP):Int:=a.2.2.2.table
attribute [push_cast] pC oM Bc
def JK(v:bJ)(i:Nat)(m:MH)(h:PH)(K:CV->MH->PH->Prop):Prop:=
  aR (λb o=>aA (aT (pD v) b o) (0<=(↑i:Int)) ((↑i:Int)<aG v.tables/\∃(y:bR),aL m h b (bA o i 5) (uH y)/\H6 (λI x=>aA (I x) (eP 2) (aA (eP 5) (AO y x.2) (aA (AP y x.2) (bD x.1) (aA (bP v) (Bd y x) (dQ m m h h))))) (λI m1 x=>I x->aZ (↑x.1:Int) (aG x.2.references) (aR (λb1 o1=>aA (aT x.2.references.a b1 o1) (0<=(↑x.1:Int)) ((↑x.1:Int)<aG x.2.references/\∃(y1:BP),aL m h b1 (bA o1 x.1 2) (gL (dT y1.columns) (dO y1.table))/\aZ y1.table 0 (K aW m h) (fU y1.table (gQ v) (K aW m h) (aR (λb2 o2=>aA (aT (pD v) b2 o2) (0<=y1.table) (y1.table<aG v.tables/\∃(y2:Int),aL m h b2 (fQ o2 y1.table 5+2) (cL y2)/\eA (aG y1.columns) y2 (K aW m h) (∃(I1:Nat×Nat×bR×BP->Prop)(m2:
 Nat×Nat×bR×BP->Nat),(∃(x1:Nat×Nat×bR×BP),aA (I1 x1) (eP 2) (aA (eP 5) (eP 7) (aA (AO x.2 (pC x1)) (AP x.2 (pC x1)) (aA (bY x.1 x1.1) (bF y1.columns (oM x1)) (aA (cK y1.columns (oM x1)) (bD x1.2.1) (aA (bP v) (oQ 86 (eM x.2)=oQ 86 (eM (pC x1))) (cO (oQ 118 (dU (xW y1.columns) (fP y1.table) [])=oQ 118 (dU (xW (oM x1)) (fP (Bc x1)) [])) m m h h)))))))/\∀(x1:Nat×Nat×bR×BP),I1 x1->aZ (↑x1.2.1:Int) (aG (oM x1)) (aR (λb3 o3=>aA (aT (oM x1).a b3 o3) (0<=(↑x1.2.1:Int)) ((↑x1.2.1:Int)<aG (oM x1)/\∃(y3:Int),aL m h b3 (bA o3 x1.2.1 1) (cL y3)/\aZ y3 0 (K aW m h) (fU y3 (AM (pC x1)) (K aW m h) (aR (λb4 o4=>aA (aT (pC x1).columns.a b4 o4) (0<=y3) (y3<aG
 (pC x1).columns/\∃(y4:Int),aL m h b4 (fQ o4 y3 2+1) (cL y4)/\aR (λb5 o5=>aA (aT (pD v) b5 o5) (0<=Bc x1) (Bc x1<aG v.tables/\∃(y5:Sl),aL m h b5 (fQ o5 (Bc x1) 5+1) (aU y5)/\aR (λb6 o6=>aA (aT y5.a b6 o6) (0<=(↑x1.2.1:Int)) ((↑x1.2.1:Int)<aG y5/\∃(y6:Int),aL m h b6 (bA o6 x1.2.1 2+1) (cL y6)/\eA y4 y6 (K aW m h) (∃(x2:Nat×Nat×bR×BP),aA (I1 x2) (m2 x2<m2 x1) (aA (eP 2) fH (aA (eP 7) (AO (pC x1) (pC x2)) (aA (AP (pC x1) (pC x2)) (bY x1.1 x2.1) (aA (bF (oM x1) (oM x2)) (cK (oM x1) (oM x2)) (aA (fN (bG x1.2.1 1)=bV x2.2.1) (bP v) (aA (oQ 86 (eM (pC x1))=oQ 86 (eM (pC x2))) (oQ 118 (dU (xW (oM x1)) (fP (Bc x1)) [])=oQ 118 (dU (xW
 (oM x2)) (fP (Bc x2)) [])) (aA (m=m) (h=h) True))))))))))))))))))) (∃(x2:Nat×bR),aA (I x2) (m1 x2<m1 x) (aA (eP 2) fH (aA (AO (pC x1) x2.2) (AP (pC x1) x2.2) (aA (fN (bG x1.1 1)=bV x2.1) (bP v) (cO (Bd (pC x1) x2) m m h h))))))))))))) (K fJ m h))))
theorem Ints.at'{s:Sl}(r:Ints h s l){x:Int}(hi:l[i]? =some x):∃b o,s.a=some ⟨b,o,none⟩/\aY h b (o+i*1) [.int .i64 x]:=by
 obtain⟨b,o,e,k⟩:=r.at hi;exact⟨b,o,e,by rwa [Nat.mul_one]⟩
theorem NZ{α:Type}{l:List α}{x:α}(h:l[i]? =some x):(l.take i).length=i:=by
 have:=(List.getElem?_eq_some_iff.1 h).1;rw[List.length_take];omega
theorem Good.key_le{tabs:List uX}(h:Good Au tabs){g:uX}(hg:tabs[i]? =some g):g.key<=g.columns.length:=(h i g hg).2.2.1
theorem Ye{v:bJ}(hs:fV h s v)(hgood:Good Au s.tables)(hK:∀r:Bool,(r=true↔Good (BM s.tables) s.tables)->K (cB r) m h):GW v m h K:=by
 dsimp only[GW,push_cast];have hl:=hs.tables.slen;have hlen:=hs.tables.len;have hf:¬Good (BM s.tables) s.tables->K (.val (.bool false)) m h:=λh=>hK false ⟨λe=>(by cases e),λe=>(h e).elim⟩;refine⟨λi=>i<=s.tables.length/\eH (BM s.tables) s.tables i,λi=>s.tables.length-i,⟨0,⟨aC,.zero⟩,MT⟩,λi⟨hi,hg⟩=>aE (λhlt=>?_) (λhge=>hK true ⟨λ_=>hg.all aC,λ_=>rfl⟩)⟩;obtain⟨t,hx⟩:=fD hl hlt;obtain⟨b,o,w,ea,hr,hrep⟩:=hs.tables.at hx;have hcl:=bU.slen hrep.columns;have hrl:=bU.slen hrep.refs;have hrb:=bU.len hrep.refs;refine⟨b,o,ea,aC,hlt,w,.imm hr,λ⟨i',k,w'⟩=>i'=i/\w'=w/\k<=t.refs.length/\eH (WD s.tables t) t.refs k,λ⟨_,k,_⟩=>t.refs.length-k,⟨(i,0,w),⟨rfl,rfl,aC,.zero⟩,MT⟩,?_⟩;rintro⟨i,k,w⟩ ⟨rfl,rfl,hk,hg2⟩;dsimp only;refine aE (λhlt2=>?_) (λhge2=>⟨i+1,⟨aC,hg.succ hx (hg2.all aC)⟩,by show s.tables.length-(i+1)<s.tables.length-i;omega,MT⟩);obtain⟨r,hrx⟩:=fD hrl hlt2;obtain⟨b2,o2,rv,ea2,hr2,hrep2⟩:=hrep.refs.at hrx;have rcl:=hrep2.columns.slen;have rcb:=hrep2.columns.len;have rt:=hrep2.table;have bad:¬WD s.tables t (t.refs.take k) r->K (.val (.bool false)) m h:=λhn=>hf (Good.not hx (Good.not hrx hn));refine⟨b2,o2,ea2,aC,hlt2,rv,.imm hr2,aE (λh1=>bad λht=>?_) (λh1=>aE (λh2=>bad λht=>?_) (λh2=>?_))⟩
 .have:=ht.1;omega
 .have:=ht.2.1;omega
 obtain⟨g,b3,o3,gv,hgx,ea3,hr3,hrep3⟩:=hs.table (t:=rv.table) aC aC;have gcl:=bU.slen hrep3.columns;have hkey:=hgood.key_le hgx;have gk:=hrep3.key;refine⟨b3,o3,ea3,aC,aC,gv,.imm hr3,aB (λh3=>bad λht=>?_) (λh3=>?_)⟩
 .obtain⟨_,_,g',hg',hk',_⟩:=ht;rw[<-rt,hgx]at hg';cases hg';have:(rv.columns.len:Int)≠gv.key:=by simpa using h3
  omega
 have h3:(rv.columns.len:Int)=gv.key:=by simpa using h3
 refine⟨λ⟨i',k',j,w',g',sl⟩=>i'=i/\k'=k/\w'=w/\g'=gv/\sl=rv.columns/\j<=r.columns.length/\eH (λpre c=>En t g pre.length c) r.columns j,λ⟨_,_,j,_,_,_⟩=>r.columns.length-j,⟨(i,k,0,w,gv,rv.columns),⟨rfl,rfl,rfl,rfl,rfl,aC,.zero⟩,MT⟩,?_⟩;rintro⟨i,k,j,w,gv,_⟩ ⟨rfl,rfl,rfl,rfl,rfl,hj,hg3⟩;dsimp only;refine aE (λhlt3=>?_) (λhge3=>⟨(i,k+1,w),⟨rfl,rfl,by show k+1<=t.refs.length;omega,hg2.succ hrx ⟨aC,aC,g,by rw[<-rt];exact hgx,aC,hg3.all aC⟩⟩,by show t.refs.length-(k+1)<t.refs.length-k;omega,MT⟩);obtain⟨c,hc⟩:=fD rcl hlt3;obtain⟨b4,o4,ea4,hr4⟩:=hrep2.columns.at' hc;have htl:=NZ hc
 have cbad:¬En t g j c->K (.val (.bool false)) m h:=λhn=>bad λht=>by
  obtain⟨_,_,g',hg',_,hgo⟩:=ht;rw[<-rt,hgx]at hg';cases hg';have:=hgo j c hc;dsimp only at this;rw[htl]at this;exact hn this
 refine⟨b4,o4,ea4,aC,hlt3,c,.imm hr4,aE (λh5=>cbad λht=>?_) (λh5=>aE (λh6=>cbad λht=>?_) (λh6=>?_))⟩
 .have:=ht.1;omega
 .have:=ht.2.1;omega
 obtain⟨x,hxx⟩:∃x,t.columns[c.toNat]? =some x:=⟨t.columns[c.toNat]'(by omega),List.getElem?_eq_getElem _⟩
 obtain⟨y,hyy⟩:∃y,g.columns[j]? =some y:=⟨g.columns[j]'(by omega),List.getElem?_eq_getElem _⟩
 obtain⟨b5,o5,ea5,hr5⟩:=BR.at hrep.columns hxx;obtain⟨b6,o6,ea6,hr6⟩:=BR.at hrep3.columns hyy;refine⟨b5,o5,ea5,aC,aC,x.kind,.imm (aY.part hr5 1 1),b6,o6,ea6,aC,aC,y.kind,.imm (aY.part hr6 1 1),aB (λh7=>cbad λht=>?_) (λh7=>?_)⟩
 .obtain⟨_,_,x',y',e1,e2,e3⟩:=ht;rw[hxx]at e1;rw[hyy]at e2;cases e1;cases e2;rw[e3]at h7;simp at h7
 .exact⟨(i,k,j+1,w,gv,rv.columns),⟨rfl,rfl,rfl,rfl,rfl,by show j+1<=r.columns.length;omega,hg3.succ hc (by show En t g (List.take j r.columns).length c;rw[htl];exact⟨aC,aC,x,y,hxx,hyy,by simpa using h7⟩)⟩,by show r.columns.length-(j+1)<r.columns.length-j;omega,MT⟩
theorem RL:Sound Tryz.prog 112 WC:=by
 refine iB Tryz.func112 ?_;rintro cvs m h K ⟨v,s,rfl,hs,hg,hK⟩;refine⟨Wa v m h,rfl,aF,GW v m h K,by kernel_rfl,?_⟩;exact Ye hs hg hK
theorem Y5{v:bJ}{t:uX}(hs:fV h s v)(hgood:Good Au s.tables)(hx:s.tables[i]? =some t)(hK:∀r:Bool,(r=true↔BM s.tables [] t)->K (cB r) m h):JK v i m h K:=by
 dsimp only[JK,push_cast];have hl:=hs.tables.slen;have hlen:=hs.tables.len;have hil:i<s.tables.length:=(List.getElem?_eq_some_iff.1 hx).1;have hf:¬BM s.tables [] t->K (.val (.bool false)) m h:=λh=>hK false ⟨λe=>(by cases e),λe=>(h e).elim⟩;obtain⟨b,o,w,ea,hr,hrep⟩:=hs.tables.at hx;have hcl:=bU.slen hrep.columns;have hrl:=bU.slen hrep.refs;have hrb:=bU.len hrep.refs;refine⟨b,o,ea,aC,aC,w,.imm hr,λ⟨k,w'⟩=>w'=w/\k<=t.refs.length/\eH (WD s.tables t) t.refs k,λ⟨k,_⟩=>t.refs.length-k,⟨(0,w),⟨rfl,aC,.zero⟩,MT⟩,?_⟩;rintro⟨k,w⟩ ⟨rfl,hk,hg2⟩;dsimp only;refine aE (λhlt2=>?_) (λhge2=>hK true ⟨λ_=>hg2.all aC,λ_=>rfl⟩);obtain⟨r,hrx⟩:=fD hrl hlt2;obtain⟨b2,o2,rv,ea2,hr2,hrep2⟩:=hrep.refs.at hrx;have rcl:=hrep2.columns.slen;have rcb:=hrep2.columns.len;have rt:=hrep2.table;have bad:¬WD s.tables t (t.refs.take k) r->K (.val (.bool false)) m h:=λhn=>hf (Good.not hrx hn);refine⟨b2,o2,ea2,aC,hlt2,rv,.imm hr2,aE (λh1=>bad λht=>?_) (λh1=>aE (λh2=>bad λht=>?_) (λh2=>?_))⟩
 .have:=ht.1;omega
 .have:=ht.2.1;omega
 obtain⟨g,b3,o3,gv,hgx,ea3,hr3,hrep3⟩:=hs.table (t:=rv.table) aC aC;have gcl:=bU.slen hrep3.columns;have hkey:=hgood.key_le hgx;have gk:=hrep3.key;refine⟨b3,o3,ea3,aC,aC,gv.key,.imm (aY.part hr3 2 1),aB (λh3=>bad λht=>?_) (λh3=>?_)⟩
 .obtain⟨_,_,g',hg',hk',_⟩:=ht;rw[<-rt,hgx]at hg';cases hg';have:(rv.columns.len:Int)≠gv.key:=by simpa using h3
  omega
 have h3:(rv.columns.len:Int)=gv.key:=by simpa using h3
 refine⟨λ⟨k',j,w',r'⟩=>k'=k/\w'=w/\r'=rv/\j<=r.columns.length/\eH (λpre c=>En t g pre.length c) r.columns j,λ⟨_,j,_,_⟩=>r.columns.length-j,⟨(k,0,w,rv),⟨rfl,rfl,rfl,aC,.zero⟩,MT⟩,?_⟩;rintro⟨k,j,w,rv⟩ ⟨rfl,rfl,rfl,hj,hg3⟩;dsimp only;refine aE (λhlt3=>?_) (λhge3=>⟨(k+1,w),⟨rfl,by show k+1<=t.refs.length;omega,hg2.succ hrx ⟨aC,aC,g,by rw[<-rt];exact hgx,aC,hg3.all aC⟩⟩,by show t.refs.length-(k+1)<t.refs.length-k;omega,MT⟩);obtain⟨c,hc⟩:=fD rcl hlt3;obtain⟨b4,o4,ea4,hr4⟩:=hrep2.columns.at' hc;have htl:=NZ hc
 have cbad:¬En t g j c->K (.val (.bool false)) m h:=λhn=>bad λht=>by
  obtain⟨_,_,g',hg',_,hgo⟩:=ht;rw[<-rt,hgx]at hg';cases hg';have:=hgo j c hc;dsimp only at this;rw[htl]at this;exact hn this
 refine⟨b4,o4,ea4,aC,hlt3,c,.imm hr4,aE (λh5=>cbad λht=>?_) (λh5=>aE (λh6=>cbad λht=>?_) (λh6=>?_))⟩
 .have:=ht.1;omega
 .have:=ht.2.1;omega
 obtain⟨x,hxx⟩:∃x,t.columns[c.toNat]? =some x:=⟨t.columns[c.toNat]'(by omega),List.getElem?_eq_getElem _⟩
 obtain⟨y,hyy⟩:∃y,g.columns[j]? =some y:=⟨g.columns[j]'(by omega),List.getElem?_eq_getElem _⟩
 obtain⟨b5,o5,ea5,hr5⟩:=BR.at hrep.columns hxx;obtain⟨b6,o6,ea6,hr6⟩:=BR.at hrep3.columns hyy;refine⟨b5,o5,ea5,aC,aC,x.kind,.imm (aY.part hr5 1 1),b3,o3,ea3,aC,aC,gv.columns,.imm (aY.part hr3 1 1),b6,o6,ea6,aC,aC,y.kind,.imm (aY.part hr6 1 1),aB (λh7=>cbad λht=>?_) (λh7=>?_)⟩
 .obtain⟨_,_,x',y',e1,e2,e3⟩:=ht;rw[hxx]at e1;rw[hyy]at e2;cases e1;cases e2;rw[e3]at h7;simp at h7
 .exact⟨(k,j+1,w,rv),⟨rfl,rfl,rfl,by show j+1<=r.columns.length;omega,hg3.succ hc (by show En t g (List.take j r.columns).length c;rw[htl];exact⟨aC,aC,x,y,hxx,hyy,by simpa using h7⟩)⟩,by show r.columns.length-(j+1)<r.columns.length-j;omega,MT⟩
theorem T6:Sound Tryz.prog 92 Th:=by
 refine iB Tryz.func92 ?_;rintro cvs m h K ⟨v,s,t,i,rfl,hs,hg,hx,hK⟩;refine⟨Xs v m h,rfl,aF,JK v i m h K,by kernel_rfl,?_⟩;exact Y5 hs hg hx hK
def Kh(t:uX):Prop:=t.columns.length<=8/\t.refs.length<=4/\t.checks.length<=4
def BA(s:nS):Prop:=s.tables.length<=8/\Good (λ_ t=>Kh t) s.tables
def HL(s:nS):Prop:=0<=s.version/\s.version<=1000/\Good Au s.tables/\Good (BM s.tables) s.tables
def pM:List Int->Int
 |[]=>0
 |e::r=>if e=0 then pM r else e
def qT(s:nS)(i:Nat):List Int:=match s.tables[i]? with|some t=>t.checks.map (gI (gT s i) [])|none=>[]
theorem vK(a b:List Int)(h:∀e∈a,e=0):pM (a++b)=pM b:=by
 induction a with
 |nil=>rfl
 |cons x a ih=>
  simp only[List.cons_append,pM];rw[if_pos (h x (by simp)),ih λe he=>h e (by simp[he])]
theorem Aa(a:List Int)(h:∀e∈a,e=0):pM a=0:=by
 have:=vK a [] h;simpa[pM]using this
theorem HA{n:Nat}{f:Nat->List Int}{e:Int}(hi:i<n)(h1:∀j<i,∀x∈f j,x=0)(h2:∀x∈(f i).take k,x=0)(h3:(f i)[k]? =some e)(he:e≠0):pM ((List.range n).flatMap f)=e:=by
 obtain⟨r,rfl⟩:∃r,n=i+(1+r):=⟨n-i-1,aC⟩
 rw[List.range_add,List.flatMap_append,vK]
 .rw[show(List.range (1+r)).map (i+ ·)=i::(List.range' (i+1) r)from ?_,List.flatMap_cons, <-List.take_append_drop k (f i),List.append_assoc,vK _ _ h2,drop_cons h3]
  .simp[pM,he]
  .rw[Nat.add_comm 1 r,List.range_succ_eq_map];simp[List.range'_eq_map_range,Nat.add_assoc,Nat.add_comm 1]
 .intro x hx;obtain⟨j,hj,hx⟩:=List.mem_flatMap.1 hx;exact h1 j (List.mem_range.1 hj) x hx
open Classical in
noncomputable def eE(s:nS):Int:=if BA s then(if HL s then pM ((List.range s.tables.length).flatMap (qT s))else 70)else 2
def Aw:Vc.Spec:=λcvs m h K=>∃v s,cvs=[aS v]/\fV h s v/\K (cI (eE s)) m h
noncomputable def Xz(v:bJ)(m:MH)(h:PH):Ctx:=
 dL [(111,WI),(112,WC),(72,uZ),(113,qM)] [(4,{A:=Nat,st:=λi=>cD 83 84 [(1,.at (.ptr 1 0)),(16,sv v.tables),(17,iv v.tables.len),(18,iv i)] [(1,.cells 43 (v.enc.map .val))] m h}),
  (12,{A:=Nat×PH,st:=λ⟨i,hx⟩=>cD 83 84 [(1,.at (.ptr 1 0)),(58,sv v.tables),(59,iv v.tables.len),(60,iv i)] [(1,.cells 43 (v.enc.map .val))] m hx}),
  (16,{A:=Nat×Nat×Sl×Sl×PH,st:=λ⟨i,k,ks,cs,hx⟩=>cD 83 84 [(1,.at (.ptr 1 0)),(7,sv ks),(58,sv v.tables),(59,iv v.tables.len),(60,iv i),(69,sv cs),(70,iv cs.len),(71,iv k)] [(1,.cells 43 (v.enc.map .val))] m hx})] [] [] false
noncomputable def XI(v:bJ)(m:MH)(h:PH):Ctx:=
 dL [(91,Wt),(92,Th),(44,uZ),(69,qM)] [(4,{A:=Nat,st:=λi=>cD 96 97 [(1,.at (.ptr 1 0)),(16,sv v.tables),(17,iv v.tables.len),(18,iv i)] [(1,.cells 43 (v.enc.map .val))] m h}),
  (12,{A:=Nat,st:=λi=>cD 96 97 [(1,.at (.ptr 1 0)),(49,iv v.tables.len),(50,iv i)] [(1,.cells 43 (v.enc.map .val))] m h}),
  (18,{A:=Nat,st:=λi=>cD 96 97 [(1,.at (.ptr 1 0)),(60,iv v.tables.len),(61,iv i)] [(1,.cells 43 (v.enc.map .val))] m h}),
  (24,{A:=Nat×PH,st:=λ⟨i,hx⟩=>cD 96 97 [(1,.at (.ptr 1 0)),(71,iv v.tables.len),(72,iv i)] [(1,.cells 43 (v.enc.map .val))] m hx}),
  (27,{A:=Nat×Nat×Sl×PH,st:=λ⟨i,k,cs,hx⟩=>cD 96 97 [(1,.at (.ptr 1 0)),(7,iv i),(71,iv v.tables.len),(72,iv i),(80,sv cs),(81,iv cs.len),(82,iv k)] [(1,.cells 43 (v.enc.map .val))] m hx})] [] [] false
abbrev A9(a:List CV)(b:Nat->Nat->Option Value)(c:Sl->PH->Prop):Prop:=lE (λx x1=>∃(x2:Int),aA (a=cJ (bN x) x2) (fV b x1 x) (mW x1/\bZ (λx3 x4=>bE b x4 (Ints x4 x3 (gT x1 x2)) (c x3 x4))))
noncomputable abbrev tW(a:Nat×Nat×Sl×Sl×PH):Sl:=a.2.2.2.1
noncomputable abbrev yS(a:Nat×Nat×Sl×Sl×PH):Nat->Nat->Option Value:=a.2.2.2.2
abbrev CU(a:List CV)(b:PH)(c:(List Int)->(List Int)->Pred->Prop):Prop:=iN (λx x1=>∃(x2:PV),nK (λx3 x4=>∃(x5:Pred),aA (a=dN x::bK (dN x1) (cW x2)) (Ints b x x3) (aA (Ints b x1 x4) (dZ b x5 x2) (c x3 x4 x5))))
attribute [push_cast] A9 tW yS CU
def JM(v:bJ)(m:MH)(h:PH)(K:CV->MH->PH->Prop):Prop:=
  eF (gQ v) 8 (K (eD 2) m h) (mX (λI x=>aA (I x) eZ (aA (lD v) (fY v) (aA (bD x) (bP v) (aA (m=m) (h=h) True)))) (λI m1 x=>CO (I x) x v (λb o y=>aL m h b (bA o x 5) (uH y)/\cT (decide (AM y>8)) (K (eD 2) m h) (decide (aG y.references>4)) (K (eD 2) m h) (eF (aG y.checks) 4 (K (eD 2) m h) (∃(x1:Nat),aA (I x1) (m1 x1<m1 x) (aA eZ (lD v) (aA (fY v) (fN (bG x 1)=bV x1) (aA (bP v) (m=m) (cQ h h))))))) (aZ v.version 0 (K (eD 70) m h) (eF v.version 1000 (K (eD 70) m h) (lE (λv1 s=>aA (jW (bN v)=jW (bN v1)) (fV h s v1) (∀(r:Bool),fT (dV r↔Good Au s.tables) (!r) (K (eD 70) m h) (lE (λv2 s1=>j2 (jW (bN v)) (jW (bN v2)) (fV h s1 v2) (Good Au s1.tables) (λr1=>fT (dV
 r1↔Good (BM s1.tables) s1.tables) (!r1) (K (eD 70) m h) (∃(I1:Nat×PH->Prop)(m2:Nat×PH->Nat),(∃(x1:Nat×PH),aA (I1 x1) eZ (aA (lD v) (fY v) (aA (bD x1.1) (bP v) (aA (m=m) (h=x1.2) True))))/\∀(x1:Nat×PH),CO (I1 x1) x1.1 v (λb o y=>aL m x1.2 b (bA o x1.1 5) (uH y)/\A9 (cJ (bN v) (↑x1.1:Int)) x1.2 (λs2 h1=>∃(I2:Nat×Nat×Sl×Sl×PH->Prop)(m3:Nat×Nat×Sl×Sl×PH->Nat),(∃(x2:Nat×Nat×Sl×Sl×PH),aA (I2 x2) eZ (aA (bF s2 x2.2.2.1) (lD v) (aA (fY v) (bY x1.1 x2.1) (aA (bF y.checks (tW x2)) (cK y.checks (tW x2)) (aA (bD x2.2.1) (bP v) (aA (m=m) (h1=yS x2) True))))))/\∀(x2:Nat×Nat×Sl×Sl×PH),I2 x2->aZ (↑x2.2.1:Int) (aG (tW x2)) (aR (λb1 o1=>aA (aT (tW
 x2).a b1 o1) (0<=(↑x2.2.1:Int)) ((↑x2.2.1:Int)<aG (tW x2)/\∃(y1:PV),aL m (yS x2) b1 (bA o1 x2.2.1 13) y1.enc/\CU (dN x2.2.2.1::bK Cz (cW y1)) (yS x2) (λc p p1=>eA (gI c p p1) 0 (K (eD (gI c p p1)) m (yS x2)) (∃(x3:Nat×Nat×Sl×Sl×PH),aA (I2 x3) (m3 x3<m3 x2) (aA eZ (bF x2.2.2.1 x3.2.2.1) (aA (lD v) (fY v) (aA (bY x2.1 x3.1) (bF (tW x2) (tW x3)) (aA (cK (tW x2) (tW x3)) (fN (bG x2.2.1 1)=bV x3.2.1) (aA (bP v) (m=m) (cQ (yS x2) (yS x3)))))))))))) (∃(x3:Nat×PH),aA (I1 x3) (m2 x3<m2 x1) (aA eZ (lD v) (aA (fY v) (fN (bG x2.1 1)=bV x3.1) (aA (bP v) (m=m) (cQ (yS x2) x3.2))))))) (K (eD 0) m x1.2))))))))))))
abbrev Im(a:nS)(b:Nat)(c:uX):Prop:=a.tables[b]? =Option.some c
noncomputable abbrev tX(a:Nat×Nat×Sl×PH):Sl:=a.2.2.1
attribute [push_cast] Im tX
def JO(v:bJ)(m:MH)(h:PH)(K:CV->MH->PH->Prop):Prop:=
  eF (gQ v) 8 (K (eD 2) m h) (mX (λI x=>aA (I x) eZ (aA (lD v) (fY v) (aA (bD x) (bP v) (aA (m=m) (h=h) True)))) (λI m1 x=>CO (I x) x v (λb o y=>aL m h b (bA o x 5) (uH y)/\cT (decide (AM y>8)) (K (eD 2) m h) (decide (aG y.references>4)) (K (eD 2) m h) (eF (aG y.checks) 4 (K (eD 2) m h) (∃(x1:Nat),aA (I x1) (m1 x1<m1 x) (aA eZ (lD v) (aA (fY v) (fN (bG x 1)=bV x1) (aA (bP v) (m=m) (cQ h h))))))) (aZ v.version 0 (K (eD 70) m h) (eF v.version 1000 (K (eD 70) m h) (mX (λI1 x1=>aA (I1 x1) eZ (aA (fY v) (bD x1) (cO (bP v) m m h h))) (λI1 m2 x1=>I1 x1->aZ (↑x1:Int) (aG v.tables) (lE (λv1 s=>∃(t:uX)(i:Nat),j2 (cJ (bN v) (↑x1:Int)) (cJ (bN v1) (↑i:Int)) (fV
 h s v1) (Im s i t) (λr=>(dV r↔Au (List.take i s.tables) t)->iE (!r) (K (eD 70) m h) (λx2=>aA (I1 x2) (m2 x2<m2 x1) (aA eZ (fY v) (aA (fN (bG x1 1)=bV x2) (bP v) (aA (m=m) (h=h) True))))))) (mX (λI2 x2=>aA (I2 x2) eZ (aA (fY v) (bD x2) (cO (bP v) m m h h))) (λI2 m3 x2=>I2 x2->aZ (↑x2:Int) (aG v.tables) (lE (λv1 s=>∃(t:uX)(i:Nat),aA (cJ (bN v) (↑x2:Int)=cJ (bN v1) (↑i:Int)) (fV h s v1) (aA (Good Au s.tables) (Im s i t) (∀(r:Bool),(dV r↔BM s.tables [] t)->iE (!r) (K (eD 70) m h) (λx3=>aA (I2 x3) (m3 x3<m3 x2) (aA eZ (fY v) (aA (fN (bG x2 1)=bV x3) (bP v) (aA (m=m) (h=h) True)))))))) (∃(I3:Nat×PH->Prop)(m4:Nat×PH->Nat),(∃(x3:Nat×PH),aA (I3 x3) eZ (aA
 (fY v) (bD x3.1) (cO (bP v) m m h x3.2)))/\∀(x3:Nat×PH),I3 x3->aZ (↑x3.1:Int) (aG v.tables) (aR (λb o=>aA (aT (pD v) b o) (0<=(↑x3.1:Int)) ((↑x3.1:Int)<aG v.tables/\∃(y:Sl),aL m x3.2 b (bA o x3.1 5+4) (aU y)/\∃(I4:Nat×Nat×Sl×PH->Prop)(m5:Nat×Nat×Sl×PH->Nat),(∃(x4:Nat×Nat×Sl×PH),aA (I4 x4) eZ (aA (bY x3.1 x4.1) (fY v) (aA (bY x3.1 x4.1) (bF y (tX x4)) (aA (cK y (tX x4)) (bD x4.2.1) (cO (bP v) m m x3.2 x4.2.2.2)))))/\∀(x4:Nat×Nat×Sl×PH),I4 x4->aZ (↑x4.2.1:Int) (aG (tX x4)) (aR (λb1 o1=>aA (aT (tX x4).a b1 o1) (0<=(↑x4.2.1:Int)) ((↑x4.2.1:Int)<aG (tX x4)/\∃(y1:PV),aL m x4.2.2.2 b1 (bA o1 x4.2.1 13) y1.enc/\A9 (cJ (bN v) (↑x4.1:Int))
 x4.2.2.2 (λs h1=>CU (dN s::bK Cz (cW y1)) h1 (λc p p1=>eA (gI c p p1) 0 (K (eD (gI c p p1)) m h1) (∃(x5:Nat×Nat×Sl×PH),aA (I4 x5) (m5 x5<m5 x4) (aA eZ (bY x4.1 x5.1) (aA (fY v) (bY x4.1 x5.1) (aA (bF (tX x4) (tX x5)) (cK (tX x4) (tX x5)) (aA (fN (bG x4.2.1 1)=bV x5.2.1) (bP v) (aA (m=m) (h1=x5.2.2.2) True))))))))))) (∃(x5:Nat×PH),aA (I3 x5) (m4 x5<m4 x3) (aA eZ (fY v) (aA (fN (bG x4.1 1)=bV x5.1) (bP v) (aA (m=m) (x4.2.2.2=x5.2) True))))))) (K (eD 0) m x3.2))))))))))
theorem kD.out{hx:PH}{r:CV}(hm:Sub m m')(hle:PH.le h hx)(hK:K r m h):kD h K r m' hx:=⟨m,h,hm,.refl _,hle,hK⟩
theorem sV(h:¬BA s):eE s=2:=by unfold eE;rw[if_neg h]
theorem IW(h:BA s)(h':¬HL s):eE s=70:=by unfold eE;rw[if_pos h,if_neg h']
theorem F6(h:BA s)(h':HL s):eE s=pM ((List.range s.tables.length).flatMap (qT s)):=by unfold eE;rw[if_pos h,if_pos h']
theorem AB{t:uX}(hx:s.tables[i]? =some t)(hp:t.checks[k]? =some p):(qT s i)[k]? =some (gI (gT s i) [] p):=by
 unfold qT;rw[hx];simp[hp]
theorem Hf{t:uX}(hx:s.tables[i]? =some t):(qT s i).length=t.checks.length:=by
 unfold qT;rw[hx];simp
theorem KJ{e:Int}(hk:l[k]? =some e)(h:∀x∈l.take k,x=0)(he:e=0):∀x∈l.take (k+1),x=0:=by
 intro x hx;rw[List.take_add_one,hk,List.mem_append]at hx;rcases hx with hx|hx
 .exact h x hx
 .simp at hx;rw[hx,he]
theorem NP{f:Nat->List Int}(h:∀j<i,∀x∈f j,x=0)(hl:(f i).length<=k)(h2:∀x∈(f i).take k,x=0):∀j<i+1,∀x∈f j,x=0:=by
 intro j hj x hx;by_cases e:j=i
 .subst e;rw[List.take_of_length_le hl]at h2;exact h2 x hx
 .exact h j aC x hx
theorem Li:Sound Tryz.prog 79 Aw:=by
 refine Fu Tryz.func79 ?_;rintro cvs m h K ⟨v,s,rfl,hs,hK⟩;refine⟨Xz v m h,rfl,aD RM (aD RL (aD Lj (aD J1 aF))),JM v m h (kD h K),by kernel_rfl,?_⟩;show JM v m h (kD h K);dsimp only[JM,push_cast];have hl:=hs.tables.slen;have hlen:=hs.tables.len;have hver:=hs.version;have out:∀(hx:PH)(x:Int),PH.le h hx->eE s=x->kD h K (.val (.int .i64 x)) m hx:=λhx x hle e=>.out (Sub.refl m) hle (by rw[<-e];exact hK);refine aE (λh1=>out h _ (.refl _) (sV λe=>by have:=e.1;omega)) (λh1=>?_);refine⟨λi=>i<=s.tables.length/\eH (λ_ t=>Kh t) s.tables i,λi=>s.tables.length-i,⟨0,⟨aC,.zero⟩,MT⟩,λi⟨hi,hg⟩=>aE (λhlt=>?_) (λhge=>?_)⟩
 .obtain⟨t,hx⟩:=fD hl hlt;obtain⟨b,o,w,ea,hr,hrep⟩:=hs.tables.at hx;have e1:=bU.slen hrep.columns;have e2:=bU.slen hrep.refs;have e3:=bU.slen hrep.checks;have bad:¬Kh t->kD h K (.val (.int .i64 2)) m h:=λhn=>out h _ (.refl _) (sV λe=>Good.not hx hn e.2);refine⟨b,o,ea,aC,hlt,w,.imm hr,aE (λh2=>bad λe=>?_) (λh2=>aE (λh3=>bad λe=>?_) (λh3=>aE (λh4=>bad λe=>?_) (λh4=>⟨i+1,⟨aC,hg.succ hx ⟨aC,aC,aC⟩⟩,by show s.tables.length-(i+1)<s.tables.length-i;omega,MT⟩)))⟩
  .have:=e.1;omega
  .have:=e.2.1;omega
  .have:=e.2.2;omega
 have lim:BA s:=⟨aC,hg.all aC⟩
 have h8:mW s:=λt ht=>by
  obtain⟨j,hj⟩:=List.mem_iff_getElem?.1 ht;exact(lim.2 j t hj).1
 have bad:¬HL s->kD h K (.val (.int .i64 70)) m h:=λhn=>out h _ (.refl _) (IW lim hn);refine aE (λh2=>bad λe=>?_) (λh2=>aE (λh3=>bad λe=>?_) (λh3=>⟨v,s,rfl,hs,λr hr=>aB (λh4=>bad λe=>?_) (λh4=>⟨v,s,rfl,hs,hr.1 (by simpa using h4),λr2 hr2=>aB (λh5=>bad λe=>?_) (λh5=>?_)⟩)⟩))
 .have:=e.1;omega
 .have:=e.2.1;omega
 .rw[hr.2 e.2.2.1]at h4;cases h4
 .rw[hr2.2 e.2.2.2]at h5;cases h5
 have ok:HL s:=⟨aC,aC,hr.1 (by simpa using h4),hr2.1 (by simpa using h5)⟩
 rw[F6 lim ok]at out;refine⟨λ⟨i,hx⟩=>i<=s.tables.length/\PH.le h hx/\∀j<i,∀x∈qT s j,x=0,λ⟨i,_⟩=>s.tables.length-i,⟨(0,h),⟨aC,.refl _,λj hj=>by omega⟩,MT⟩,?_⟩;rintro⟨i,hx⟩ ⟨hi,hle,hz⟩;dsimp only;refine aE (λhlt=>?_) (λhge=>out hx _ hle (Aa _ λe he=>?_))
 .obtain⟨t,ht⟩:=fD hl hlt;obtain⟨b,o,w,ea,hr,hrep⟩:=(hs.mono hle).tables.at ht;have cl:=bU.slen hrep.checks;have cb:=bU.len hrep.checks;refine⟨b,o,ea,aC,hlt,w,.imm hr,v,s,i,rfl,hs.mono hle,h8,λsl h' hle' hints=>?_⟩;refine⟨λ⟨i',k,ks,cs,hy⟩=>i'=i/\cs=w.checks/\k<=t.checks.length/\PH.le h' hy/\Ints hy ks (gT s i)/\∀x∈(qT s i).take k,x=0,λ⟨_,k,_,_,_⟩=>t.checks.length-k,⟨(i,0,sl,w.checks,h'),⟨rfl,rfl,aC,.refl _,hints,λx hx=>by simp at hx⟩,MT⟩,?_⟩;rintro⟨i,k,ks,_,hy⟩ ⟨rfl,rfl,hk,hle2,hints2,hz2⟩;dsimp only;have hlh:PH.le h hy:=(hle.trans hle').trans hle2;refine aE (λhlt2=>?_) (λhge2=>⟨(i+1,hy),⟨aC,hlh,NP hz (k:=k) (by rw[Hf ht];omega) hz2⟩,by show s.tables.length-(i+1)<s.tables.length-i;omega,MT⟩);obtain⟨p,hp⟩:=fD cl hlt2;obtain⟨b2,o2,pv,ea2,hr2',hrep2⟩:=((hrep.checks.mono hle').mono hle2).at hp;refine⟨b2,o2,ea2,aC,hlt2,pv,.imm hr2',ks,⟨none,0,0⟩,pv,gT s i,[],p,rfl,hints2,⟨.nil _ _,by simp⟩,hrep2,aB (λh6=>?_) (λh6=>?_)⟩
  .exact out hy _ hlh (HA aC hz hz2 (AB ht hp) (by simpa using h6))
  .exact⟨(i,k+1,ks,w.checks,hy),⟨rfl,rfl,by show k+1<=t.checks.length;omega,hle2,hints2,KJ (AB ht hp) hz2 (by simpa using h6)⟩,by show t.checks.length-(k+1)<t.checks.length-k;omega,MT⟩
 .obtain⟨j,hj,hx⟩:=List.mem_flatMap.1 he;exact hz j (by have:=List.mem_range.1 hj;omega) e hx
theorem Uh:Sound Tryz.prog 63 Aw:=by
 refine Fu Tryz.func63 ?_;rintro cvs m h K ⟨v,s,rfl,hs,hK⟩;refine⟨XI v m h,rfl,aD T8 (aD T6 (aD Dp (aD Gz aF))),JO v m h (kD h K),by kernel_rfl,?_⟩;show JO v m h (kD h K);dsimp only[JO,push_cast];have hl:=hs.tables.slen;have hlen:=hs.tables.len;have hver:=hs.version;have out:∀(hx:PH)(x:Int),PH.le h hx->eE s=x->kD h K (.val (.int .i64 x)) m hx:=λhx x hle e=>.out (Sub.refl m) hle (by rw[<-e];exact hK);refine aE (λh1=>out h _ (.refl _) (sV λe=>by have:=e.1;omega)) (λh1=>?_);refine⟨λi=>i<=s.tables.length/\eH (λ_ t=>Kh t) s.tables i,λi=>s.tables.length-i,⟨0,⟨aC,.zero⟩,MT⟩,λi⟨hi,hg⟩=>aE (λhlt=>?_) (λhge=>?_)⟩
 .obtain⟨t,hx⟩:=fD hl hlt;obtain⟨b,o,w,ea,hr,hrep⟩:=hs.tables.at hx;have e1:=bU.slen hrep.columns;have e2:=bU.slen hrep.refs;have e3:=bU.slen hrep.checks;have bad:¬Kh t->kD h K (.val (.int .i64 2)) m h:=λhn=>out h _ (.refl _) (sV λe=>Good.not hx hn e.2);refine⟨b,o,ea,aC,hlt,w,.imm hr,aE (λh2=>bad λe=>?_) (λh2=>aE (λh3=>bad λe=>?_) (λh3=>aE (λh4=>bad λe=>?_) (λh4=>⟨i+1,⟨aC,hg.succ hx ⟨aC,aC,aC⟩⟩,by show s.tables.length-(i+1)<s.tables.length-i;omega,MT⟩)))⟩
  .have:=e.1;omega
  .have:=e.2.1;omega
  .have:=e.2.2;omega
 have lim:BA s:=⟨aC,hg.all aC⟩
 have h8:mW s:=λt ht=>by
  obtain⟨j,hj⟩:=List.mem_iff_getElem?.1 ht;exact(lim.2 j t hj).1
 have bad:¬HL s->kD h K (.val (.int .i64 70)) m h:=λhn=>out h _ (.refl _) (IW lim hn);refine aE (λh2=>bad λe=>?_) (λh2=>aE (λh3=>bad λe=>?_) (λh3=>?_))
 .have:=e.1;omega
 .have:=e.2.1;omega
 clear hi hg hge;refine⟨λi=>i<=s.tables.length/\eH Au s.tables i,λi=>s.tables.length-i,⟨0,⟨aC,.zero⟩,MT⟩,λi⟨hi,hg⟩=>aE (λhlt=>?_) (λhge=>?_)⟩
 .obtain⟨t,hx⟩:=fD hl hlt;refine⟨v,s,t,i,rfl,hs,hx,λr hr=>aB (λh4=>bad λe=>?_) (λh4=>⟨i+1,⟨aC,hg.succ hx (hr.1 (by simpa using h4))⟩,by show s.tables.length-(i+1)<s.tables.length-i;omega,MT⟩)⟩;rw[hr.2 (e.2.2.1 i t hx)]at h4;cases h4
 have good:=hg.all aC;clear hi hg hge;refine⟨λi=>i<=s.tables.length/\eH (BM s.tables) s.tables i,λi=>s.tables.length-i,⟨0,⟨aC,.zero⟩,MT⟩,λi⟨hi,hg⟩=>aE (λhlt=>?_) (λhge=>?_)⟩
 .obtain⟨t,hx⟩:=fD hl hlt;refine⟨v,s,t,i,rfl,hs,good,hx,λr hr=>aB (λh4=>bad λe=>?_) (λh4=>⟨i+1,⟨aC,hg.succ hx (hr.1 (by simpa using h4))⟩,by show s.tables.length-(i+1)<s.tables.length-i;omega,MT⟩)⟩;rw[hr.2 (e.2.2.2 i t hx)]at h4;cases h4
 have good2:=hg.all aC;clear hi hg hge;have ok:HL s:=⟨aC,aC,good,good2⟩
 rw[F6 lim ok]at out;refine⟨λ⟨i,hx⟩=>i<=s.tables.length/\PH.le h hx/\∀j<i,∀x∈qT s j,x=0,λ⟨i,_⟩=>s.tables.length-i,⟨(0,h),⟨aC,.refl _,λj hj=>by omega⟩,MT⟩,?_⟩;rintro⟨i,hx⟩ ⟨hi,hle,hz⟩;dsimp only;refine aE (λhlt=>?_) (λhge=>out hx _ hle (Aa _ λe he=>?_))
 .obtain⟨t,ht⟩:=fD hl hlt;obtain⟨b,o,w,ea,hr,hrep⟩:=(hs.mono hle).tables.at ht;have cl:=bU.slen hrep.checks;have cb:=bU.len hrep.checks;refine⟨b,o,ea,aC,hlt,w.checks,.imm (aY.part hr 4 1),?_⟩;refine⟨λ⟨i',k,cs,hy⟩=>i'=i/\cs=w.checks/\k<=t.checks.length/\PH.le hx hy/\∀x∈(qT s i).take k,x=0,λ⟨_,k,_,_⟩=>t.checks.length-k,⟨(i,0,w.checks,hx),⟨rfl,rfl,aC,.refl _,λx hx=>by simp at hx⟩,MT⟩,?_⟩;rintro⟨i,k,_,hy⟩ ⟨rfl,rfl,hk,hle2,hz2⟩;dsimp only;have hlh:PH.le h hy:=hle.trans hle2;refine aE (λhlt2=>?_) (λhge2=>⟨(i+1,hy),⟨aC,hlh,NP hz (k:=k) (by rw[Hf ht];omega) hz2⟩,by show s.tables.length-(i+1)<s.tables.length-i;omega,MT⟩);obtain⟨p,hp⟩:=fD cl hlt2;obtain⟨b2,o2,pv,ea2,hr2',hrep2⟩:=(hrep.checks.mono hle2).at hp;refine⟨b2,o2,ea2,aC,hlt2,pv,.imm hr2',v,s,i,rfl,hs.mono hlh,h8,λsl h' hle' hints=>⟨sl,⟨none,0,0⟩,pv,gT s i,[],p,rfl,hints,⟨.nil _ _,by simp⟩,hrep2.mono hle',aB (λh6=>?_) (λh6=>?_)⟩⟩
  .exact out h' _ (hlh.trans hle') (HA aC hz hz2 (AB ht hp) (by simpa using h6))
  .exact⟨(i,k+1,w.checks,h'),⟨rfl,rfl,by show k+1<=t.checks.length;omega,hle2.trans hle',KJ (AB ht hp) hz2 (by simpa using h6)⟩,by show t.checks.length-(k+1)<t.checks.length-k;omega,MT⟩
 .obtain⟨j,hj,hx⟩:=List.mem_flatMap.1 he;exact hz j (by have:=List.mem_range.1 hj;omega) e hx
mutual
def nT:Query->Int->Int
 |.mk _ _ _ _ _ _ _ _ args,n=>kT args (n+1)
def kT:List Query->Int->Int
 |[],n=>n
 |p::ps,n=>if n<=24 then kT ps (nT p n)else n
end
mutual
def lM:Query->Nat->Bool
 |.mk _ _ _ _ _ _ _ _ _,0=>true
 |.mk _ _ _ _ _ _ _ _ args,n+1=>sI args n
def sI:List Query->Nat->Bool
 |[],_=>false
 |p::ps,n=>lM p n||sI ps n
end
mutual
theorem EM:∀(p:Query)(n:Int),n<=24->n<nT p n/\nT p n<=25
 |.mk _ _ _ _ _ _ _ _ args,n,h=>by
  have:=DO args (n+1) aC;simp only[nT];omega
theorem DO:∀(ps:List Query)(n:Int),n<=25->n<=kT ps n/\kT ps n<=25
 |[],n,h=>by simp only[kT];omega
 |p::ps,n,h=>by
  simp only[kT];split
  .rename_i h1;have h2:=EM p n h1;have h3:=DO ps (nT p n) h2.2;omega
  .omega
end
theorem MO(ps:List Query){n:Int}(h:¬n<=24):kT ps n=n:=by
 cases ps
 .simp[kT]
 .simp only[kT,if_neg h]
theorem FI(n:Nat):∀ps:List Query,sI ps n=ps.any (lM · n)
 |[]=>by simp[sI]
 |p::ps=>by simp[sI,FI n ps]
theorem cN.args{p:Query}(r:cN h p v):zG h v.args p.args:=by
 cases p;exact r.parts.args_
def kZ(q:Query):Bool:=decide (nT q 0<=24)&& !lM q 8
def arity(op:Int):Int:=
 if op==1 then 0 else if op==2||op==3||op==9 then 1 else if op==4||op==5||op==6||op==7||op==8||op==10 then 2 else-1
def NF(N:Nat):Vc.Spec:=λcvs m h K=>∃v p k,cvs=[aQ v,cI k,cI 24]/\cN h p v/\SizeOf.sizeOf p<N/\0<=k/\k<=24/\K (cI (nT p k)) m h
def Kt(N:Nat):Vc.Spec:=λcvs m h K=>∃v p,∃k:Nat,cvs=[aQ v,cI k]/\cN h p v/\SizeOf.sizeOf p<N/\k<=100/\K (cB (lM p k)) m h
def NA:Vc.Spec:=λcvs m h K=>∃v p,cvs=[aQ v]/\cN h p v/\K (cB (kZ p)) m h
def Sg:Vc.Spec:=λcvs m h K=>∃op,cvs=[cI op]/\K (cI (arity op)) m h
def DK(l:List Int)(n:Int):Bool:=decide (0<=n)&&decide (n<l.length)
def ZD:Vc.Spec:=λcvs m h K=>∃s l n,cvs=[cS s,cI n]/\Ints h s l/\K (cB (DK l n)) m h
noncomputable def XF(N:Nat)(v:QV)(m:MH)(h:PH):Ctx:=
 dL [(66,NF N)] [(3,{A:=Nat×Int,st:=λx=>cD 31 34 [(1,iv x.2),(2,iv 24),(3,.at (.ptr 3 0)),(7,iv x.1)] [(3,.cells 38 (v.enc.map .val))] m h})] [] [] false
noncomputable def XE(N:Nat)(v:QV)(k:Nat)(m:MH)(h:PH):Ctx:=
 dL [(67,Kt N)] [(4,{A:=Nat,st:=λi=>cD 23 25 [(1,iv k),(2,.at (.ptr 2 0)),(10,iv v.args.len),(11,iv i)] [(2,.cells 38 (v.enc.map .val))] m h})] [] [] false
abbrev fB(a:QV):Prop:=eQ (xM 38 a.enc)
attribute [push_cast] fB
def Pb(N:Nat)(v:QV)(k:Int)(m:MH)(h:PH)(K:CV->MH->PH->Prop):Prop:=
  ∃(I:Nat×Int->Prop)(m1:Nat×Int->Nat),(∃(x:Nat×Int),aA (I x) (cG (dX (k+1)) x.2) (aA (eQ (fN 24)) (eP 3) (aA (bD x.1) (fB v) (aA (m=m) (h=h) True))))/\∀(x:Nat×Int),I x->aZ (↑x.1:Int) (aG v.args) (B9 x.2 24 (aR (λb o=>aA (aT v.args.a b o) (0<=(↑x.1:Int)) ((↑x.1:Int)<aG v.args/\∃(y:QV),aL m h b (bA o x.1 21) y.enc/\qF (λv1 p=>∃(k1:Int),aA (bW y::cJ (eD x.2) 24=bW v1::cJ (eD k1) 24) (cN h p v1) (aA (p9 p N) (cA k1) (k1<=24/\∃(x1:Nat×Int),aA (I x1) (m1 x1<m1 x) (aA (cG (nT p k1) x1.2) (eQ (fN 24)) (aA (eP 3) (fN (bG x.1 1)=bV x1.1) (aA (fB v) (m=m) (cQ h h)))))))))) (K (eD x.2) m h)) (K (eD x.2) m h)
def Pa(N:Nat)(v:QV)(k:Nat)(m:MH)(h:PH)(K:CV->MH->PH->Prop):Prop:=
  dH (↑k:Int) 0 (K fJ m h) (mX (λI x=>aA (I x) (eQ (bV k)) (aA (eP 2) (bL v.args) (aA (bD x) (fB v) (aA (m=m) (h=h) True)))) (λI m1 x=>I x->aZ (↑x:Int) (aG v.args) (aR (λb o=>aA (aT v.args.a b o) (0<=(↑x:Int)) ((↑x:Int)<aG v.args/\∃(y:QV),aL m h b (bA o x 21) y.enc/\qF (λv1 p=>ER (cJ (bW y) (dX ((↑k:Int)-1))) (bW v1) (cN h p v1) (p9 p N) (λk1=>iE (lM p k1) (K fJ m h) (λx1=>aA (I x1) (m1 x1<m1 x) (aA (eQ (bV k)) (eP 2) (aA (bL v.args) (fN (bG x 1)=bV x1) (aA (fB v) (m=m) (cQ h h)))))))))) (K aW m h)))
def Pp(N:Nat)(v:QV)(m:MH)(h:PH)(K:CV->MH->PH->Prop):Prop:=
  qF (λv1 p=>∃(k:Int),aA (bW v::cJ (eD 0) 24=bW v1::cJ (eD k) 24) (cN h p v1) (aA (p9 p N) (cA k) (k<=24/\B9 (nT p k) 24 (qF (λv2 p1=>ER (cJ (bW v) 8) (bW v2) (cN h p1 v2) (p9 p1 N) (λk1=>K (CV.val (Value.bool (!(lM p1 k1)))) m h))) (K aW m h))))
def OS(op:Int)(m:MH)(h:PH)(K:CV->MH->PH->Prop):Prop:=
  cT (op==1) (K (eD 0) m h) (op==2) (K (eD 1) m h) (cT (op==3) (K (eD 1) m h) (op==9) (K (eD 1) m h) (cT (op==4) (K (eD 2) m h) (op==5) (K (eD 2) m h) (cT (op==6) (K (eD 2) m h) (op==7) (K (eD 2) m h) (cT (op==8) (K (eD 2) m h) (op==10) (K (eD 2) m h) (K (eD (Int.negSucc 0)) m h)))))
def LY(s:Sl)(n:Int)(m:MH)(h:PH)(K:CV->MH->PH->Prop):Prop:=
  fU n 0 (K (By (decide (n<aG s))) m h) (K aW m h)
theorem SU:∀N,Sound Tryz.prog 66 (NF N)
 |0=>by
  refine eG (fn:=Tryz.f66) (c:=dJ Tryz.f66) Tryz.func66 rfl (by decide) ?_;rintro cvs m h K ⟨v,p,k,rfl,hr,hN,_⟩;omega
 |N+1=>by
  refine iB Tryz.func66 ?_;rintro cvs m h K ⟨v,p,k,rfl,hr,hN,h0,h1,hK⟩;refine⟨XF N v m h,rfl,aD (SU N) aF,Pb N v k m h K,by kernel_rfl,?_⟩;dsimp only[Pb,push_cast];have hargs:=hr.args;have hlen:=hargs.slen;have hl:=hargs.len;refine⟨λx=>x.1<=p.args.length/\0<=x.2/\x.2<=25/\kT (p.args.drop x.1) x.2=nT p k,λx=>p.args.length-x.1,⟨(0,k+1),⟨by simp,by simp;omega,by simp;omega,?_⟩,?_⟩,?_⟩
  .cases p;simp[nT,Query.args]
  .rw[eC aC aC];exact MT
  rintro⟨i,n⟩ ⟨hi,hn0,hn1,he⟩;dsimp only at hi hn0 hn1 he⊢
  refine aE (λhlt=>aE (λhn=>?_) (λhn=>vU hK ?_)) (λhge=>vU hK ?_)
  .obtain⟨q,hq⟩:=fD hlen hlt;obtain⟨b,o,u,ea,hrd,hru⟩:=hargs.at hq;have hb:=EM q n hn;rw[drop_cons hq,kT,if_pos hn]at he;refine⟨b,o,ea,aC,hlt,u,.imm hrd,u,q,n,rfl,hru,?_,hn0,hn,(i+1,nT q n),⟨by dsimp only;omega,by dsimp only;omega,by dsimp only;omega,he⟩,by dsimp only;omega,MT⟩;have:=B3 (List.mem_of_getElem? hq);omega
  .rw[<-he,MO _ hn]
  .rw[<-he,List.drop_of_length_le aC];simp[kT]
theorem SS:∀N,Sound Tryz.prog 67 (Kt N)
 |0=>by
  refine eG (fn:=Tryz.f67) (c:=dJ Tryz.f67) Tryz.func67 rfl (by decide) ?_;rintro cvs m h K ⟨v,p,k,rfl,hr,hN,_⟩;omega
 |N+1=>by
  refine iB Tryz.func67 ?_;rintro cvs m h K ⟨v,p,k,rfl,hr,hN,h1,hK⟩;refine⟨XE N v k m h,rfl,aD (SS N) aF,Pa N v k m h K,by kernel_rfl,?_⟩;dsimp only[Pa,push_cast];have hargs:=hr.args;have hlen:=hargs.slen;have hl:=hargs.len;refine aB (λhk=>gO hK ?_) (λhk=>?_)
  .have:k=0:=by have:(k:Int)=0:=(by simpa using hk);omega
   subst this;cases p;simp[lM]
  .have hk:k≠0:=by intro e;subst e;simp at hk
   have hdk:lM p k=p.args.any (lM · (k-1)):=by
    obtain⟨k',rfl⟩:∃k',k=k'+1:=⟨k-1,aC⟩
    cases p;simp[lM,FI,Query.args]
   rw[hdk]at hK;refine⟨λi=>i<=p.args.length/\(p.args.take i).any (lM · (k-1))=false,λi=>p.args.length-i,⟨0,⟨aC,by simp⟩,MT⟩,λi hi=>aE (λhlt=>?_) (λhge=>gO hK ?_)⟩
   .obtain⟨q,hq⟩:=fD hlen hlt;obtain⟨b,o,u,ea,hrd,hru⟩:=hargs.at hq;refine⟨b,o,ea,aC,hlt,u,.imm hrd,u,q,k-1,?_,hru,?_,aC,aB (λhd=>gO hK ?_) (λhd=>?_)⟩
    .rw[eC aC aC,show((k-1:Nat):Int)=(k:Int)-1 by omega]
    .have:=B3 (List.mem_of_getElem? hq);omega
    .rw[List.any_eq_true];exact⟨q,List.mem_of_getElem? hq,hd⟩
    .refine⟨i+1,⟨aC,?_⟩,by show p.args.length-(i+1)<p.args.length-i;omega,MT⟩;rw[List.take_add_one,List.any_append,hi.2,hq];simpa using hd
   .have:=hi.2
    rwa [List.take_of_length_le aC]at this
theorem Lo:Sound Tryz.prog 28 NA:=by
 refine iB Tryz.func28 ?_;rintro cvs m h K ⟨v,p,rfl,hr,hK⟩;refine⟨dL [(66,NF (SizeOf.sizeOf p+1)),(67,Kt (SizeOf.sizeOf p+1))] [] [] [] false,rfl,aD (SU _) (aD (SS _) aF),Pp (SizeOf.sizeOf p+1) v m h K,by kernel_rfl,?_⟩;dsimp only[Pp,push_cast];refine⟨v,p,0,rfl,hr,aC,aC,aC,aB (λh1=>⟨v,p,8,rfl,hr,aC,aC,gO hK ?_⟩) (λh1=>gO hK ?_)⟩
 .simp only[kZ,h1,Bool.true_and]
 .simp only[kZ,h1,Bool.false_and]
theorem Lf:Sound Tryz.prog 94 Sg:=by
 refine iB Tryz.func94 ?_;rintro cvs m h K ⟨op,rfl,hK⟩;refine⟨dL [] [] [] [] false,rfl,aF,OS op m h K,by kernel_rfl,?_⟩;dsimp only[OS,push_cast]
 repeat' (first|(refine aB (λ_=>?_) (λ_=>?_))|(refine vU hK ?_;simp only[arity];simp only[*,Bool.or_false,Bool.false_or,Bool.or_true,Bool.true_or,Bool.and_true,Bool.true_and,Bool.and_false,Bool.false_and,Bool.not_true,Bool.not_false,Bool.false_eq_true,if_true,if_false, ↓reduceIte];done)|(refine vU hK ?_;simp only[arity];simp only[*,Bool.or_false,Bool.false_or,Bool.or_true,Bool.true_or,Bool.and_true,Bool.true_and,Bool.and_false,Bool.false_and,Bool.not_true,Bool.not_false,Bool.false_eq_true,if_true,if_false, ↓reduceIte];rfl))
theorem Eh:Sound Tryz.prog 124 ZD:=by
 refine iB Tryz.func124 ?_;rintro cvs m h K ⟨s,l,n,rfl,hs,hK⟩;refine⟨dL [] [] [] [] false,rfl,aF,LY s n m h K,by kernel_rfl,?_⟩;dsimp only[LY,push_cast];have hl:=hs.slen;refine aE (λh1=>gO hK ?_) (λh1=>gO hK ?_)
 .have h1:0<=n:=h1;simp only[DK,hl,decide_eq_true h1,Bool.true_and]
 .have h1:¬0<=n:=by omega
  simp only[DK,decide_eq_false h1,Bool.false_and]
def zI(a b:List Int)(pre:List (Int×Int))(p:Int×Int):Prop:=DK a p.1=true/\DK b p.2=true/\a.getD p.1.toNat 0=b.getD p.2.toNat 0/\∀q∈pre,q.1≠p.1/\q.2≠p.2
def Ha(a:List Int)(pre:List Int)(c:Int):Prop:=DK a c=true/\c∉pre
def Ko(a:List Int)(_:List (Int×Bool))(o:Int×Bool):Prop:=DK a o.1=true
structure vN(a:List Int)(group:List Int)(order:List (Int×Bool))(limit:Int):Prop where
 group_:Good (Ha a) group
 order_:Good (Ko a) order
 len_:order.length<=12
 low:0<=limit
 high:limit<=100
def Tk:Vc.Spec:=λcvs m h K=>∃s t u on a b,cvs=[cS s,cS t,cS u]/\lI h s on/\Ints h t a/\Ints h u b/\∀r:Bool,(r=true↔Good (zI a b) on)->K (cB r) m h
def Ti:Vc.Spec:=λcvs m h K=>∃v t g o a,cvs=[aQ v,cS t]/\Ints h v.group g/\iI h v.order o/\Ints h t a/\∀r:Bool,(r=true↔vN a g o v.limit)->K (cB r) m h
noncomputable def V6(s t u:Sl)(m:MH)(h:PH):Ctx:=
 dL [(124,ZD)] [(2,{A:=Nat,st:=λi=>cD 66 69 [(0,sv s),(1,sv t),(2,sv u),(10,sv s),(11,iv s.len),(12,iv i)] [] m h}),
  (7,{A:=Nat×Nat×(Int×Int),st:=λ⟨i,k,p⟩=>cD 66 69 [(0,sv s),(1,sv t),(2,sv u),(7,iv i),(8,.at (.ptr 8 0)),(9,iv k),(10,sv s),(11,iv s.len),(12,iv i)] [(8,.cells 69 [.val (.int .i64 p.1),.val (.int .i64 p.2)])] m h})] [] [] false
noncomputable def V5(v:QV)(t:Sl)(m:MH)(h:PH):Ctx:=
 dL [(124,ZD)] [(2,{A:=Nat,st:=λi=>cD 62 64 [(1,sv t),(2,.at (.ptr 2 0)),(11,sv v.group),(12,iv v.group.len),(13,iv i)] [(2,.cells 38 (v.enc.map .val))] m h}),
  (7,{A:=Nat×Nat×Int,st:=λ⟨i,k,c⟩=>cD 62 64 [(1,sv t),(2,.at (.ptr 2 0)),(5,iv i),(6,iv c),(7,iv k),(11,sv v.group),(12,iv v.group.len),(13,iv i)] [(2,.cells 38 (v.enc.map .val))] m h}),
  (13,{A:=Nat,st:=λi=>cD 62 64 [(1,sv t),(2,.at (.ptr 2 0)),(36,sv v.order),(37,iv v.order.len),(38,iv i)] [(2,.cells 38 (v.enc.map .val))] m h})] [] [] false
noncomputable abbrev hX(a:Sl)(b:Int):List CV:=cJ (dN a) b
abbrev ES(a:Sl)(b:Int)(c:PH)(d:(List Int)->Int->Prop):Prop:=A2 (λx x1=>∃(x2:Int),aA (hX a b=hX x x2) (Ints c x x1) (d x1 x2))
abbrev fI:Prop:=eP 8
abbrev A4(a b:List At):Prop:=oQ 69 a=oQ 69 b
noncomputable abbrev pR(a:Int×Int):List At:=rJ a.1 (fP a.2)
attribute [push_cast] hX ES fI A4 pR
def LX(s t u:Sl)(m:MH)(h:PH)(K:CV->MH->PH->Prop):Prop:=
  mX (λI x=>aA (I x) (aI s) (aA (aI t) (aI u) (aA (aI s) (bL s) (aA (bD x) (m=m) (cQ h h))))) (λI m1 x=>I x->aZ (↑x:Int) (aG s) (aR (λb o=>aA (aT s.a b o) (0<=(↑x:Int)) ((↑x:Int)<aG s/\∃(y:Int×Int),aA (aL m h b (bA o x 2) (uB y)) ((0:Int)<=0) ((0:Int)<2/\ES t y.1 h (λl n=>gP (DK l n) (K aW m h) (aA (cA 1) ((1:Int)<2) (ES u y.2 h (λl1 n1=>gP (DK l1 n1) (K aW m h) (aA (cA 0) ((0:Int)<2) (aR (λb1 o1=>aA (aT t.a b1 o1) (0<=y.1) (y.1<aG t/\∃(y1:Int),aA (aL m h b1 (fQ o1 y.1 1) (cL y1)) ((0:Int)<=1) ((1:Int)<2/\aR (λb2 o2=>aA (aT u.a b2 o2) (0<=y.2) (y.2<aG u/\∃(y2:Int),aL m h b2 (fQ o2 y.2 1) (cL y2)/\eA y1 y2 (K aW m h) (∃(I1:Nat×Nat×
 Int×Int->Prop)(m2:Nat×Nat×Int×Int->Nat),(∃(x1:Nat×Nat×Int×Int),aA (I1 x1) (aI s) (aA (aI t) (aI u) (aA (bY x x1.1) fI (aA (bD x1.2.1) (aI s) (aA (bL s) (bY x x1.1) (aA (A4 (pR y) (pR x1.2.2)) (m=m) (cQ h h)))))))/\∀(x1:Nat×Nat×Int×Int),I1 x1->aZ (↑x1.2.1:Int) (↑x1.1:Int) (aR (λb3 o3=>aA (aT s.a b3 o3) (cA (↑x1.2.1:Int)) (aA ((↑x1.2.1:Int)<aG s) (cA 0) ((0:Int)<2/\∃(y3:Int),aA (aL m h b3 (bA o3 x1.2.1 2+0) (cL y3)) ((0:Int)<=0) ((0:Int)<2/\dH y3 x1.2.2.1 (K aW m h) (aR (λb4 o4=>aA (aT s.a b4 o4) (cA (↑x1.2.1:Int)) (aA ((↑x1.2.1:Int)<aG s) (cA 1) ((1:Int)<2/\∃(y4:Int),aA (aL m h b4 (bA o4 x1.2.1 2+1) (cL y4)) ((0:Int)<=1) ((1:Int)<2/\dH y4
 x1.2.2.2 (K aW m h) (∃(x2:Nat×Nat×Int×Int),aA (I1 x2) (m2 x2<m2 x1) (aA (aI s) (aI t) (aA (aI u) (bY x1.1 x2.1) (aA fI (fN (bG x1.2.1 1)=bV x2.2.1) (aA (aI s) (bL s) (aA (bY x1.1 x2.1) (A4 (pR x1.2.2) (pR x2.2.2)) (dQ m m h h))))))))))))))))) (∃(x2:Nat),aA (I x2) (m1 x2<m1 x) (aA (aI s) (aI t) (aA (aI u) (aI s) (aA (bL s) (fN (bG x1.1 1)=bV x2) (dQ m m h h))))))))))))))))))))) (K fJ m h))
def LW(v:QV)(t:Sl)(m:MH)(h:PH)(K:CV->MH->PH->Prop):Prop:=
  mX (λI x=>aA (I x) (aI t) (aA (eP 2) (aI v.group) (aA (bL v.group) (bD x) (aA (fB v) (m=m) (cQ h h))))) (λI m1 x=>I x->aZ (↑x:Int) (aG v.group) (aR (λb o=>aA (aT v.group.a b o) (0<=(↑x:Int)) ((↑x:Int)<aG v.group/\∃(y:Int),aL m h b (bA o x 1) (cL y)/\ES t y h (λl n=>gP (DK l n) (K aW m h) (∃(I1:Nat×Nat×Int->Prop)(m2:Nat×Nat×Int->Nat),(∃(x1:Nat×Nat×Int),aA (I1 x1) (aI t) (aA (eP 2) (bY x x1.1) (aA (cG y x1.2.2) (bD x1.2.1) (aA (aI v.group) (bL v.group) (aA (bY x x1.1) (fB v) (aA (m=m) (h=h) True))))))/\∀(x1:Nat×Nat×Int),I1 x1->aZ (↑x1.2.1:Int) (↑x1.1:Int) (aR (λb1 o1=>aA (aT v.group.a b1 o1) (0<=(↑x1.2.1:Int)) ((↑x1.2.1:Int)<aG v.group/\∃(y1:Int),aL m h b1
 (bA o1 x1.2.1 1) (cL y1)/\dH y1 x1.2.2 (K aW m h) (∃(x2:Nat×Nat×Int),aA (I1 x2) (m2 x2<m2 x1) (aA (aI t) (eP 2) (aA (bY x1.1 x2.1) (cG x1.2.2 x2.2.2) (aA (fN (bG x1.2.1 1)=bV x2.2.1) (aI v.group) (aA (bL v.group) (bY x1.1 x2.1) (aA (fB v) (m=m) (cQ h h)))))))))) (∃(x2:Nat),aA (I x2) (m1 x2<m1 x) (aA (aI t) (eP 2) (aA (aI v.group) (bL v.group) (aA (fN (bG x1.1 1)=bV x2) (fB v) (dQ m m h h)))))))))) (mX (λI1 x1=>aA (I1 x1) (aI t) (aA (eP 2) (aI v.order) (aA (bL v.order) (bD x1) (aA (fB v) (m=m) (cQ h h))))) (λI1 m2 x1=>I1 x1->aZ (↑x1:Int) (aG v.order) (aR (λb o=>aA (aT v.order.a b o) (0<=(↑x1:Int)) ((↑x1:Int)<aG v.order/\∃(y:Int×Bool),aL m h b (bA o x1 2) (yL y)/\ES t y.1
 h (λl n=>iE (!(DK l n)) (K aW m h) (λx2=>aA (I1 x2) (m2 x2<m2 x1) (aA (aI t) (eP 2) (aA (aI v.order) (bL v.order) (aA (fN (bG x1 1)=bV x2) (fB v) (dQ m m h h))))))))) (B9 (aG v.order) 12 (fU v.limit 0 (K (By (decide (v.limit<=100))) m h) (K aW m h)) (K aW m h)))))
theorem Jx{α:Type}{l:List α}{x:α}(hx:l[i]? =some x)(hi:i<k):x∈l.take k:=List.mem_of_getElem? (i:=i) (by rw[List.getElem?_take,if_pos hi,hx])
theorem NY{α:Type}{l:List α}{x y:α}(hx:l[i]? =some x)(hy:y∈l.take (i+1)):y∈l.take i\/y=x:=by
 rw[List.take_add_one,hx,List.mem_append]at hy;rcases hy with h|h
 .exact .inl h
 .simp at h;exact .inr h
theorem kB{n:Int}:DK l n=true↔0<=n/\n<l.length:=by simp[DK]
theorem RC:Sound Tryz.prog 125 Tk:=by
 refine iB Tryz.func125 ?_;rintro cvs m h K ⟨s,t,u,on,a,b,rfl,hs,ht,hu,hK⟩;refine⟨V6 s t u m h,rfl,aD Eh aF,LX s t u m h K,by kernel_rfl,?_⟩;dsimp only[LX,push_cast];have hl:=hs.slen;have hlen:=hs.len;have ta:=ht.slen;have ub:=hu.slen;refine⟨λi=>i<=on.length/\eH (zI a b) on i,λi=>on.length-i,⟨0,⟨aC,.zero⟩,MT⟩,λi⟨hi,hg⟩=>aE (λhlt=>?_) (λhge=>hK true ⟨λ_=>hg.all aC,λ_=>rfl⟩)⟩;obtain⟨p,hp⟩:=fD hl hlt;obtain⟨b1,o1,e1,r1⟩:=hs.at hp;have bad:¬zI a b (on.take i) p->K (.val (.bool false)) m h:=λhn=>hK false ⟨λe=>(by cases e),λe=>(Good.not hp hn e).elim⟩;refine⟨b1,o1,e1,aC,hlt,p,.imm r1,aC,aC,t,a,p.1,rfl,ht,aB (λh1=>bad λhh=>?_) (λh1=>⟨aC,aC,u,b,p.2,rfl,hu,aB (λh2=>bad λhh=>?_) (λh2=>?_)⟩)⟩
 .rw[hh.1]at h1;cases h1
 .rw[hh.2.1]at h2;cases h2
 have i1:DK a p.1=true:=by simpa using h1
 have i2:DK b p.2=true:=by simpa using h2
 have i1':=kB.1 i1;have i2':=kB.1 i2;obtain⟨b2,o2,e2,r2⟩:=ht.inb i1'.1 i1'.2;obtain⟨b3,o3,e3,r3⟩:=hu.inb i2'.1 i2'.2;refine⟨aC,aC,b2,o2,e2,aC,aC,_,.imm r2,aC,aC,b3,o3,e3,aC,aC,_,.imm r3,aB (λh3=>bad λhh=>?_) (λh3=>?_)⟩
 .rw[hh.2.2.1]at h3;simp at h3
 refine⟨λ⟨i',k,p'⟩=>i'=i/\p'=p/\k<=i/\∀q∈on.take k,q.1≠p.1/\q.2≠p.2,λ⟨_,k,_⟩=>i-k,⟨(i,0,p),⟨rfl,rfl,aC,λq hq=>by simp at hq⟩,MT⟩,?_⟩;rintro⟨i,k,p⟩ ⟨rfl,rfl,hk,hno⟩;dsimp only;refine aE (λhlt2=>?_) (λhge2=>?_)
 .obtain⟨q,hq⟩:∃q,on[k]? =some q:=⟨on[k]'(by omega),List.getElem?_eq_getElem _⟩
  obtain⟨b4,o4,e4,r4⟩:=hs.at hq;refine⟨b4,o4,e4,aC,aC,aC,aC,q.1,.imm (aY.part r4 0 1),aC,aC,aB (λh4=>bad λhh=>?_) (λh4=>⟨b4,o4,e4,aC,aC,aC,aC,q.2,.imm (aY.part r4 1 1),aC,aC,aB (λh5=>bad λhh=>?_) (λh5=>?_)⟩)⟩
  .exact(hh.2.2.2 q (Jx hq aC)).1 (by simpa using h4)
  .exact(hh.2.2.2 q (Jx hq aC)).2 (by simpa using h5)
  .refine⟨(i,k+1,p),⟨rfl,rfl,by show k+1<=i;omega,λq' hq'=>?_⟩,by show i-(k+1)<i-k;omega,MT⟩;rcases NY hq hq' with e|rfl
   .exact hno q' e
   .exact⟨by simpa using h4,by simpa using h5⟩
 .have:k=i:=by omega
  subst this;exact⟨k+1,⟨aC,hg.succ hp ⟨i1,i2,by simpa using h3,hno⟩⟩,by show on.length-(k+1)<on.length-k;omega,MT⟩
theorem RB:Sound Tryz.prog 126 Ti:=by
 refine iB Tryz.func126 ?_;rintro cvs m h K ⟨v,t,g,o,a,rfl,hg,ho,ht,hK⟩;refine⟨V5 v t m h,rfl,aD Eh aF,LW v t m h K,by kernel_rfl,?_⟩;dsimp only[LW,push_cast];have gl:=hg.slen;have glen:=hg.len;have ol:=ho.slen;have olen:=ho.len;have bad:¬vN a g o v.limit->K (.val (.bool false)) m h:=λhn=>hK false ⟨λe=>(by cases e),λe=>(hn e).elim⟩;refine⟨λi=>i<=g.length/\eH (Ha a) g i,λi=>g.length-i,⟨0,⟨aC,.zero⟩,MT⟩,λi⟨hi,hgi⟩=>aE (λhlt=>?_) (λhge=>?_)⟩
 .obtain⟨c,hc⟩:=fD gl hlt;obtain⟨b1,o1,e1,r1⟩:=hg.at' hc;refine⟨b1,o1,e1,aC,hlt,c,.imm r1,t,a,c,rfl,ht,aB (λh1=>bad λhh=>Good.not hc (λhx=>?_) hh.group_) (λh1=>?_)⟩
  .rw[hx.1]at h1;cases h1
  refine⟨λ⟨i',k,c'⟩=>i'=i/\c'=c/\k<=i/\c∉g.take k,λ⟨_,k,_⟩=>i-k,⟨(i,0,c),⟨rfl,rfl,aC,by simp⟩,MT⟩,?_⟩;rintro⟨i,k,c⟩ ⟨rfl,rfl,hk,hno⟩;dsimp only;refine aE (λhlt2=>?_) (λhge2=>?_)
  .obtain⟨q,hq⟩:∃q,g[k]? =some q:=⟨g[k]'(by omega),List.getElem?_eq_getElem _⟩
   obtain⟨b4,o4,e4,r4⟩:=hg.at' hq;refine⟨b4,o4,e4,aC,aC,q,.imm r4,aB (λh4=>bad λhh=>Good.not hc (λhx=>?_) hh.group_) (λh4=>?_)⟩
   .refine hx.2 ?_;have:q=c:=by simpa using h4
    rw[<-this];exact Jx hq aC
   .refine⟨(i,k+1,c),⟨rfl,rfl,by show k+1<=i;omega,λhq'=>?_⟩,by show i-(k+1)<i-k;omega,MT⟩;rcases NY hq hq' with e|rfl
    .exact hno e
    .simp at h4
  .have:k=i:=by omega
   subst this;exact⟨k+1,⟨aC,hgi.succ hc ⟨by simpa using h1,hno⟩⟩,by show g.length-(k+1)<g.length-k;omega,MT⟩
 have gg:=hgi.all aC;clear hi hgi hge;refine⟨λi=>i<=o.length/\eH (Ko a) o i,λi=>o.length-i,⟨0,⟨aC,.zero⟩,MT⟩,λi⟨hi,hoi⟩=>aE (λhlt=>?_) (λhge=>?_)⟩
 .obtain⟨c,hc⟩:=fD ol hlt;obtain⟨b1,o1,e1,r1⟩:=ho.at hc;refine⟨b1,o1,e1,aC,hlt,c,.imm r1,t,a,c.1,rfl,ht,aB (λh1=>bad λhh=>Good.not hc (λhx=>?_) hh.order_) (λh1=>⟨i+1,⟨aC,hoi.succ hc (by simpa[Ko]using h1)⟩,by show o.length-(i+1)<o.length-i;omega,MT⟩)⟩;rw[show DK a c.1=true from hx]at h1;cases h1
 have oo:=hoi.all aC;refine aE (λh1=>aE (λh2=>?_) (λh2=>bad λhh=>?_)) (λh1=>bad λhh=>?_)
 .refine hK (decide (v.limit<=100)) ⟨λe=>⟨gg,oo,aC,h2,by simpa using e⟩,λe=>decide_eq_true e.high⟩
 .have:=hh.low;omega
 .have:=hh.len_;omega
def gV:Pred:=.mk 0 0 dK dK []
def dE:Query->Prop
 |.mk op ta w co on gr od li _=>(op=1\/ta=0)/\(op=2\/w=gV)/\(op=3\/co=[])/\(op=4\/op=5\/on=[])/\(op=9\/op=10\/(gr=[]/\od=[]/\li=0))
def z7(l:List Int):List Int×Int:=if l.length<=12 then(l,0)else([],2)
def iR(e:Int):List Int×Int:=([],e)
open Classical in
noncomputable def hZ(s:nS)(ps:List Int)(q:Query)(a b:List Int):List Int×Int:=
 if arity (match q with|.mk op .. =>op)<0\/¬dE q then iR 100 else
 match q with
 |.mk op ta w co on gr od li _=>
  if op=1 then(if 0<=ta/\ta<s.tables.length then z7 (gT s ta)else iR 100)
  else if op=2 then(if gI a ps w=0 then z7 a else iR (gI a ps w))
  else if op=3 then(if co≠[]/\Good (λ_ c=>DK a c=true) co then z7 (co.map λc=>a.getD c.toNat 0)else iR 100)
  else if op=4 then(if Good (zI a b) on then z7 (a++b)else iR 100)
  else if op=5 then(if Good (zI a b) on then z7 a else iR 100)
  else if op=9 then(if vN a gr od li then z7 a else iR 100)
  else if op=10 then(if a=b/\vN a gr od li then z7 a else iR 100)
  else(if a=b then z7 a else iR 100)
def Td:Vc.Spec:=λcvs m h K=>∃v q,cvs=[aQ v]/\cN h q v/\∀r:Bool,(r=true↔dE q)->K (cB r) m h
def KR(K:CV->MH->PH->Prop)(m:MH)(h:PH)(r:List Int×Int):Prop:=∀sl h',PH.le h h'->Ints h' sl r.1->K (.tup [cS sl,cI r.2]) m h'
def YE:Vc.Spec:=λcvs m h K=>∃sc p v a b s ps q la lb,cvs=[aS sc,cS p,aQ v,cS a,cS b]/\fV h s sc/\mW s/\Ints h p ps/\cN h q v/\Ints h a la/\Ints h b lb/\la.length<=12/\lb.length<=12/\KR K m h (hZ s ps q la lb)
noncomputable def Xr(m:MH):Ctx:=
 dL [(94,Sg),(123,Td),(44,uZ),(69,qM),(124,ZD),(125,Tk),(126,Ti),(127,Ax)] [(20,{A:=Nat×Sl×Sl×List Int×PH,st:=λ⟨i,a,co,l,h⟩=>cD 121 126 [(3,sv a),(12,.at (.lst 94)),(78,sv co),(79,iv co.len),(80,iv i)] [(94,.lst 3 1 (l.map eI))] m h})] [] [] false
noncomputable def V7(v:QV)(m:MH)(h:PH):Ctx:=
 ZG [(163,Yr)] [] [(2,{A:=Bool,st:=λr=>cD 78 79 [(1,.at (.ptr 1 0)),(3,bv r)] [(1,.cells 38 (v.enc.map .val))] m h})] [(2,[(9,{A:=Bool×Bool,st:=λx=>cD 78 79 [(1,.at (.ptr 1 0)),(3,bv x.1),(20,bv x.2)] [(1,.cells 38 (v.enc.map .val))] m h}),
  (11,{A:=Bool×Bool,st:=λx=>cD 78 79 [(1,.at (.ptr 1 0)),(3,bv x.1),(31,bv x.2)] [(1,.cells 38 (v.enc.map .val))] m h}),
  (11,{A:=Bool×Bool,st:=λx=>cD 78 79 [(1,.at (.ptr 1 0)),(3,bv x.1),(42,bv x.2)] [(1,.cells 38 (v.enc.map .val))] m h}),
  (16,{A:=Bool×Bool,st:=λx=>cD 78 79 [(1,.at (.ptr 1 0)),(3,bv x.1),(58,bv x.2)] [(1,.cells 38 (v.enc.map .val))] m h})])] [] false
abbrev gR(a b:Bool):Prop:=ZO a=ZO b
abbrev vC(a:Bool):Prop:=gR true a
abbrev Fa(a:Prop)(b:(Bool×Bool->Prop)->Prop)(c:(Bool×Bool->Prop)->(Bool×Bool)->Prop):Prop:=a->∃(x:Bool×Bool->Prop),b x/\∀(x1:Bool×Bool),c x x1
noncomputable abbrev iD:List Value:=iO u0
abbrev CT(a:Bool×Bool->Prop)(b:Bool×Bool)(c:(Bool×Bool)->Prop)(d:QV)(e:MH)(g:PH):Prop:=∃(x:Bool×Bool),aA (a x) eZ (aA (gR b.1 x.1) (c x) (cO (fB d) e e g g))
abbrev AQ(a:Bool):Prop:=gR false a
attribute [push_cast] gR vC Fa iD CT AQ
def LZ(v:QV)(m:MH)(h:PH)(K:CV->MH->PH->Prop):Prop:=
  ∃(I:Bool->Prop),dH v.op 9 (∃(x:Bool),aA (I x) eZ (aA (vC x) (fB v) (dQ m m h h))) (∃(x:Bool),aA (I x) eZ (aA (gR (v.op==10) x) (fB v) (dQ m m h h)))/\∀(x:Bool),Fa (I x) (λI1=>dH v.op 1 (∃(x1:Bool×Bool),aA (I1 x1) eZ (aA (gR x x1.1) (vC x1.2) (cO (fB v) m m h h))) (∃(x1:Bool×Bool),aA (I1 x1) eZ (aA (gR x x1.1) (gR (v.table==0) x1.2) (cO (fB v) m m h h)))) (λI1 x1=>Fa (I1 x1) (λI2=>branch x1.2 (dH v.op 2 (∃(x2:Bool×Bool),aA (I2 x2) eZ (aA (gR x1.1 x2.1) (vC x2.2) (cO (fB v) m m h h))) (E9 (λv1 w p q=>j2 (bK (cW v.where_) (lF (aJ bC bC (aJ bC bC (aJ bC bC (aJ Sj bC (aJ bC bC (aJ bC Sj iD)))))))) (bK (cW v1) (cW w)) (dZ h p
 v1) (dZ h q w) (λr=>(dV r↔p=q)->CT I2 x1 (λx2=>gR r x2.2) v m h)))) (∃(x2:Bool×Bool),aA (I2 x2) eZ (aA (gR x1.1 x2.1) (AQ x2.2) (cO (fB v) m m h h)))) (λI2 x2=>Fa (I2 x2) (λI3=>branch x2.2 (dH v.op 3 (∃(x3:Bool×Bool),aA (I3 x3) eZ (aA (gR x2.1 x3.1) (vC x3.2) (cO (fB v) m m h h))) (CT I3 x2 (λx3=>gR (aG v.columns==0) x3.2) v m h)) (∃(x3:Bool×Bool),aA (I3 x3) eZ (aA (gR x2.1 x3.1) (AQ x3.2) (cO (fB v) m m h h)))) (λI3 x3=>Fa (I3 x3) (λI4=>branch x3.2 (cT (v.op==4) (CT I4 x3 (λx4=>vC x4.2) v m h) (v.op==5) (CT I4 x3 (λx4=>vC x4.2) v m h) (CT I4 x3 (λx4=>gR (aG v.on==0) x4.2) v m h)) (∃(x4:Bool×Bool),aA (I4 x4) eZ (aA (gR x3.1 x4.1) (AQ x4.2)
 (cO (fB v) m m h h)))) (λI4 x4=>fT (I4 x4) x4.2 (cT x4.1 (K fJ m h) (aG v.group==0) (dH (aG v.order) 0 (K (By (v.limit==0)) m h) (K aW m h)) (K aW m h)) (K aW m h)))))
abbrev dG(a:CV->MH->PH->Prop)(b:Int)(c:MH)(d:PH):Prop:=a (CV.tup (cJ Cz b)) c d
noncomputable abbrev cZ(a:Sl):Sl:=Sl.mk a.a a.len a.cap
noncomputable abbrev kL(a:List (List Value)):Int:=(↑a.length:Int)
abbrev vZ(a:PH)(b:List (List Value))(c:CV->MH->PH->Prop)(d:MH):Prop:=bZ (λx x1=>bE a x1 (aX x1 x 1 b) (c (CV.tup (cJ (dN x) 0)) d x1))
noncomputable abbrev tY(a:Nat×Sl×Sl×List Int×PH):Sl:=a.2.2.1
noncomputable abbrev yI(a:Nat×Sl×Sl×List Int×PH):List Int:=a.2.2.2.1
noncomputable abbrev tZ(a:Nat×Sl×Sl×List Int×PH):Nat->Nat->Option Value:=a.2.2.2.2
abbrev Js(a:Sl->(List (Int×Int))->Prop):Prop:=∃(x:Sl)(x1:List (Int×Int)),a x x1
abbrev rE(a b:List (List Value))(c:Nat):Prop:=gM ((a.length+b.length)*c)
abbrev xG(a:List (List Value))(b:Nat):Prop:=gM (a.length+b)
abbrev rF(a b:List (List Value)):Prop:=xG a b.length
attribute [push_cast] dG cZ kL vZ tY yI tZ Js rE xG rF
def JJ(sc:bJ)(p:Sl)(v:QV)(a b:Sl)(m:MH)(h:PH)(K:CV->MH->PH->Prop):Prop:=
  jM v.op (λo=>aZ (arity o) 0 (dG K 100 m h) (qF (λv1 q=>aA (jW (bW v)=jW (bW v1)) (cN h q v1) (∀(r:Bool),fT (dV r↔dE q) (!r) (dG K 100 m h) (∃(y:List (List Value)),aA (dW 1 y) (aX h (cZ a) 1 y) (aA (gM (y.length*8)) (gM y.length) (cT (v.op==1) (aZ v.table 0 (dG K 100 m h) (fU v.table (gQ sc) (dG K 100 m h) (A9 (cJ (bN sc) v.table) h (λs h1=>eF (aG s) 12 (dG K 2 m h1) (K (CV.tup (cJ (dN s) 0)) m h1))))) (v.op==2) (CU (dN a::bK (dN p) (cW v.where_)) h (λc p1 p2=>cT (gI c p1 p2 !=0) (dG K (gI c p1 p2) m h) (decide (kL y>12)) (dG K 2 m h) (vZ h y K m))) (cT (v.op==3) (dH (aG v.columns) 0 (dG K 100 m h) (∃(I:Nat×Sl×Sl×List Int×PH->Prop)(m1:Nat×Sl×Sl×List Int
 ×PH->Nat),(∃(x:Nat×Sl×Sl×List Int×PH),aA (I x) (bF a x.2.1) (aA (eL 94) (bF v.columns (tY x)) (aA (cK v.columns (tY x)) (bD x.1) (aA (rL (yI x)) (m=m) (cQ h (tZ x))))))/\∀(x:Nat×Sl×Sl×List Int×PH),I x->aZ (↑x.1:Int) (aG (tY x)) (aR (λb1 o1=>aA (aT (tY x).a b1 o1) (0<=(↑x.1:Int)) ((↑x.1:Int)<aG (tY x)/\∃(y1:Int),aL m (tZ x) b1 (bA o1 x.1 1) (cL y1)/\A2 (λs l=>∃(n:Int),aA (hX x.2.1 y1=hX s n) (Ints (tZ x) s l) (gP (DK l n) (dG K 100 m (tZ x)) (aR (λb2 o2=>aA (aT x.2.1.a b2 o2) (0<=y1) (y1<aG x.2.1/\∃(y2:Int),aA (aL m (tZ x) b2 (fQ o2 y1 1) (cL y2)) (CZ (yI x)) (iF (jF (yI x))/\∃(x1:Nat×Sl×Sl×List Int×PH),aA (I x1)
 (m1 x1<m1 x) (aA (bF x.2.1 x1.2.1) (eL 94) (aA (bF (tY x) (tY x1)) (cK (tY x) (tY x1)) (aA (fN (bG x.1 1)=bV x1.1) (rM (yI x) y2 (yI x1)) (dQ m m (tZ x) (tZ x1)))))))))))))) (eF (kL (jF (yI x))) 12 (dG K 2 m (tZ x)) (bZ (λs h1=>bE (tZ x) h1 (aX h1 s 1 (jF (yI x))) (K (CV.tup (cJ (dN s) 0)) m h1)))))) (v.op==4) (iN (λs t=>Js (λu o1=>nK (λa1 b1=>aA (dN v.on::bK (dN a) (dN b)=dN s::bK (dN t) (dN u)) (lI h s o1) (aA (Ints h t a1) (Ints h u b1) (∀(r1:Bool),(dV r1↔Good (zI a1 b1) o1)->cT (!r1) (dG K 100 m h) (v.op==4) (∃(y1:List (List Value)),aA (dW 1 y1) (aX h (cZ b) 1 y1) (aA (rE y y1 8) (rF y y1) (eF (kL (y++y1)) 12 (dG K 2 m h) (vZ h (y++
 y1) K m)))) (eF (kL y) 12 (dG K 2 m h) (vZ h y K m)))))))) (cT (v.op==5) (iN (λs t=>Js (λu o1=>nK (λa1 b1=>aA (dN v.on::bK (dN a) (dN b)=dN s::bK (dN t) (dN u)) (lI h s o1) (aA (Ints h t a1) (Ints h u b1) (∀(r1:Bool),(dV r1↔Good (zI a1 b1) o1)->cT (!r1) (dG K 100 m h) (v.op==4) (∃(y1:List (List Value)),aA (dW 1 y1) (aX h (cZ b) 1 y1) (aA (rE y y1 8) (rF y y1) (eF (kL (y++y1)) 12 (dG K 2 m h) (vZ h (y++y1) K m)))) (eF (kL y) 12 (dG K 2 m h) (vZ h y K m)))))))) (v.op==9) (∃(v2:QV),A2 (λt g=>∃(o1:List (Int×Bool))(a1:List Int),aA (bK (bW v) (dN a)=bK (bW v2) (dN t)) (Ints h v2.group g) (aA (iI h v2.order o1) (Ints h t a1) (∀(r1:Bool),(dV r1↔vN a1 g o1 v2.limit)->cT (!r1)
 (dG K 100 m h) (decide (kL y>12)) (dG K 2 m h) (vZ h y K m))))) (iN (λs t=>nK (λa1 b1=>j2 (jP a b) (jP s t) (Ints h s a1) (Ints h t b1) (λr1=>(dV r1↔a1=b1)->cT (!r1) (dG K 100 m h) (v.op==10) (∃(v2:QV),A2 (λt1 g=>∃(o1:List (Int×Bool))(a2:List Int),aA (bK (bW v) (dN a)=bK (bW v2) (dN t1)) (Ints h v2.group g) (aA (iI h v2.order o1) (Ints h t1 a2) (∀(r2:Bool),(dV r2↔vN a2 g o1 v2.limit)->cT (!r2) (dG K 100 m h) (decide (kL y>12)) (dG K 2 m h) (vZ h y K m))))) (eF (kL y) 12 (dG K 2 m h) (vZ h y K m)))))))))))))))
theorem DJ{α:Type}{n:Nat}{l:List α}(h:n=l.length):((n:Int)==0)=true↔l=[]:=by
 rw[beq_iff_eq,h, <-List.length_eq_zero_iff];omega
theorem AG(h:PH):dZ h gV ⟨0,0,dK,dK,⟨none,0,0⟩⟩:=dZ.mk (v:=⟨0,0,dK,dK,⟨none,0,0⟩⟩) (.nil _ _ _ _)
theorem RD:Sound Tryz.prog 123 Td:=by
 refine iB Tryz.func123 ?_;rintro cvs m h K ⟨v,q,rfl,hq,hK⟩;refine⟨V7 v m h,rfl,aD Ra aF,LZ v m h K,by kernel_rfl,?_⟩;dsimp only[LZ,push_cast];obtain⟨op,ta,w,co,on,gr,od,li,args⟩:=q;have a:=hq.parts;have e0:=a.op_;have e1:=a.table_;have e2:=a.limit_;have l1:=DJ a.columns_.slen;have l2:=DJ a.on_.slen;have l3:=DJ a.group_.slen;have l4:=DJ a.order_.slen;simp only[dE]at hK;subst e0 e1 e2;refine⟨λr=>(r=true↔v.op=9\/v.op=10),aB (λh1=>⟨true,by simp at h1;simp[h1],MT⟩) (λh1=>⟨_,?_,MT⟩),λr hr=>?_⟩
 .simp only[beq_eq_false_iff_ne]at h1;simp[h1]
 refine⟨λx=>x.1=r/\(x.2=true↔(v.op=1\/v.table=0)),aB (λh1=>⟨(r,true),⟨rfl,by simp at h1;simp[h1]⟩,MT⟩) (λh1=>⟨(r,_),⟨rfl,?_⟩,MT⟩),?_⟩
 .simp only[beq_eq_false_iff_ne]at h1;simp[h1]
 rintro⟨r,c⟩ ⟨rfl,hc⟩;dsimp only at hc hr⊢
 refine⟨λx=>x.1=r/\(x.2=true↔(v.op=1\/v.table=0)/\(v.op=2\/w=gV)),aB (λh1=>aB (λh2=>⟨(r,true),⟨rfl,⟨λ_=>⟨hc.1 h1,.inl (by simpa using h2)⟩,λ_=>rfl⟩⟩,MT⟩) (λh2=>⟨v.where_,⟨0,0,dK,dK,⟨none,0,0⟩⟩,w,gV,rfl,a.where_,AG h,λr' hr'=>⟨(r,r'),⟨rfl,?_⟩,MT⟩⟩)) (λh1=>⟨(r,false),⟨rfl,?_⟩,MT⟩),?_⟩
 .simp only[beq_eq_false_iff_ne]at h2;simp only[hr',hc.1 h1,h2,true_and,false_or]
 .rw[h1]at hc;simp only[Bool.false_eq_true,false_iff]at hc⊢;exactλe=>hc e.1
 clear hc c;rintro⟨r,c⟩ ⟨rfl,hc⟩;dsimp only at hc hr⊢
 refine⟨λx=>x.1=r/\(x.2=true↔(v.op=1\/v.table=0)/\(v.op=2\/w=gV)/\(v.op=3\/co=[])),aB (λh1=>aB (λh2=>⟨(r,true),⟨rfl,⟨λ_=>⟨(hc.1 h1).1,(hc.1 h1).2,.inl (by simpa using h2)⟩,λ_=>rfl⟩⟩,MT⟩) (λh2=>⟨(r,_),⟨rfl,?_⟩,MT⟩)) (λh1=>⟨(r,false),⟨rfl,?_⟩,MT⟩),?_⟩
 .simp only[beq_eq_false_iff_ne]at h2;simp only[l1,hc.1 h1,h2,true_and,false_or]
 .rw[h1]at hc;simp only[Bool.false_eq_true,false_iff]at hc⊢;exactλe=>hc ⟨e.1,e.2.1⟩
 clear hc c;rintro⟨r,c⟩ ⟨rfl,hc⟩;dsimp only at hc hr⊢
 refine⟨λx=>x.1=r/\(x.2=true↔(v.op=1\/v.table=0)/\(v.op=2\/w=gV)/\(v.op=3\/co=[])/\(v.op=4\/v.op=5\/on=[])),aB (λh1=>aB (λh2=>⟨(r,true),⟨rfl,⟨λ_=>⟨(hc.1 h1).1,(hc.1 h1).2.1,(hc.1 h1).2.2,.inl (by simpa using h2)⟩,λ_=>rfl⟩⟩,MT⟩) (λh2=>aB (λh3=>⟨(r,true),⟨rfl,⟨λ_=>⟨(hc.1 h1).1,(hc.1 h1).2.1,(hc.1 h1).2.2,.inr (.inl (by simpa using h3))⟩,λ_=>rfl⟩⟩,MT⟩) (λh3=>⟨(r,_),⟨rfl,?_⟩,MT⟩))) (λh1=>⟨(r,false),⟨rfl,?_⟩,MT⟩),?_⟩
 .simp only[beq_eq_false_iff_ne]at h2 h3;simp only[l2,hc.1 h1,h2,h3,true_and,false_or]
 .rw[h1]at hc;simp only[Bool.false_eq_true,false_iff]at hc⊢;exactλe=>hc ⟨e.1,e.2.1,e.2.2.1⟩
 clear hc c;rintro⟨r,c⟩ ⟨rfl,hc⟩;dsimp only at hc hr⊢
 refine aB (λh1=>aB (λh2=>hK true ⟨λ_=>?_,λ_=>rfl⟩) (λh2=>aB (λh3=>aB (λh4=>hK _ ?_) (λh4=>hK false ?_)) (λh3=>hK false ?_))) (λh1=>hK false ?_)
 .obtain⟨p1,p2,p3,p4⟩:=hc.1 h1;refine⟨p1,p2,p3,p4,?_⟩;rcases hr.1 h2 with e|e
  .exact .inl e
  .exact .inr (.inl e)
 .obtain⟨p1,p2,p3,p4⟩:=hc.1 h1;have nr:¬(v.op=9\/v.op=10):=λe=>by rw[hr.2 e]at h2;cases h2
  rw[beq_iff_eq];refine⟨λe=>⟨p1,p2,p3,p4,.inr (.inr ⟨l3.1 h3,l4.1 h4,e⟩)⟩,λe=>?_⟩;rcases e.2.2.2.2 with e|e|e
  .exact(nr (.inl e)).elim
  .exact(nr (.inr e)).elim
  .exact e.2.2
 .have nr:¬(v.op=9\/v.op=10):=λe=>by rw[hr.2 e]at h2;cases h2
  refine⟨λe=>(by cases e),λe=>?_⟩;rcases e.2.2.2.2 with e|e|e
  .exact(nr (.inl e)).elim
  .exact(nr (.inr e)).elim
  .rw[l4.2 e.2.1]at h4;cases h4
 .have nr:¬(v.op=9\/v.op=10):=λe=>by rw[hr.2 e]at h2;cases h2
  refine⟨λe=>(by cases e),λe=>?_⟩;rcases e.2.2.2.2 with e|e|e
  .exact(nr (.inl e)).elim
  .exact(nr (.inr e)).elim
  .rw[l3.2 e.1]at h3;cases h3
 .refine⟨λe=>(by cases e),λe=>?_⟩;rw[hc.2 ⟨e.1,e.2.1,e.2.2.1,e.2.2.2.1⟩]at h1;cases h1
theorem B0(l:List Int):dW 1 (l.map eI):=by
 constructor
 .intro e he;obtain⟨x,_,rfl⟩:=List.mem_map.1 he;rfl
 .intro e he u hu;obtain⟨x,_,rfl⟩:=List.mem_map.1 he;simp[eI]at hu;subst hu;rfl
theorem KR.err{r:List Int×Int}{e:Int}(hK:KR K m h r)(hle:PH.le h h')(he:r=iR e):K (.tup [.val (.slice none 0 0),.val (.int .i64 e)]) m h':=by
 subst he;exact hK ⟨none,0,0⟩ h' hle ⟨.nil _ _,by simp[iR]⟩
theorem KR.big{r:List Int×Int}(hK:KR K m h r)(hle:PH.le h h')(he:r=z7 l)(hl:12<l.length):K (.tup [.val (.slice none 0 0),.val (.int .i64 2)]) m h':=
 hK.err hle (by rw[he,z7,if_neg aC];rfl)
theorem KR.ok{r:List Int×Int}{sl:Sl}(hK:KR K m h r)(hle:PH.le h h')(he:r=z7 l)(hl:l.length<=12)(hi:aX h' sl 1 (l.map eI)):K (.tup [.val (.slice sl.a sl.len sl.cap),.val (.int .i64 0)]) m h':=by
 rw[he,z7,if_pos hl]at hK;exact hK sl h' hle ⟨hi,by show l.length<=17592186044416;omega⟩
theorem Y4{p:Sl}{a b:Sl}{la lb:List Int}(hs:fV h s sc)(h8:mW s)(hp:Ints h p ps)(hq:cN h q v)(ha:Ints h a la)(hb:Ints h b lb)(la12:la.length<=12)(lb12:lb.length<=12)(hK:KR K m h (hZ s ps q la lb)):JJ sc p v a b m h K:=by
 dsimp only[JJ,push_cast];have hqr:=hq;obtain⟨op,ta,w,co,on,gr,od,li,args⟩:=q;have x:=hq.parts;have e0:=x.op_;have e1:=x.table_;have e2:=x.limit_;have hsl:=hs.tables.slen;have hal:=ha.slen;have hcl:=x.columns_.slen;have hclen:=x.columns_.len;subst e0 e1 e2;refine⟨v.op,rfl,aE (λh1=>hK.err (.refl _) ?_) (λh1=>⟨v,_,rfl,hqr,λr hr=>aB (λh2=>hK.err (.refl _) ?_) (λh2=>?_)⟩)⟩
 .unfold hZ;rw[if_pos (.inl h1)]
 .unfold hZ;rw[if_pos (.inr λe=>by rw[hr.2 e]at h2;cases h2)]
 have hu:dE (.mk v.op v.table w co on gr od v.limit args):=hr.1 (by simpa using h2);unfold hZ at hK;rw[if_neg (λe=>e.elim h1 (λe=>e hu))]at hK;dsimp only at hK;clear hr h2;refine⟨la.map eI,B0 _,ha.row,by simp;omega,by simp;omega,aB (λc1=>?_) (λc1=>aB (λc2=>?_) (λc2=>aB (λc3=>?_) (λc3=>aB (λc4=>?_) (λc4=>aB (λc5=>?_) (λc5=>aB (λc6=>?_) (λc6=>?_))))))⟩
 .rw[beq_iff_eq]at c1;rw[if_pos c1]at hK;refine aE (λd1=>hK.err (.refl _) (if_neg aC)) (λd1=>aE (λd2=>hK.err (.refl _) (if_neg aC)) (λd2=>⟨sc,s,v.table,rfl,hs,h8,λsl h' hle hi=>?_⟩));rw[if_pos aC]at hK;have:=hi.slen;exact aE (λd3=>hK.big hle rfl aC) (λd3=>hK.ok hle rfl aC hi.row)
 .rw[beq_eq_false_iff_ne]at c1;rw[beq_iff_eq]at c2;rw[if_neg c1,if_pos c2]at hK;refine⟨a,p,v.where_,la,ps,w,rfl,ha,hp,x.where_,aB (λd1=>hK.err (.refl _) (if_neg (by simpa using d1))) (λd1=>?_)⟩;rw[if_pos (by simpa using d1)]at hK;exact aE (λd3=>hK.big (.refl _) rfl (by simp at d3;omega)) (λd3 sl h' hle hi=>hK.ok hle rfl aC hi)
 .rw[beq_eq_false_iff_ne]at c1 c2;rw[beq_iff_eq]at c3;rw[if_neg c1,if_neg c2,if_pos c3]at hK;refine aB (λd1=>hK.err (.refl _) (if_neg λe=>e.1 ((DJ hcl).1 d1))) (λd1=>?_);have hne:co≠[]:=λe=>by rw[(DJ hcl).2 e]at d1;cases d1
  refine⟨λ⟨i,a',co',l,hx⟩=>a'=a/\co'=v.columns/\hx=h/\i<=co.length/\l=(co.take i).map (λc=>la.getD c.toNat 0)/\eH (λ_ c=>DK la c=true) co i,λ⟨i,_,_,_,_⟩=>co.length-i,⟨(0,a,v.columns,[],h),⟨rfl,rfl,rfl,aC,by simp,.zero⟩,MT⟩,?_⟩;rintro⟨i,a,_,l,h⟩ ⟨rfl,rfl,rfl,hi,rfl,hg⟩;dsimp only;refine aE (λhlt=>?_) (λhge=>?_)
  .obtain⟨c,hc⟩:=fD hcl hlt;obtain⟨b1,o1,ea1,r1⟩:=x.columns_.at' hc;refine⟨b1,o1,ea1,aC,hlt,c,.imm r1,a,la,c,rfl,ha,aB (λd2=>hK.err (.refl _) (if_neg λe=>?_)) (λd2=>?_)⟩
   .have:=e.2 i c hc;rw[this]at d2;cases d2
   have d2:DK la c=true:=by simpa using d2
   have d3:=kB.1 d2;obtain⟨b2,o2,ea2,r2⟩:=ha.inb d3.1 d3.2;refine⟨b2,o2,ea2,aC,aC,_,.imm r2,?_,?_,(i+1,a,v.columns,(co.take (i+1)).map (λc=>la.getD c.toNat 0),h),⟨rfl,rfl,rfl,aC,rfl,hg.succ hc d2⟩,by show co.length-(i+1)<co.length-i;omega,?_⟩
   .simp;omega
   .simp;omega
   .rw[fO hc,List.map_append];exact MT
  .rw[if_pos ⟨hne,hg.all aC⟩]at hK;rw[List.take_of_length_le aC];exact aE (λd3=>hK.big (.refl _) rfl (by simp at d3⊢;omega)) (λd3 sl h' hle hi=>hK.ok hle rfl (by simp at d3⊢;omega) hi)
 .rw[beq_eq_false_iff_ne]at c1 c2 c3;have c4':=beq_iff_eq.1 c4;rw[if_neg c1,if_neg c2,if_neg c3,if_pos c4']at hK;refine⟨v.on,a,b,on,la,lb,rfl,x.on_,ha,hb,λr hr=>aB (λd1=>hK.err (.refl _) (if_neg λe=>?_)) (λd1=>aB (λ_=>⟨lb.map eI,B0 _,hb.row,by simp;omega,by simp;omega,?_⟩) (λd2=>?_))⟩
  .rw[hr.2 e]at d1;cases d1
  .rw[if_pos (hr.1 (by simpa using d1))]at hK;rw[<-List.map_append];exact aE (λd3=>hK.big (.refl _) rfl (by simp at d3⊢;omega)) (λd3 sl h' hle hi=>hK.ok hle rfl (by simp at d3⊢;omega) hi)
  .rw[c4]at d2;cases d2
 .rw[beq_eq_false_iff_ne]at c1 c2 c3;have c4':=beq_eq_false_iff_ne.1 c4;rw[beq_iff_eq]at c5;rw[if_neg c1,if_neg c2,if_neg c3,if_neg c4',if_pos c5]at hK;refine⟨v.on,a,b,on,la,lb,rfl,x.on_,ha,hb,λr hr=>aB (λd1=>hK.err (.refl _) (if_neg λe=>?_)) (λd1=>aB (λd2=>?_) (λd2=>?_))⟩
  .rw[hr.2 e]at d1;cases d1
  .rw[c4]at d2;cases d2
  .rw[if_pos (hr.1 (by simpa using d1))]at hK;exact aE (λd3=>hK.big (.refl _) rfl (by simp at d3;omega)) (λd3 sl h' hle hi=>hK.ok hle rfl aC hi)
 .rw[beq_eq_false_iff_ne]at c1 c2 c3 c4 c5;rw[beq_iff_eq]at c6;rw[if_neg c1,if_neg c2,if_neg c3,if_neg c4,if_neg c5,if_pos c6]at hK;refine⟨v,a,gr,od,la,rfl,x.group_,x.order_,ha,λr hr=>aB (λd1=>hK.err (.refl _) (if_neg λe=>?_)) (λd1=>?_)⟩
  .rw[hr.2 e]at d1;cases d1
  rw[if_pos (hr.1 (by simpa using d1))]at hK;exact aE (λd3=>hK.big (.refl _) rfl (by simp at d3;omega)) (λd3 sl h' hle hi=>hK.ok hle rfl aC hi)
 .rw[beq_eq_false_iff_ne]at c1 c2 c3 c4 c5 c6;rw[if_neg c1,if_neg c2,if_neg c3,if_neg c4,if_neg c5,if_neg c6]at hK;refine⟨a,b,la,lb,rfl,ha,hb,λr hr=>aB (λd1=>hK.err (.refl _) ?_) (λd1=>aB (λd2=>⟨v,a,gr,od,la,rfl,x.group_,x.order_,ha,λr2 hr2=>aB (λd4=>hK.err (.refl _) ?_) (λd4=>?_)⟩) (λd2=>?_))⟩
  .have hne:¬la=lb:=λe=>by rw[hr.2 e]at d1;cases d1
   by_cases h10:v.op=10
   .rw[if_pos h10,if_neg (λe=>hne e.1)]
   .rw[if_neg h10,if_neg hne]
  .rw[beq_iff_eq]at d2;rw[if_pos d2,if_neg λe=>by rw[hr2.2 e.2]at d4;cases d4]
  .rw[beq_iff_eq]at d2;rw[if_pos d2,if_pos ⟨hr.1 (by simpa using d1),hr2.1 (by simpa using d4)⟩]at hK;exact aE (λd3=>hK.big (.refl _) rfl (by simp at d3;omega)) (λd3 sl h' hle hi=>hK.ok hle rfl aC hi)
  .rw[beq_eq_false_iff_ne]at d2;rw[if_neg d2,if_pos (hr.1 (by simpa using d1))]at hK;exact aE (λd3=>hK.big (.refl _) rfl (by simp at d3;omega)) (λd3 sl h' hle hi=>hK.ok hle rfl aC hi)
theorem T5:Sound Tryz.prog 95 YE:=by
 refine iB Tryz.func95 ?_;rintro cvs m h K ⟨sc,p,v,a,b,s,ps,q,la,lb,rfl,hs,h8,hp,hq,ha,hb,h1,h2,hK⟩;refine⟨Xr m,rfl,aD Lf (aD RD (aD Dp (aD Gz (aD Eh (aD RC (aD RB (aD RA aF))))))),JJ sc p v a b m h K,by kernel_rfl,?_⟩;exact Y4 hs h8 hp hq ha hb h1 h2 hK
mutual
noncomputable def bO(s:nS)(ps:List Int):Query->List Int×Int
 |.mk op ta w co on gr od li args=>
  match eU s ps args with
  |(ks,e)=>if e=0 then(if(ks.length:Int)=arity op then hZ s ps (.mk op ta w co on gr od li args) (ks.getD 0 []) (ks.getD 1 [])else iR 100)else iR e
noncomputable def eU(s:nS)(ps:List Int):List Query->List (List Int)×Int
 |[]=>([],0)
 |q::qs=>
  match bO s ps q with
  |(k,e)=>if e=0 then(match eU s ps qs with|(ks,e')=>if e'=0 then(k::ks,0)else([],e'))else([],e)
end
theorem xO{s:nS}{ps:List Int}:∀{qs:List Query}{ks:List (List Int)},qs.map (bO s ps)=ks.map (λk=>(k,0))->eU s ps qs=(ks,0)
 |[],[],_=>by simp[eU]
 |q::qs,k::ks,h=>by
  simp only[List.map_cons,List.cons.injEq]at h;simp only[eU,h.1,xO h.2,if_true]
 |[],_::_,h=>by simp at h
 |_::_,[],h=>by simp at h
theorem Ci{s:nS}{ps:List Int}{e:Int}(he:e≠0):∀{qs:List Query}{ks:List (List Int)}{i:Nat}{q:Query},(qs.take i).map (bO s ps)=ks.map (λk=>(k,0))->qs[i]? =some q->(bO s ps q).2=e->eU s ps qs=([],e)
 |[],_,_,_,_,h,_=>by simp at h
 |q::qs,_,0,q',_,h,h2=>by
  simp at h;subst h;simp only[eU,h2,if_neg he]
 |q::qs,[],i+1,_,h,_,_=>by simp at h
 |q::qs,k::ks,i+1,q',h,hq,h2=>by
  simp only[List.take_succ_cons,List.map_cons,List.cons.injEq]at h;have:=Ci he h.2 (by simpa using hq) h2;simp only[eU,h.1,this,if_true,if_neg he]
theorem Vn(l:List Int):(z7 l).1.length<=12:=by unfold z7;split<;>simp_all
theorem TP(s:nS)(ps:List Int)(q:Query)(a b:List Int):(hZ s ps q a b).1.length<=12:=by
 obtain⟨op,ta,w,co,on,gr,od,li,args⟩:=q;unfold hZ;dsimp only
 repeat' split
 all_goals first|exact Vn _|(simp[iR];done)
theorem tH(s:nS)(ps:List Int)(q:Query):(bO s ps q).1.length<=12:=by
 obtain⟨op,ta,w,co,on,gr,od,li,args⟩:=q;simp only[bO]
 repeat' split
 all_goals first|exact TP .. |simp[iR]
noncomputable def fG(s:nS)(ps:List Int)(q:Query):List Int×Int:=
 if eE s=0 then(if ps.all dM=true then(if kZ q=true then bO s ps q else iR 2)else iR 1)else iR (eE s)
def Slices(h:PH)(ss:List Sl)(ks:List (List Int)):Prop:=ss.length=ks.length/\∀(j:Nat) s k,ss[j]? =some s->ks[j]? =some k->Ints h s k
theorem Slices.mono{ss:List Sl}(x:Slices h ss ks)(le:PH.le h h'):Slices h' ss ks:=⟨x.1,λj s k h1 h2=>(x.2 j s k h1 h2).mono le⟩
theorem Slices.snoc{ss:List Sl}{s:Sl}{k:List Int}(x:Slices h ss ks)(hi:Ints h s k):Slices h (ss++[s]) (ks++[k]):=by
 refine⟨by simp[x.1],λj s' k' h1 h2=>?_⟩;by_cases hj:j<ss.length
 .rw[List.getElem?_append_left hj]at h1;rw[List.getElem?_append_left (by rw[<-x.1];exact hj)]at h2;exact x.2 j s' k' h1 h2
 .rw[List.getElem?_append_right aC]at h1;rw[List.getElem?_append_right (by have:=x.1;omega), <-x.1]at h2;cases e:j-ss.length with
  |zero=>rw[e]at h1 h2;simp at h1 h2;subst h1 h2;exact hi
  |succ n=>rw[e]at h1;simp at h1
def BB(N:Nat):Vc.Spec:=λcvs m h K=>∃sc p v s ps q,cvs=[aS sc,cS p,aQ v]/\fV h s sc/\mW s/\Ints h p ps/\cN h q v/\SizeOf.sizeOf q<N/\KR K m h (bO s ps q)
def CD:Vc.Spec:=λcvs m h K=>∃sc p v s ps q,cvs=[aS sc,cS p,aQ v]/\fV h s sc/\Ints h p ps/\cN h q v/\KR K m h (fG s ps q)
noncomputable def XG(N:Nat)(sc:bJ)(p:Sl)(v:QV)(m:MH):Ctx:=
 dL [(65,BB N),(94,Sg),(95,YE)] [(3,{A:=Nat×List Sl×PH,st:=λ⟨i,ss,h⟩=>cD 58 61 [(1,sv p),(3,.at (.ptr 3 0)),(5,.at (.ptr 5 0)),(8,.at (.lst 35)),(14,iv v.args.len),(15,iv i)] [(3,.cells 43 (sc.enc.map .val)),(5,.cells 38 (v.enc.map .val)),(35,.lst 33 1 (ss.map eS))] m h})] [] [] false
noncomputable abbrev qG(a:List Sl):List (List Value):=List.map eS a
noncomputable abbrev rI(a:Nat×List Sl×PH):List (List Value):=qG a.2.1
noncomputable abbrev kJ(a:Nat×List Sl×PH):Nat->Nat->Option Value:=a.2.2
abbrev xJ(a:bJ->Sl->Prop):Prop:=∃(x:bJ)(x1:Sl),a x x1
abbrev BE(a:nS->(List Int)->Prop):Prop:=∃(x:nS)(x1:List Int),a x x1
abbrev E4(a:bJ)(b:Sl)(c:QV)(d:PH)(e:QV->nS->(List Int)->Query->Prop):Prop:=xJ (λx x1=>∃(x2:QV),BE (λx3 x4=>∃(x5:Query),aA (bN a::bK (dN b) (bW c)=bN x::bK (dN x1) (bW x2)) (fV d x3 x) (aA (mW x3) (Ints d x1 x4) (e x2 x3 x4 x5))))
abbrev nO(a:List (List Value))(b:Nat)(c:Prop):Prop:=aA (gM ((a.length+1)*b)) (iF a) c
noncomputable abbrev jC(a:List (List Value))(b:Sl):List (List Value):=a++fE (aU b)
noncomputable abbrev mK(a b:List Value):List (List Value):=a::fE b
noncomputable abbrev Fb(a:Nat×List Sl×PH):List (List Value):=rI a++mK iD iD
abbrev uK(a:List (List Value))(b:Nat)(c:List Value):Prop:=a[b]? =Option.some c
abbrev Di(a b:Nat)(c d:List Value):Prop:=List.take a (List.drop b c)=d
attribute [push_cast] qG rI kJ xJ BE E4 nO jC mK Fb uK Di
def Pc(N:Nat)(sc:bJ)(p:Sl)(v:QV)(m:MH)(h:PH)(K:CV->MH->PH->Prop):Prop:=
  ∃(I:Nat×List Sl×PH->Prop)(m1:Nat×List Sl×PH->Nat),(∃(x:Nat×List Sl×PH),aA (I x) (aI p) (aA (eP 3) fH (aA (eL 35) (bL v.args) (aA (bD x.1) (bP sc) (aA (fB v) (Option.some (Own.lst 33 1 [])=Option.some (Own.lst 33 1 (rI x))) (aA (m=m) (h=kJ x) True))))))/\∀(x:Nat×List Sl×PH),I x->aZ (↑x.1:Int) (aG v.args) (aR (λb o=>aA (aT v.args.a b o) (0<=(↑x.1:Int)) ((↑x.1:Int)<aG v.args/\∃(y:QV),aL m (kJ x) b (bA o x.1 21) y.enc/\E4 sc p y (kJ x) (λv1 s p1 q=>aA (cN (kJ x) q v1) (p9 q N) (bZ (λs1 h1=>bE (kJ x) h1 (Ints h1 s1 (bO s p1 q).1) (eA (bO s p1 q).2 0 (K (CV.tup (bK Cz (CV.val (dO (bO s p1 q).2)))) m h1) (nO (rI x) 24 (∃(x1:Nat×List Sl×PH),aA (I x1) (m1 x1<m1 x) (aA (aI p)
 (eP 3) (aA fH (eL 35) (aA (bL v.args) (fN (bG x.1 1)=bV x1.1) (aA (bP sc) (fB v) (aA (Option.some (Own.lst 33 1 (jC (rI x) s1))=Option.some (Own.lst 33 1 (rI x1))) (m=m) (cQ h1 (kJ x1)))))))))))))))) (jM v.op (λo=>eA (kL (rI x)) (arity o) (dG K 100 m (kJ x)) (aA (gM (((rI x).length+2)*24)) (xG (rI x) 2) (aA (cA 0) (0<kL (Fb x)) (∃(e:List Value),uK (Fb x) 0 e/\∃(y:Sl),aA (Di 1 0 e (aU y)) ((0:Int)<=1) (1<kL (Fb x)/\∃(e1:List Value),uK (Fb x) 1 e1/\∃(y1:Sl),Di 1 0 e1 (aU y1)/\xJ (λs p1=>∃(v1:QV),iN (λa b=>BE (λs1 p2=>∃(q:Query),nK (λl l1=>aA (bN sc::dN p::bW v::bK (dN y) (dN y1)=bN s::dN p1::bW v1::bK (dN a) (dN
 b)) (fV (kJ x) s1 s) (aA (mW s1) (Ints (kJ x) p1 p2) (aA (cN (kJ x) q v1) (Ints (kJ x) a l) (aA (Ints (kJ x) b l1) (l.length<=12) (l1.length<=12/\bZ (λs2 h1=>bE (kJ x) h1 (Ints h1 s2 (hZ s1 p2 q l l1).1) (K (CV.tup (bK (dN s2) (CV.val (dO (hZ s1 p2 q l l1).2)))) m h1))))))))))))))))
def Pr(N:Nat)(sc:bJ)(p:Sl)(v:QV)(m:MH)(h:PH)(K:CV->MH->PH->Prop):Prop:=
  lE (λv1 s=>aA (jW (bN sc)=jW (bN v1)) (fV h s v1) (eA (eE s) 0 (dG K (eE s) m h) (A2 (λs1 l=>aA (fX p=fX s1) (Ints h s1 l) (gP (Ea l) (dG K 1 m h) (qF (λv2 p1=>aA (jW (bW v)=jW (bW v2)) (cN h p1 v2) (gP (kZ p1) (dG K 2 m h) (E4 sc p v h (λv3 s2 p2 q=>aA (cN h q v3) (p9 q N) (bZ (λs3 h1=>bE h h1 (Ints h1 s3 (bO s2 p2 q).1) (K (CV.tup (bK (dN s3) (CV.val (dO (bO s2 p2 q).2)))) m h1)))))))))))))
theorem Gp{qs:List Query}(h:qs.map (bO s ps)=ks.map (λk=>(k,0)))(j:Nat):(ks.getD j []).length<=12:=by
 rw[List.getD_eq_getElem?_getD];cases e:ks[j]? with
 |none=>simp
 |some k=>
  have h1:(qs.map (bO s ps))[j]? =some (k,0):=by rw[h];simp[e]
  rw[List.getElem?_map,Option.map_eq_some_iff]at h1;obtain⟨q,_,h2⟩:=h1;have:=tH s ps q;rw[h2]at this;simpa using this
theorem Slices.pick{ss:List Sl}(x:Slices h ss ks)(j:Nat)(hj:j<ss.length+2):∃y:Sl,(ss.map eS++[[.slice none 0 0],[.slice none 0 0]])[j]? =some [.slice y.a y.len y.cap]/\Ints h y (ks.getD j []):=by
 by_cases h1:j<ss.length
 .refine⟨ss[j],?_,?_⟩
  .rw[List.getElem?_append_left (by simpa using h1)];simp[h1,eS]
  .have h2:j<ks.length:=by rw[<-x.1];exact h1
   rw[List.getD_eq_getElem?_getD,List.getElem?_eq_getElem h2];exact x.2 j _ _ (List.getElem?_eq_getElem h1) (List.getElem?_eq_getElem h2)
 .refine⟨⟨none,0,0⟩,?_,?_⟩
  .rw[List.getElem?_append_right (by simpa using h1)];simp only[List.length_map];have:j-ss.length=0\/j-ss.length=1:=by omega
   rcases this with e|e<;>rw[e]<;>rfl
  .rw[List.getD_eq_getElem?_getD,List.getElem?_eq_none (by have:=x.1;omega)];exact⟨.nil _ _,by simp⟩
theorem SX:∀N,Sound Tryz.prog 65 (BB N)
 |0=>by
  refine eG (fn:=Tryz.f65) (c:=dJ Tryz.f65) Tryz.func65 rfl (by decide) ?_;rintro cvs m h K ⟨sc,p,v,s,ps,q,rfl,_,_,_,_,hN,_⟩;omega
 |N+1=>by
  refine iB Tryz.func65 ?_;rintro cvs m h K ⟨sc,p,v,s,ps,q,rfl,hs,h8,hp,hq,hN,hK⟩;refine⟨XG N sc p v m,rfl,aD (SX N) (aD Lf (aD T5 aF)),Pc N sc p v m h K,by kernel_rfl,?_⟩;dsimp only[Pc,push_cast];have hlt:=@B3 q;have hqr:=hq;obtain⟨op,ta,w,co,on,gr,od,li,args⟩:=q;have x:=hq.parts;have e0:=x.op_;have hl:=x.args_.slen;have hlen:=x.args_.len;simp only[Query.args]at hlt;simp only[bO]at hK;refine⟨λ⟨i,ss,hx⟩=>i<=args.length/\PH.le h hx/\∃ks,Slices hx ss ks/\(args.take i).map (bO s ps)=ks.map (λk=>(k,0)),λ⟨i,_,_⟩=>args.length-i,⟨(0,[],h),⟨aC,.refl _,[],⟨rfl,λj s k h1=>by simp at h1⟩,by simp⟩,MT⟩,?_⟩;rintro⟨i,ss,hx⟩ ⟨hi,hle,ks,hS,hks⟩;have hkl:ks.length=i:=by have:=congrArg List.length hks;simp at this;omega
  have hsl:ss.length=i:=by rw[hS.1,hkl]
  dsimp only;refine aE (λhlt2=>?_) (λhge=>?_)
  .obtain⟨q',hq'⟩:=fD hl hlt2;obtain⟨b1,o1,u,ea1,r1,hru⟩:=(x.args_.mono hle).at hq';refine⟨b1,o1,ea1,aC,hlt2,u,.imm r1,sc,p,u,s,ps,q',rfl,hs.mono hle,h8,hp.mono hle,hru,?_,λsl h' hle' hi'=>aB (λh1=>?_) (λh1=>?_)⟩
   .have:=hlt (List.mem_of_getElem? hq');omega
   .have he:(bO s ps q').2≠0:=by simpa using h1
    rw[Ci he hks hq' rfl]at hK;exact hK.err (hle.trans hle') (if_neg he)
   .have he:(bO s ps q').2=0:=by simpa using h1
    refine⟨by simp;omega,by simp;omega,(i+1,ss++[sl],h'),⟨aC,hle.trans hle',ks++[(bO s ps q').1],(hS.mono hle').snoc hi',?_⟩,by show args.length-(i+1)<args.length-i;omega,?_⟩
    .rw[fO hq',hks,List.map_append];simp only[List.map_cons,List.map_nil];rw[<-he]
    .rw[List.map_append];exact MT
  .rw[List.take_of_length_le aC]at hks;rw[xO hks]at hK;simp only[if_true]at hK;refine⟨v.op,rfl,aB (λh1=>hK.err hle (if_neg λe=>?_)) (λh1=>?_)⟩
   .rw[e0]at h1;simp at h1;omega
   have h1:(ss.length:Int)=arity op:=by rw[e0]at h1;simpa using h1
   rw[if_pos aC]at hK;obtain⟨y0,hy0,i0⟩:=hS.pick 0 aC;obtain⟨y1,hy1,i1⟩:=hS.pick 1 aC;exact⟨by simp;omega,by simp;omega,aC,by simp;omega,_,hy0,y0,rfl,aC,by simp;omega,_,hy1,y1,rfl,sc,p,v,y0,y1,s,ps,_,_,_,rfl,hs.mono hle,h8,hp.mono hle,hqr.mono hle,i0,i1,Gp hks 0,Gp hks 1,λsl h' hle' hi=>hK sl h' (hle.trans hle') hi⟩
theorem TJ(h:eE s=0):mW s:=by
 have hl:BA s:=Classical.byContradiction λhn=>by rw[sV hn]at h;cases h
 intro t ht;obtain⟨j,hj⟩:=List.mem_iff_getElem?.1 ht;exact(hl.2 j t hj).1
theorem Lq:Sound Tryz.prog 25 CD:=by
 refine iB Tryz.func25 ?_;rintro cvs m h K ⟨sc,p,v,s,ps,q,rfl,hs,hp,hq,hK⟩;refine⟨dL [(63,Aw),(64,Kq),(28,NA),(65,BB (SizeOf.sizeOf q+1))] [] [] [] false,rfl,aD Uh (aD Lk (aD Lo (aD (SX _) aF))),Pr (SizeOf.sizeOf q+1) sc p v m h K,by kernel_rfl,?_⟩;dsimp only[Pr,push_cast];unfold fG at hK;refine⟨sc,s,rfl,hs,aB (λh1=>hK.err (.refl _) (if_neg (by simpa using h1))) (λh1=>?_)⟩;have h1:eE s=0:=by simpa using h1
 rw[if_pos h1]at hK;refine⟨p,ps,rfl,hp,aB (λh2=>hK.err (.refl _) (if_neg λe=>by rw[e]at h2;cases h2)) (λh2=>?_)⟩;rw[if_pos (by rw[Bool.not_eq_false']at h2;exact h2)]at hK;refine⟨v,q,rfl,hq,aB (λh3=>hK.err (.refl _) (if_neg λe=>by rw[e]at h3;cases h3)) (λh3=>?_)⟩;rw[if_pos (by rw[Bool.not_eq_false']at h3;exact h3)]at hK;exact⟨sc,p,v,s,ps,q,rfl,hs,TJ h1,hp,hq,aC,hK⟩
def aN(n:NV):CV:=.val (.agg ⟨n.enc⟩)
structure qL(h:PH)(s:nS)(ps:List Int)(q:Query)(ks:List (List Int))(n:NV):Prop where
 s_:fV h s n.s
 ps_:Ints h n.params ps
 q_:cN h q n.q
 ks_:bU h 1 eS (λk sl=>Ints h sl k) n.args ks
 len:∀k∈ks,k.length<=12
def Query.withOf(u q:Query):Query:=match u,q with|.mk _ ta w co on gr od li _,.mk op _ _ _ _ _ _ _ args=>.mk op ta w co on gr od li args
def zH:Vc.Spec:=λcvs m h K=>∃n k u s ps q ks uq,cvs=[aN n,cI k,aQ u]/\qL h s ps q ks n/\cN h uq u/\∀r:Bool,(r=true↔(ks.length:Int)=k/\q=uq.withOf q)->K (cB r) m h
def Kj:Vc.Spec:=λcvs m h K=>∃n s ps q ks,cvs=[aN n]/\qL h s ps q ks n/\K (aQ ⟨0,0,⟨0,0,dK,dK,⟨none,0,0⟩⟩,⟨none,0,0⟩,⟨none,0,0⟩,n.q.group,n.q.order,n.q.limit,⟨none,0,0⟩⟩) m h
def Kk:Vc.Spec:=λcvs m h K=>∃n s ps q ks a,cvs=[aN n]/\qL h s ps q ks n/\ks[0]? =some a/\∀r:Bool,(r=true↔∃op ta w co on gr od li args,q= .mk op ta w co on gr od li args/\vN a gr od li)->K (cB r) m h
def H0(ks:List (List Int)):Query->Prop
 |.mk op ta w co on gr od li _=>ks.length=2/\ta=0/\w=gV/\co=[]/\gr=[]/\od=[]/\li=0/\Good (zI (ks.getD 0 []) (ks.getD 1 [])) on
def Kn:Vc.Spec:=λcvs m h K=>∃n s ps q ks,cvs=[aN n]/\qL h s ps q ks n/\∀r:Bool,(r=true↔H0 ks q)->K (cB r) m h
noncomputable def VQ(n:NV)(h:PH):Ctx:=
 uW [] [(4,{A:=Nat×Nat×Nat×MH,st:=λ⟨i,wd,b,mx⟩=>cD 72 73 [(1,.at (.ptr 1 0)),(3,iv wd),(4,vv (.pointer (some ⟨b,0,none⟩))),(16,sv n.q.group),(17,iv n.q.group.len),(18,iv i)] [(1,.cells 152 (n.enc.map .val))] mx h}),
  (11,{A:=Nat×Nat×MH,st:=λ⟨i,wd,mx⟩=>cD 72 73 [(1,.at (.ptr 1 0)),(3,iv wd),(39,sv n.q.order),(40,iv n.q.order.len),(41,iv i)] [(1,.cells 152 (n.enc.map .val))] mx h})] [] [] [226] [] false
noncomputable def VS(n:NV)(h:PH):Ctx:=
 uW [(177,zH)] [(6,{A:=Nat×Sl×Sl×Nat×Nat×MH,st:=λ⟨i,s,t,b,c,mx⟩=>cD 80 81 [(3,sv s),(4,sv t),(5,vv (.pointer (some ⟨b,0,none⟩))),(6,vv (.pointer (some ⟨c,0,none⟩))),(28,sv n.q.on),(29,iv n.q.on.len),(30,iv i)] [] mx h})] [] [] [226] [] false
noncomputable abbrev lX(a:QV):Value:=dO a.table
noncomputable abbrev lW(a:QV):Value:=dO a.where_.op
noncomputable abbrev lY(a:QV):Int:=a.where_.cmp
noncomputable abbrev jS(a:OV):Value:=dO a.kind
noncomputable abbrev gC(a:QV):OV:=a.where_.left
noncomputable abbrev sP(a:OV):Value:=dO a.index
noncomputable abbrev nF(a:OV):Value:=dO a.value.int
noncomputable abbrev E0(a b:QV)(c:List Value):CV:=lF (aJ (dO a.op) (lX b) (aJ (lW b) (dO (lY b)) (aJ (jS (gC b)) (sP (gC b)) (aJ (dO (nL (gC b))) (nF (gC b)) c))))
noncomputable abbrev lH(a:OV):Value:=Value.string a.value.text
noncomputable abbrev eX(a:QV):OV:=a.where_.right
noncomputable abbrev nC(a:QV):Value:=dT a.where_.args
noncomputable abbrev nD(a:QV):Value:=dT a.columns
noncomputable abbrev qH(a:QV):Value:=dT a.group
noncomputable abbrev qI(a:QV):Value:=dT a.order
attribute [push_cast] lX lW lY jS gC sP nF E0 lH eX nC nD qH qI
def LO(n:NV)(k:Int)(u:QV)(m:MH)(h:PH)(K:CV->MH->PH->Prop):Prop:=
  dH (aG n.args) k (∃(v:QV),qF (λw p=>∃(q:Query),j2 (bK (bW n.q) (E0 n.q u (aJ (lH (gC u)) (jS (eX u)) (aJ (sP (eX u)) (dO (nL (eX u))) (aJ (nF (eX u)) (lH (eX u)) (aJ (nC u) (nD u) (aJ (dT u.on) (qH u) (aJ (qI u) (dO u.limit) (aU n.q.args))))))))) (bK (bW v) (bW w)) (cN h p v) (cN h q w) (λr=>(dV r↔p=q)->K (By r) m h))) (K aW m h)
noncomputable abbrev C5(a:List Value):List Value:=aJ bC bC (aJ bC bC (aJ bC bC (aJ bC bC a)))
noncomputable abbrev sZ(a:Value)(b:List Value):List Value:=aJ Sj bC (aJ bC bC (aJ bC Sj (aJ u0 a b)))
noncomputable abbrev H8(a:QV):List Value:=aJ u0 (qH a) (aJ (qI a) (dO a.limit) iD)
attribute [push_cast] C5 sZ H8
def LM(n:NV)(m:MH)(h:PH)(K:CV->MH->PH->Prop):Prop:=
  K (lF (C5 (sZ u0 (H8 n.q)))) m h
abbrev nM(a:NV)(b:MH)(c:PH)(d:Nat->Nat->Sl->Prop):Prop:=aR (λx x1=>aA (aT a.args.a x x1) ((0:Int)<=0) (0<aG a.args/\∃(x2:Sl),aL b c x (x1+0) (aU x2)/\d x x1 x2))
noncomputable abbrev tF:Value:=Value.bool false
abbrev H7(a:MH)(b:PH)(c:Nat->MH->Prop):Prop:=∀(x:Nat)(x1:MH),aM (cC a b x) (bI a x1 x (aJ tF tF (aJ tF tF (aJ tF tF (aJ tF tF (aJ tF tF (aJ tF tF [])))))) 226) (c x x1)
abbrev Ip(a:bJ)(b:List At):Prop:=eQ (oQ 152 (dU (fP a.version) (xW a.tables) b))
noncomputable abbrev AN(a:QV)(b:Sl)(c:List At):List At:=pQ a.where_ (dU (xW a.columns) (xW b) c)
noncomputable abbrev Io(a:QV)(b:List At):List At:=fP a.table::AN a a.on (dU (xW a.group) (xW a.order) (dU (fP a.limit) (xW a.args) b))
abbrev AV(a:NV):Prop:=Ip a.s (dU (xW a.params) (fP a.q.op) (Io a.q (qJ a.args)))
abbrev oJ(a:MH)(b c:Nat)(d:List Value)(e:MH->Prop):Prop:=gK (λx x1=>aA (uO a b (eR x x1 0)) (fC c x) (∀(x2:MH),bI a x2 b (splice x.toList c d) x1->e x2))
attribute [push_cast] nM tF H7 Ip AN Io AV oJ
def Dr(n:NV)(m:MH)(h:PH)(K:CV->MH->PH->Prop):Prop:=
  nM n m h (λ_ _ y=>H7 m h (λb m1=>∃(I:Nat×Nat×Nat×MH->Prop)(m2:Nat×Nat×Nat×MH->Nat),(∃(x:Nat×Nat×Nat×MH),aA (I x) eZ (aA (bV y.len=bV x.2.1) (cX b (iQ x.2)) (aA (aI n.q.group) (bL n.q.group) (aA (bD x.1) (AV n) (dQ m1 (fS x.2) h h)))))/\∀(x:Nat×Nat×Nat×MH),I x->aZ (↑x.1:Int) (aG n.q.group) (aR (λb1 o=>aA (aT n.q.group.a b1 o) (0<=(↑x.1:Int)) ((↑x.1:Int)<aG n.q.group/\∃(y1:Int),aL (fS x.2) h b1 (bA o x.1 1) (cL y1)/\aZ y1 0 (mJ K x.2 h) (fU y1 (↑x.2.1:Int) (mJ K x.2 h) (aA (cA y1) (y1<12) (∃(y2:Bool),aL (fS x.2) h (iQ x.2) (fQ 0 y1 1) (iO (Value.bool y2))/\branch y2 (mJ K x.2 h) (aA (cA y1) (y1<12) (oJ (fS x.2) (iQ x.2) (fQ 0 y1 1) (iO zU) (fun
 m3=>∃(x1:Nat×Nat×Nat×MH),aA (I x1) (m2 x1<m2 x) (aA eZ (bY x.2.1 x1.2.1) (aA (cX (iQ x.2) (iQ x1.2)) (aI n.q.group) (aA (bL n.q.group) (fN (bG x.1 1)=bV x1.1) (cO (AV n) m3 (fS x1.2) h h))))))))))))) (∃(I1:Nat×Nat×MH->Prop)(m3:Nat×Nat×MH->Nat),MQ (λx1=>aA (I1 x1) eZ (aA (bY x.2.1 (iQ x1)) (aI n.q.order) (aA (bL n.q.order) (bD x1.1) (aA (AV n) (fS x.2=fS x1) (cQ h h))))) (λx1=>I1 x1->aZ (↑x1.1:Int) (aG n.q.order) (aR (λb1 o=>aA (aT n.q.order.a b1 o) (0<=(↑x1.1:Int)) ((↑x1.1:Int)<aG n.q.order/\∃(y1:Int×Bool),aL (fS x1) h b1 (bA o x1.1 2) (yL y1)/\aZ y1.1 0 (mJ K x1 h) (fU y1.1 (↑(iQ x1):Int) (mJ K x1 h) (∃(x2:Nat×Nat×MH),aA (I1 x2) (m3 x2<m3 x1) (aA
 eZ (bY (iQ x1) (iQ x2)) (aA (aI n.q.order) (bL n.q.order) (aA (fN (bG x1.1 1)=bV x2.1) (AV n) (dQ (fS x1) (fS x2) h h))))))))) (B9 (aG n.q.order) 12 (fU n.q.limit 0 (K (By (decide (n.q.limit<=100))) (fS x1) h) (mJ K x1 h)) (mJ K x1 h))))))
abbrev Gi(a:Int->QV->Prop):Prop:=∃(x:Int)(x1:QV),a x x1
abbrev AS(a:nS->(List Int)->Query->(List (List Int))->Prop):Prop:=BE (λx x1=>∃(x2:Query)(x3:List (List Int)),a x x1 x2 x3)
abbrev yK(a:NV->Int->QV->nS->(List Int)->Query->(List (List Int))->Query->Prop):Prop:=∃(x:NV),Gi (λx1 x2=>AS (λx3 x4 x5 x6=>∃(x7:Query),a x x1 x2 x3 x4 x5 x6 x7))
noncomputable abbrev fA(a:NV)(b:List Value):List Value:=aJ (sP (gC a.q)) (dO (nL (gC a.q))) (aJ (nF (gC a.q)) (lH (gC a.q)) (aJ (jS (eX a.q)) (sP (eX a.q)) (aJ (dO (nL (eX a.q))) (nF (eX a.q)) b)))
noncomputable abbrev tD(a:QV):Value:=dT a.args
noncomputable abbrev eY(a:NV):List Value:=aJ (lH (eX a.q)) (nC a.q) (aJ (nD a.q) (dT a.q.on) (aJ (qH a.q) (qI a.q) (aJ (dO a.q.limit) (tD a.q) (aU a.args))))
abbrev yJ(a:List (List Int))(b:Int):Prop:=(↑a.length:Int)=b
abbrev Ca(a b:Query):Prop:=a=Query.withOf b a
noncomputable abbrev iP(a:Nat×Sl×Sl×Nat×Nat×MH):Nat×Nat×MH:=a.2.2.2
attribute [push_cast] Gi AS yK fA tD eY yJ Ca iP
def Ds(n:NV)(m:MH)(h:PH)(K:CV->MH->PH->Prop):Prop:=
  yK (λn1 k u s p q k1 u1=>j2 (lF (aJ (pI n.s) (pH n.s) (aJ (dT n.params) (dO n.q.op) (aJ (lX n.q) (lW n.q) (aJ (dO (lY n.q)) (jS (gC n.q)) (fA n (eY n))))))::bK (eD 2) (lF (C5 (sZ u0 (aJ (dT n.q.on) u0 (aJ u0 bC iD)))))) (lF (aJ (pI n1.s) (pH n1.s) (aJ (dT n1.params) (dO n1.q.op) (aJ (lX n1.q) (lW n1.q) (aJ (dO (lY n1.q)) (jS (gC n1.q)) (fA n1 (eY n1))))))::bK (eD k) (bW u)) (qL h s p q k1 n1) (cN h u1 u) (λr=>fT (dV r↔yJ k1 k/\Ca q u1) (!r) (K aW m h) (nM n m h (λ_ _ y=>aR (λb o=>aA (aT n.args.a b o) ((0:Int)<=1) (1<aG n.args/\∃(y1:Sl),aL m h b (o+1) (aU y1)/\H7 m h (λb1 m1=>H7 m1 h (λb2 m2=>∃(I:Nat×Sl×Sl×Nat×Nat×MH->Prop)(m3:Nat×Sl
 ×Sl×Nat×Nat×MH->Nat),(∃(x:Nat×Sl×Sl×Nat×Nat×MH),aA (I x) (bF y x.2.1) (aA (bF y1 x.2.2.1) (cX b1 (iP x).1) (aA (cX b2 (iQ (iP x))) (aI n.q.on) (aA (bL n.q.on) (bD x.1) (dQ m2 (fS (iP x)) h h)))))/\∀(x:Nat×Sl×Sl×Nat×Nat×MH),I x->aZ (↑x.1:Int) (aG n.q.on) (aR (λb3 o1=>aA (aT n.q.on.a b3 o1) (0<=(↑x.1:Int)) ((↑x.1:Int)<aG n.q.on/\∃(y2:Int×Int),aA (aL (fS (iP x)) h b3 (bA o1 x.1 2) (uB y2)) (cA 0) (aA ((0:Int)<2) (cA 1) ((1:Int)<2/\aZ y2.1 0 (mJ K (iP x) h) (fU y2.1 (aG x.2.1) (mJ K (iP x) h) (aZ y2.2 0 (mJ K (iP x) h) (fU y2.2 (aG x.2.2.1) (mJ K (iP x) h) (aR (λb4 o2=>aA (aT x.2.1.a b4 o2) (0<=y2.1) (y2.1<aG x.2.1/\∃(y3:Int),aL (fS
 (iP x)) h b4 (fQ o2 y2.1 1) (cL y3)/\aR (λb5 o3=>aA (aT x.2.2.1.a b5 o3) (0<=y2.2) (y2.2<aG x.2.2.1/\∃(y4:Int),aL (fS (iP x)) h b5 (fQ o3 y2.2 1) (cL y4)/\eA y3 y4 (mJ K (iP x) h) (aA (cA y2.1) (y2.1<12) (∃(y5:Bool),aL (fS (iP x)) h (iP x).1 (fQ 0 y2.1 1) (iO (Value.bool y5))/\branch y5 (mJ K (iP x) h) (aA (cA y2.2) (y2.2<12) (∃(y6:Bool),aL (fS (iP x)) h (iQ (iP x)) (fQ 0 y2.2 1) (iO (Value.bool y6))/\branch y6 (mJ K (iP x) h) (aA (cA y2.1) (y2.1<12) (oJ (fS (iP x)) (iP x).1 (fQ 0 y2.1 1) (iO zU) (λm4=>aA (cA y2.2) (y2.2<12) (oJ m4 (iQ (iP x)) (fQ 0 y2.2 1) (iO zU) (λm5=>∃(x1:Nat×Sl×Sl×Nat×Nat×MH),aA (I x1) (m3 x1<m3 x) (aA (bF x.2.1
 x1.2.1) (bF x.2.2.1 x1.2.2.1) (aA (cX (iP x).1 (iP x1).1) (cX (iQ (iP x)) (iQ (iP x1))) (aA (aI n.q.on) (bL n.q.on) (cO (fN (bG x.1 1)=bV x1.1) m5 (fS (iP x1)) h h)))))))))))))))))))))))))) (K fJ (fS (iP x)) h)))))))))
structure TA(m:MH)(b:Nat)(seen:List Int):Prop where
 ex:∃bs:List Bool,m b=some (.cells ⟨bs.map Value.bool⟩ 226 (0,0))/\bs.length=12/\∀k:Nat,k<12->(bs[k]? =some true↔(k:Int)∈seen)
theorem TA.zero(h:m b=some (.cells ⟨[.bool false,.bool false,.bool false,.bool false,.bool false,.bool false,.bool false,.bool false,.bool false,.bool false,.bool false,.bool false]⟩ 226 (0,0))):TA m b []:=
 ⟨⟨List.replicate 12 false,h,rfl,λk hk=>by rw[List.getElem?_replicate];simp[hk]⟩⟩
theorem TA.look{seen:List Int}(x:TA m b seen){n:Int}(h0:0<=n)(h1:n<12):∃y:Bool,aL m h b (0+n.toNat*1) [.bool y]/\(y=true↔n∈seen):=by
 obtain⟨bs,e,hl,hs⟩:=x.ex;have hk:n.toNat<bs.length:=by omega
 refine⟨bs[n.toNat],.lent _ _ _ e ?_,?_⟩
 .simp only[Nat.zero_add,Nat.mul_one,List.length_cons,List.length_nil];rw[List.drop_eq_getElem_cons (by simpa using hk)];simp
 .have:=hs n.toNat aC;rw[List.getElem?_eq_getElem hk]at this;rw[show((n.toNat:Nat):Int)=n by omega]at this;simpa using this
theorem TA.store{seen:List Int}(x:TA m b seen){n:Int}(h0:0<=n)(h1:n<12):∃(cs:Array Value)(E:TypeId),uO m b (.cells cs E (0,0))/\0+n.toNat*1<cs.size/\∀m',jJ m m' b (.cells ⟨splice cs.toList (0+n.toNat*1) [.bool true]⟩ E (0,0))->TA m' b (seen++[n]):=by
 obtain⟨bs,e,hl,hs⟩:=x.ex;have hk:n.toNat<bs.length:=by omega
 refine⟨_,_,⟨e⟩,by simpa using hk,λm' hu=>⟨bs.set n.toNat true,?_,by simpa using hl,λk hk'=>?_⟩⟩
 .rw[hu.at_];congr 3;simp only[splice,Nat.zero_add,Nat.mul_one,List.length_cons,List.length_nil];rw[List.set_eq_take_append_cons_drop,if_pos hk];simp[List.map_take,List.map_drop]
 .rw[List.getElem?_set,List.mem_append,List.mem_singleton];by_cases e':n.toNat=k
  .subst e';rw[if_pos rfl,if_pos hk];exact⟨λ_=>.inr aC,λ_=>rfl⟩
  .rw[if_neg e',hs k hk'];exact⟨.inl,λh=>h.elim id λe=>by omega⟩
theorem TA.other{b':Nat}{seen:List Int}(x:TA m b seen)(hne:b≠b')(ho:∀c,c≠b'->m' c=m c):TA m' b seen:=by
 obtain⟨bs,e,hl,hs⟩:=x.ex;exact⟨bs,by rw[ho b hne,e],hl,hs⟩
theorem qL.arg{n:NV}(x:qL h s ps q ks n){j:Nat}{k:List Int}(hk:ks[j]? =some k):∃b o sl,n.args.a=some ⟨b,o,none⟩/\aY h b (o+j*1) [.slice sl.a sl.len sl.cap]/\Ints h sl k/\k.length<=12/\j<n.args.len:=by
 obtain⟨b,o,sl,e,r,hi⟩:=x.ks_.at hk;have:=(List.getElem?_eq_some_iff.1 hk).1;exact⟨b,o,sl,e,r,hi,x.len k (List.mem_of_getElem? hk),by rw[x.ks_.slen];exact this⟩
theorem XY{n:NV}(hK:K (aQ ⟨0,0,⟨0,0,dK,dK,⟨none,0,0⟩⟩,⟨none,0,0⟩,⟨none,0,0⟩,n.q.group,n.q.order,n.q.limit,⟨none,0,0⟩⟩) m h):LM n m h K:=hK
theorem qK:Sound Tryz.prog 177 zH:=by
 refine iB Tryz.func177 ?_;rintro cvs m h K ⟨n,k,u,s,ps,q,ks,uq,rfl,hn,hu,hK⟩;refine⟨dL [(204,ZB)] [] [] [] false,rfl,aD Q0 aF,LO n k u m h K,by kernel_rfl,?_⟩;dsimp only[LO,push_cast];have hl:=hn.ks_.slen;have hq:=hn.q_;have hq2:=hn.q_;obtain⟨op,ta,w,co,on,gr,od,li,args⟩:=q;obtain⟨op',ta',w',co',on',gr',od',li',args'⟩:=uq;have x:=hu.parts;have y:=hq.parts;refine aB (λh1=>⟨n.q,⟨n.q.op,u.table,u.where_,u.columns,u.on,u.group,u.order,u.limit,n.q.args⟩,_,.mk op ta' w' co' on' gr' od' li' args,rfl,hq2,nI.rep ⟨y.op_,x.table_,x.where_,x.columns_,x.on_,x.group_,x.order_,x.limit_,y.args_⟩,λr hr=>hK r (hr.trans ⟨λe=>⟨?_,e⟩,λe=>e.2⟩)⟩) (λh1=>hK false ⟨λe=>(by cases e),λe=>?_⟩)
 .have:(n.args.len:Int)=k:=by simpa using h1
  omega
 .have:(n.args.len:Int)≠k:=by simpa using h1
  have:=e.1;omega
theorem JW:Sound Tryz.prog 181 Kj:=by
 refine iB Tryz.func181 ?_;rintro cvs m h K ⟨n,s,ps,q,ks,rfl,hn,hK⟩;refine⟨dL [] [] [] [] false,rfl,aF,LM n m h K,by kernel_rfl,?_⟩;exact XY hK
theorem XX{n:NV}{op:Int}{on:List (Int×Int)}{args:List Query}(hn:qL h s ps (.mk op ta w co on gr od li args) ks n)(ha:ks[0]? =some a)(hK:∀r:Bool,(r=true↔vN a gr od li)->K (cB r) m h):Dr n m h (kD h K):=by
 dsimp only[Dr,push_cast];have x:=hn.q_.parts;have gl:=x.group_.slen;have glen:=x.group_.len;have ol:=x.order_.slen;have olen:=x.order_.len;have el:=x.limit_;obtain⟨b0,o0,sl,e0,r0,hi0,hl12,hlen⟩:=hn.arg ha;have sla:=hi0.slen;have bad:∀mx,Sub m mx->¬vN a gr od li->kD h K (.val (.bool false)) mx h:=λmx hm hn=>.sub hm (hK false ⟨λe=>(by cases e),λe=>(hn e).elim⟩);refine⟨b0,o0,e0,aC,aC,sl,.imm (by simpa using r0),λb m1 hb hm1=>?_⟩;refine⟨λ⟨i,wd,b',mx⟩=>wd=a.length/\b'=b/\i<=gr.length/\Sub m mx/\TA mx b (gr.take i)/\eH (Ha a) gr i,λ⟨i,_,_,_⟩=>gr.length-i,⟨(0,sl.len,b,m1),⟨sla,rfl,aC,(Sub.refl m).upd hb.m_ hm1.other,.zero hm1.at_,.zero⟩,MT⟩,?_⟩;rintro⟨i,wd,b,mx⟩ ⟨rfl,rfl,hi,hsub,harr,hg⟩;dsimp only;refine aE (λhlt=>?_) (λhge=>?_)
 .obtain⟨c,hc⟩:=fD gl hlt;obtain⟨b1,o1,e1,r1⟩:=x.group_.at' hc;have gbad:¬Ha a (gr.take i) c->kD h K (.val (.bool false)) mx h:=λhn=>bad mx hsub λhh=>Good.not hc hn hh.group_;refine⟨b1,o1,e1,aC,hlt,c,.imm r1,aE (λh1=>gbad λhh=>?_) (λh1=>aE (λh2=>gbad λhh=>?_) (λh2=>?_))⟩
  .have:=kB.1 hh.1;omega
  .have:=kB.1 hh.1;omega
  obtain⟨y,hy,hys⟩:=harr.look (h:=h) (n:=c) aC aC;refine⟨aC,aC,y,hy,aB (λh3=>gbad λhh=>hh.2 (hys.1 h3)) (λh3=>?_)⟩;obtain⟨cs,E,hat,hsz,hst⟩:=harr.store (n:=c) aC aC;refine⟨aC,aC,cs,E,hat,hsz,λm2 hm2=>⟨(i+1,a.length,b,m2),⟨rfl,rfl,aC,hsub.upd hb.m_ hm2.other,?_,hg.succ hc ⟨kB.2 ⟨aC,aC⟩,λe=>?_⟩⟩,by show gr.length-(i+1)<gr.length-i;omega,MT⟩⟩
  .have:=hst m2 hm2
   rwa [List.take_add_one,hc]
  .rw[hys.2 e]at h3;cases h3
 have gg:=hg.all aC;refine⟨λ⟨i,wd,mx⟩=>wd=a.length/\i<=od.length/\Sub m mx/\eH (Ko a) od i,λ⟨i,_,_⟩=>od.length-i,⟨(0,a.length,mx),⟨rfl,aC,hsub,.zero⟩,MT⟩,?_⟩;clear hi hg hge hsub harr mx;rintro⟨i,wd,mx⟩ ⟨rfl,hi,hsub,hoi⟩;dsimp only;refine aE (λhlt=>?_) (λhge=>?_)
 .obtain⟨c,hc⟩:=fD ol hlt;obtain⟨b1,o1,e1,r1⟩:=x.order_.at hc;have obad:¬Ko a (od.take i) c->kD h K (.val (.bool false)) mx h:=λhn=>bad mx hsub λhh=>Good.not hc hn hh.order_;refine⟨b1,o1,e1,aC,hlt,c,.imm r1,aE (λh1=>obad λhh=>?_) (λh1=>aE (λh2=>obad λhh=>?_) (λh2=>⟨(i+1,a.length,mx),⟨rfl,aC,hsub,hoi.succ hc (kB.2 ⟨aC,aC⟩)⟩,by show od.length-(i+1)<od.length-i;omega,MT⟩))⟩
  .have:=kB.1 (show DK a c.1=true from hh);omega
  .have:=kB.1 (show DK a c.1=true from hh);omega
 have oo:=hoi.all aC;rw[el];refine aE (λh1=>aE (λh2=>?_) (λh2=>bad mx hsub λhh=>?_)) (λh1=>bad mx hsub λhh=>?_)
 .exact .sub hsub (hK (decide (li<=100)) ⟨λe=>⟨gg,oo,aC,h2,by simpa using e⟩,λe=>decide_eq_true e.high⟩)
 .have:=hh.low;omega
 .have:=hh.len_;omega
theorem JV:Sound Tryz.prog 182 Kk:=by
 refine Fu Tryz.func182 ?_;rintro cvs m h K ⟨n,s,ps,q,ks,a,rfl,hn,ha,hK⟩;refine⟨VQ n h,rfl,aF,Dr n m h (kD h K),by kernel_rfl,?_⟩;dsimp only[Dr,push_cast];obtain⟨op,ta,w,co,on,gr,od,li,args⟩:=q;refine XX hn ha (λr hr=>hK r (hr.trans ⟨λe=>⟨_,_,_,_,_,_,_,_,_,rfl,e⟩,?_⟩));rintro⟨_,_,_,_,_,_,_,_,_,e,hr⟩;cases e;exact hr
theorem Qe{on:List (Int×Int)}{sl:Sl}(hon:lI h sl on):cN h (.mk 0 0 gV [] on [] [] 0 []) ⟨0,0,⟨0,0,dK,dK,⟨none,0,0⟩⟩,⟨none,0,0⟩,sl,⟨none,0,0⟩,⟨none,0,0⟩,0,⟨none,0,0⟩⟩:=
 nI.rep ⟨rfl,rfl,AG h,⟨.nil _ _,by simp⟩,hon,⟨.nil _ _,by simp⟩,⟨.nil _ _,by simp⟩,rfl,.nil _ _ _ _⟩
theorem JX:Sound Tryz.prog 178 Kn:=by
 refine Fu Tryz.func178 ?_;rintro cvs m h K ⟨n,s,ps,q,ks,rfl,hn,hK⟩;refine⟨VS n h,rfl,aD qK aF,Ds n m h (kD h K),by kernel_rfl,?_⟩;dsimp only[Ds,push_cast];obtain⟨op,ta,w,co,on,gr,od,li,args⟩:=q;show Ds n m h (kD h K);dsimp only[Ds,push_cast];have x:=hn.q_.parts;have ol:=x.on_.slen;have olen:=x.on_.len;have bad:∀mx,Sub m mx->¬H0 ks (.mk op ta w co on gr od li args)->kD h K (.val (.bool false)) mx h:=λmx hm hn=>.sub hm (hK false ⟨λe=>(by cases e),λe=>(hn e).elim⟩);refine⟨n,2,⟨0,0,⟨0,0,dK,dK,⟨none,0,0⟩⟩,⟨none,0,0⟩,n.q.on,⟨none,0,0⟩,⟨none,0,0⟩,0,⟨none,0,0⟩⟩,s,ps,_,ks,.mk 0 0 gV [] on [] [] 0 [],rfl,hn,Qe x.on_,λr hr=>aB (λh1=>bad m (Sub.refl m) λhh=>?_) (λh1=>?_)⟩
 .have:r=true:=hr.2 ⟨by have:=hh.1;omega,by obtain⟨_,rfl,rfl,rfl,rfl,rfl,rfl,_⟩:=hh;rfl⟩;rw[this]at h1;cases h1
 obtain⟨hk2,heq⟩:=hr.1 (by simpa using h1);simp only[Query.withOf,Query.mk.injEq]at heq;obtain⟨_,rfl,rfl,rfl,_,rfl,rfl,rfl,_⟩:=heq
 obtain⟨a0,a1,rfl⟩:∃a0 a1,ks=[a0,a1]:=by
  match ks,hk2 with
  |[a0,a1],_=>exact⟨a0,a1,rfl⟩
  |[],h=>simp at h
  |[_],h=>simp at h
  |_::_::_::_,h=>simp at h;omega
 obtain⟨b0,o0,s0,e0,r0,i0,l0,j0⟩:=hn.arg (j:=0) rfl;obtain⟨b1,o1,s1,e1,r1,i1,l1,j1⟩:=hn.arg (j:=1) rfl;have sl0:=i0.slen;have sl1:=i1.slen;have bad:∀mx,Sub m mx->¬Good (zI a0 a1) on->kD h K (.val (.bool false)) mx h:=λmx hm hn=>bad mx hm λhh=>hn hh.2.2.2.2.2.2.2;refine⟨b0,o0,e0,aC,aC,s0,.imm (by simpa using r0),b1,o1,e1,aC,aC,s1,.imm (by simpa using r1),λb m1 hb hm1 c m2 hc hm2=>?_⟩;have hne:b≠c:=λe=>by have:=hc.m_;rw[<-e,hm1.at_]at this;cases this
 have hs1:Sub m m1:=(Sub.refl m).upd hb.m_ hm1.other;have hcm:m c=none:=hs1.free hc.m_
 refine⟨λ⟨i,s',t',b',c',mx⟩=>s'=s0/\t'=s1/\b'=b/\c'=c/\i<=on.length/\Sub m mx/\TA mx b ((on.take i).map Prod.fst)/\TA mx c ((on.take i).map Prod.snd)/\eH (zI a0 a1) on i,λ⟨i,_,_,_,_,_⟩=>on.length-i,
  ⟨(0,s0,s1,b,c,m2),⟨rfl,rfl,rfl,rfl,aC,hs1.upd hcm hm2.other,(TA.zero hm1.at_).other hne hm2.other,.zero hm2.at_,.zero⟩,MT⟩,?_⟩
 rintro⟨i,s0,s1,b,c,mx⟩ ⟨rfl,rfl,rfl,rfl,hi,hsub,hA,hB,hg⟩;dsimp only;refine aE (λhlt=>?_) (λhge=>.sub hsub (hK true ⟨λ_=>⟨rfl,rfl,rfl,rfl,rfl,rfl,rfl,hg.all aC⟩,λ_=>rfl⟩));obtain⟨p,hp⟩:=fD ol hlt;obtain⟨bp,op',ep,rp⟩:=x.on_.at hp;have pbad:¬zI a0 a1 (on.take i) p->kD h K (.val (.bool false)) mx h:=λhn=>bad mx hsub (Good.not hp hn);refine⟨bp,op',ep,aC,hlt,p,.imm rp,aC,aC,aC,aC,aE (λd1=>pbad λhh=>?_) (λd1=>aE (λd2=>pbad λhh=>?_) (λd2=>aE (λd3=>pbad λhh=>?_) (λd3=>aE (λd4=>pbad λhh=>?_) (λd4=>?_))))⟩
 .have:=kB.1 hh.1;omega
 .have:=kB.1 hh.1;omega
 .have:=kB.1 hh.2.1;omega
 .have:=kB.1 hh.2.1;omega
 obtain⟨b2,o2,e2,r2⟩:=i0.inb (n:=p.1) aC aC;obtain⟨b3,o3,e3,r3⟩:=i1.inb (n:=p.2) aC aC;obtain⟨y,hy,hys⟩:=hA.look (h:=h) (n:=p.1) aC aC;obtain⟨z,hz,hzs⟩:=hB.look (h:=h) (n:=p.2) aC aC;obtain⟨cs,E,hat,hsz,hst⟩:=hA.store (n:=p.1) aC aC;refine⟨b2,o2,e2,aC,aC,_,.imm r2,b3,o3,e3,aC,aC,_,.imm r3,aB (λd5=>pbad λhh=>?_) (λd5=>⟨aC,aC,y,hy,aB (λd6=>pbad λhh=>?_) (λd6=>⟨aC,aC,z,hz,aB (λd7=>pbad λhh=>?_) (λd7=>⟨aC,aC,cs,E,hat,hsz,λm3 hm3=>?_⟩)⟩)⟩)⟩
 .rw[hh.2.2.1]at d5;simp at d5
 .obtain⟨q,hq,e⟩:=List.mem_map.1 (hys.1 d6);exact(hh.2.2.2 q hq).1 e
 .obtain⟨q,hq,e⟩:=List.mem_map.1 (hzs.1 d7);exact(hh.2.2.2 q hq).2 e
 have hA3:=hst m3 hm3;have hB3:=hB.other hne.symm hm3.other;obtain⟨cs2,E2,hat2,hsz2,hst2⟩:=hB3.store (n:=p.2) aC aC;refine⟨aC,aC,cs2,E2,hat2,hsz2,λm4 hm4=>⟨(i+1,s0,s1,b,c,m4),⟨rfl,rfl,rfl,rfl,aC,(hsub.upd hb.m_ hm3.other).upd hcm hm4.other,?_,?_,hg.succ hp ⟨kB.2 ⟨aC,aC⟩,kB.2 ⟨aC,aC⟩,by simpa using d5,λq hq=>⟨λe=>?_,λe=>?_⟩⟩⟩,by show on.length-(i+1)<on.length-i;omega,MT⟩⟩
 .rw[fO hp];exact hA3.other hne hm4.other
 .rw[fO hp];exact hst2 m4 hm4
 .rw[hys.2 (List.mem_map.2 ⟨q,hq,e⟩)]at d6;cases d6
 .rw[hzs.2 (List.mem_map.2 ⟨q,hq,e⟩)]at d7;cases d7
def fin(r:List Int×Int):List Int×Int:=if r.2=0 then z7 r.1 else iR r.2
def Query.op:Query->Int
 |.mk op .. =>op
noncomputable def vR(s:nS)(ps:List Int)(q:Query)(ks:List (List Int)):List Int×Int:=if(ks.length:Int)=arity q.op then hZ s ps q (ks.getD 0 []) (ks.getD 1 [])else iR 100
def vS(P:Int->Prop):Vc.Spec:=λcvs m h K=>∃n s ps q ks,cvs=[aN n]/\qL h s ps q ks n/\mW s/\P q.op/\∀r,fin r=vR s ps q ks->KR K m h r
def Zv(h:PH)(ss:Sl)(ks:List (List Int)):Prop:=bU h 1 eS (λk sl=>Ints h sl k) ss ks
def IJ:Vc.Spec:=λcvs m h K=>∃ss ks,cvs=[cS ss]/\Zv h ss ks/\ks.length<=10/\(∀k∈ks,k.length<=12)/\∀sl h',PH.le h h'->Ints h' sl ks.flatten->K (cS sl) m h'
noncomputable def V0(n:NV)(m:MH)(h:PH):Ctx:=
 dL [(177,zH)] [(5,{A:=Nat×List Int,st:=λ⟨i,l⟩=>cD 57 58 [(1,.at (.ptr 1 0)),(4,.at (.lst 25)),(28,sv n.q.columns),(29,iv n.q.columns.len),(30,iv i)] [(1,.cells 152 (n.enc.map .val)),(25,.lst 3 1 (l.map eI))] m h})] [] [] false
noncomputable abbrev zN(a:List Value):List Value:=aJ u0 u0 (aJ u0 bC a)
noncomputable abbrev wK(a b:Value):List Value:=aJ a b (aJ bC bC (aJ bC bC (aJ bC bC (sZ u0 (zN iD)))))
attribute [push_cast] zN wK
def Dz(n:NV)(m:MH)(h:PH)(K:CV->MH->PH->Prop):Prop:=
  yK (λn1 k u s p q k1 u1=>j2 (lF (aJ (pI n.s) (pH n.s) (aJ (dT n.params) (dO n.q.op) (aJ (lX n.q) (lW n.q) (aJ (dO (lY n.q)) (jS (gC n.q)) (fA n (eY n))))))::bK (eD 0) (lF (wK bC (lX n.q)))) (lF (aJ (pI n1.s) (pH n1.s) (aJ (dT n1.params) (dO n1.q.op) (aJ (lX n1.q) (lW n1.q) (aJ (dO (lY n1.q)) (jS (gC n1.q)) (fA n1 (eY n1))))))::bK (eD k) (bW u)) (qL h s p q k1 n1) (cN h u1 u) (λr=>fT (dV r↔yJ k1 k/\Ca q u1) (!r) (dG K 100 m h) (aZ n.q.table 0 (dG K 100 m h) (fU n.q.table (gQ n.s) (dG K 100 m h) (A9 (cJ (bN n.s) n.q.table) h (λs1 h1=>K (CV.tup (cJ (dN s1) 0)) m h1))))))
def Dy(n:NV)(m:MH)(h:PH)(K:CV->MH->PH->Prop):Prop:=
  yK (λn1 k u s p q k1 u1=>j2 (lF (aJ (pI n.s) (pH n.s) (aJ (dT n.params) (dO n.q.op) (aJ (lX n.q) (lW n.q) (aJ (dO (lY n.q)) (jS (gC n.q)) (fA n (eY n))))))::bK (eD 1) (lF (aJ bC bC (aJ (lW n.q) (dO (lY n.q)) (aJ (jS (gC n.q)) (sP (gC n.q)) (aJ (dO (nL (gC n.q))) (nF (gC n.q)) (aJ (lH (gC n.q)) (jS (eX n.q)) (aJ (sP (eX n.q)) (dO (nL (eX n.q))) (aJ (nF (eX n.q)) (lH (eX n.q)) (aJ (nC n.q) u0 (zN iD))))))))))) (lF (aJ (pI n1.s) (pH n1.s) (aJ (dT n1.params) (dO n1.q.op) (aJ (lX n1.q) (lW n1.q) (aJ (dO (lY n1.q)) (jS (gC n1.q)) (fA n1 (eY n1))))))::bK (eD k) (bW u)) (qL h s p q k1 n1) (cN h u1 u) (λr=>fT (dV r↔yJ k1 k/\Ca q u1) (!r) (dG K
 100 m h) (nM n m h (λ_ _ y=>CU (dN y::bK (dN n.params) (cW n.q.where_)) h (λc p1 p2=>eA (gI c p1 p2) 0 (dG K (gI c p1 p2) m h) (nM n m h (λ_ _ y1=>K (CV.tup (cJ (dN y1) 0)) m h)))))))
def Dx(n:NV)(m:MH)(h:PH)(K:CV->MH->PH->Prop):Prop:=
  yK (λn1 k u s p q k1 u1=>j2 (lF (aJ (pI n.s) (pH n.s) (aJ (dT n.params) (dO n.q.op) (aJ (lX n.q) (lW n.q) (aJ (dO (lY n.q)) (jS (gC n.q)) (fA n (eY n))))))::bK (eD 1) (lF (C5 (sZ (nD n.q) (zN iD))))) (lF (aJ (pI n1.s) (pH n1.s) (aJ (dT n1.params) (dO n1.q.op) (aJ (lX n1.q) (lW n1.q) (aJ (dO (lY n1.q)) (jS (gC n1.q)) (fA n1 (eY n1))))))::bK (eD k) (bW u)) (qL h s p q k1 n1) (cN h u1 u) (λr=>(dV r↔yJ k1 k/\Ca q u1)->cT (!r) (dG K 100 m h) (aG n.q.columns==0) (dG K 100 m h) (aA (cA 0) (cA (aG n.q.columns)) (aA (qE (aG n.q.columns*8)) (qE (aG n.q.columns)) (∃(I:Nat×List Int->Prop)(m1:Nat×List Int->Nat),(∃(x:Nat×List Int),aA (I x) eZ (aA (eL 25) (aI
 n.q.columns) (aA (bL n.q.columns) (bD x.1) (aA (AV n) (rL x.2) (dQ m m h h)))))/\∀(x:Nat×List Int),I x->aZ (↑x.1:Int) (aG n.q.columns) (aR (λb o=>aA (aT n.q.columns.a b o) (0<=(↑x.1:Int)) ((↑x.1:Int)<aG n.q.columns/\∃(y:Int),aL m h b (bA o x.1 1) (cL y)/\aZ y 0 (dG K 100 m h) (nM n m h (λ_ _ y1=>fU y (aG y1) (dG K 100 m h) (nM n m h (λ_ _ y2=>aR (λb1 o1=>aA (aT y2.a b1 o1) (0<=y) (y<aG y2/\∃(y3:Int),aA (aL m h b1 (fQ o1 y 1) (cL y3)) (CZ x.2) (iF (jF x.2)/\∃(x1:Nat×List Int),aA (I x1) (m1 x1<m1 x) (aA eZ (eL 25) (aA (aI n.q.columns) (bL n.q.columns) (aA (fN (bG x.1 1)=bV x1.1) (AV n) (cO (rM x.2 y3 x1.2) m m h h)))))))))))))) (bZ (λs1 h1=>bE h h1 (aX h1 s1
 1 (jF x.2)) (K (CV.tup (cJ (dN s1) 0)) m h1))))))))
noncomputable abbrev iG(a:NV)(b:List Value):List CV:=jW (lF (aJ (pI a.s) (pH a.s) (aJ (dT a.params) (dO a.q.op) (aJ (lX a.q) (lW a.q) (aJ (dO (lY a.q)) (jS (gC a.q)) b)))))
abbrev Fk(a:Nat->Nat->Option Value)(b:List (List Value))(c:Sl->PH->Sl->Prop):Prop:=bZ (λx x1=>bE a x1 (aX x1 x 1 b) (∃(x2:Sl),c x x1 x2))
attribute [push_cast] iG Fk
def Dw(n:NV)(m:MH)(h:PH)(K:CV->MH->PH->Prop):Prop:=
  ∃(n1:NV),AS (λs p q k=>aA (iG n (fA n (eY n))=iG n1 (fA n1 (eY n1))) (qL h s p q k n1) (∀(r:Bool),fT (dV r↔H0 k q) (!r) (dG K 100 m h) (nM n m h (λb o y=>aR (λb1 o1=>aA (aT n.args.a b1 o1) ((0:Int)<=1) (1<aG n.args/\∃(y1:Sl),aA (aL m h b1 (o1+1) (aU y1)) (aY h b (o+0) (aU y)) (aY h b1 (o1+1) (aU y1)/\Fk h (mK (aU y) (aU y1)) (λs1 h1 s2=>∃(k1:List (List Int)),aA (fX s1=fX s2) (Zv h1 s2 k1) (aA (k1.length<=10) (∀(k2:List Int),List.Mem k2 k1->k2.length<=12) (bZ (λs3 h2=>bE h1 h2 (Ints h2 s3 k1.flatten) (K (CV.tup (cJ (dN s3) 0)) m h2))))))))))))
def Dv(n:NV)(m:MH)(h:PH)(K:CV->MH->PH->Prop):Prop:=
  ∃(n1:NV),AS (λs p q k=>aA (iG n (fA n (eY n))=iG n1 (fA n1 (eY n1))) (qL h s p q k n1) (∀(r:Bool),fT (dV r↔H0 k q) (!r) (dG K 100 m h) (nM n m h (λ_ _ y=>K (CV.tup (cJ (dN y) 0)) m h))))
def GR(n:NV)(m:MH)(h:PH)(K:CV->MH->PH->Prop):Prop:=
  yK (λn1 k u s p q k1 u1=>j2 (lF (aJ (pI n.s) (pH n.s) (aJ (dT n.params) (dO n.q.op) (aJ (lX n.q) (lW n.q) (aJ (dO (lY n.q)) (jS (gC n.q)) (fA n (eY n))))))::bK (eD 2) (lF zV)) (lF (aJ (pI n1.s) (pH n1.s) (aJ (dT n1.params) (dO n1.q.op) (aJ (lX n1.q) (lW n1.q) (aJ (dO (lY n1.q)) (jS (gC n1.q)) (fA n1 (eY n1))))))::bK (eD k) (bW u)) (qL h s p q k1 n1) (cN h u1 u) (λr=>fT (dV r↔yJ k1 k/\Ca q u1) (!r) (dG K 100 m h) (nM n m h (λ_ _ y=>aR (λb o=>aA (aT n.args.a b o) ((0:Int)<=1) (1<aG n.args/\∃(y1:Sl),aL m h b (o+1) (aU y1)/\iN (λs1 t=>nK (λa b1=>j2 (jP y y1) (jP s1 t) (Ints h s1 a) (Ints h t b1) (λr1=>fT (dV r1↔a=b1) (!r1) (dG K 100 m h) (nM n m
 h (λ_ _ y2=>K (CV.tup (cJ (dN y2) 0)) m h)))))))))))
abbrev Gf(a:(List Int)->(List (Int×Bool))->Prop):Prop:=∃(x:List Int)(x1:List (Int×Bool)),a x x1
attribute [push_cast] Gf
def Du(n:NV)(m:MH)(h:PH)(K:CV->MH->PH->Prop):Prop:=
  ∃(n1:NV),AS (λs p q k=>aA (iG n (fA n (eY n))=iG n1 (fA n1 (eY n1))) (qL h s p q k n1) (yK (λn2 k1 u s1 p1 q1 k2 u1=>j2 (lF (aJ (pI n.s) (pH n.s) (aJ (dT n.params) (dO n.q.op) (aJ (lX n.q) (lW n.q) (aJ (dO (lY n.q)) (jS (gC n.q)) (fA n (eY n))))))::bK (eD 1) (lF (C5 (sZ u0 (H8 n1.q))))) (lF (aJ (pI n2.s) (pH n2.s) (aJ (dT n2.params) (dO n2.q.op) (aJ (lX n2.q) (lW n2.q) (aJ (dO (lY n2.q)) (jS (gC n2.q)) (fA n2 (eY n2))))))::bK (eD k1) (bW u)) (qL h s1 p1 q1 k2 n2) (cN h u1 u) (λr=>fT (dV r↔yJ k2 k1/\Ca q1 u1) (!r) (dG K 100 m h) (∃(n3:NV),AS (λs2 p2 q2 k3=>∃(a:List Int),j2 (iG n (fA n (eY n))) (iG n3 (fA n3 (eY n3))) (qL h s2 p2 q2 k3
 n3) (k3[0]? =Option.some a) (λr1=>fT (dV r1↔(∃(o t:Int)(w:Pred)(c:List Int)(o1:List (Int×Int)),Gf (λg o2=>∃(l:Int)(a1:List Query),q2=Query.mk o t w c o1 g o2 l a1/\vN a g o2 l))) (!r1) (dG K 100 m h) (nM n m h (λ_ _ y=>K (CV.tup (cJ (dN y) 0)) m h)))))))))
def Dt(n:NV)(m:MH)(h:PH)(K:CV->MH->PH->Prop):Prop:=
  ∃(n1:NV),AS (λs p q k=>aA (iG n (fA n (eY n))=iG n1 (fA n1 (eY n1))) (qL h s p q k n1) (yK (λn2 k1 u s1 p1 q1 k2 u1=>j2 (lF (aJ (pI n.s) (pH n.s) (aJ (dT n.params) (dO n.q.op) (aJ (lX n.q) (lW n.q) (aJ (dO (lY n.q)) (jS (gC n.q)) (fA n (eY n))))))::bK (eD 2) (lF (C5 (sZ u0 (H8 n1.q))))) (lF (aJ (pI n2.s) (pH n2.s) (aJ (dT n2.params) (dO n2.q.op) (aJ (lX n2.q) (lW n2.q) (aJ (dO (lY n2.q)) (jS (gC n2.q)) (fA n2 (eY n2))))))::bK (eD k1) (bW u)) (qL h s1 p1 q1 k2 n2) (cN h u1 u) (λr=>fT (dV r↔yJ k2 k1/\Ca q1 u1) (!r) (dG K 100 m h) (nM n m h (λb o y=>aR (λb1 o1=>aA (aT n.args.a b1 o1) ((0:Int)<=1) (1<aG n.args/\∃(y1:Sl),aL m h b1 (o1+1) (aU
 y1)/\iN (λs2 t=>nK (λa b2=>j2 (jP y y1) (jP s2 t) (Ints h s2 a) (Ints h t b2) (λr1=>fT (dV r1↔a=b2) (!r1) (aA (aY h b (o+0) (aU y)) (aY h b1 (o1+1) (aU y1)) (dG K 100 m h)) (aA (aY h b (o+0) (aU y)) (aY h b1 (o1+1) (aU y1)) (∃(n3:NV),AS (λs3 p2 q2 k3=>∃(a1:List Int),j2 (iG n (fA n (eY n))) (iG n3 (fA n3 (eY n3))) (qL h s3 p2 q2 k3 n3) (k3[0]? =Option.some a1) (λr2=>fT (dV r2↔(∃(o2 t1:Int)(w:Pred)(c:List Int)(o3:List (Int×Int)),Gf (λg o4=>∃(l:Int)(a2:List Query),q2=Query.mk o2 t1 w c o3 g o4 l a2/\vN a1 g o4 l))) (!r2) (dG K 100 m h) (nM n m h (λ_ _ y2=>K (CV.tup (cJ (dN y2) 0)) m h)))))))))))))))))
theorem Xj{e:Int}(h:e≠0):fin (iR e)=iR e:=by unfold fin;rw[if_neg (by simpa[iR]using h)];rfl
theorem Xi(l:List Int):fin (l,0)=z7 l:=by unfold fin;rw[if_pos rfl]
structure U3(K:CV->MH->PH->Prop)(m:MH)(h:PH)(full:List Int×Int):Prop where
 all:∀r,fin r=full->KR K m h r
theorem U3.err{f:List Int×Int}{e:Int}(x:U3 K m h f)(he:f=iR e)(h0:e≠0)(hle:PH.le h h'):K (.tup [.val (.slice none 0 0),.val (.int .i64 e)]) m h':=
 (x.all (iR e) (by rw[he,Xj h0])).err hle rfl
theorem U3.ok{f:List Int×Int}{sl:Sl}(x:U3 K m h f)(he:f=z7 l)(hle:PH.le h h')(hi:Ints h' sl l):K (.tup [.val (.slice sl.a sl.len sl.cap),.val (.int .i64 0)]) m h':=
 x.all (l,0) (by rw[he,Xi]) sl h' hle hi
theorem sH(h:¬((ks.length:Int)=arity q.op/\dE q)):vR s ps q ks=iR 100:=by
 unfold vR;by_cases h1:(ks.length:Int)=arity q.op
 .rw[if_pos h1];unfold hZ;rw[if_pos (.inr λe=>h ⟨h1,e⟩)]
 .rw[if_neg h1]
theorem mV{s:nS}{ps:List Int}{op ta:Int}{w:Pred}{co:List Int}{on:List (Int×Int)}{gr:List Int}{od:List (Int×Bool)}{li:Int}{args:List Query}{ks:List (List Int)}(h1:(ks.length:Int)=arity op)(h2:dE (.mk op ta w co on gr od li args))(h0:0<=arity op):
 vR s ps (.mk op ta w co on gr od li args) ks=hZ s ps (.mk op ta w co on gr od li args) (ks.getD 0 []) (ks.getD 1 [])/\¬(arity op<0\/¬dE (.mk op ta w co on gr od li args)):=by
 unfold vR;rw[if_pos (show(ks.length:Int)=arity (Query.op (.mk op ta w co on gr od li args))from h1)];exact⟨rfl,λe=>e.elim (λe=>by omega) λe=>e h2⟩
section
variable{n:NV}{s:nS}{ps:List Int}{ta:Int}{w:Pred}{co:List Int}{on:List (Int×Int)}{gr:List Int}{od:List (Int×Bool)}{li:Int}{args:List Query}{ks:List (List Int)}{m:MH}{h:PH}{K:CV->MH->PH->Prop}
theorem Qn(hk:(ks.length:Int)=1):∃a,ks=[a]:=by
 match ks,hk with
 |[a],_=>exact⟨a,rfl⟩
 |[],h=>simp at h
 |_::_::_,h=>simp at h;omega
theorem Mx(hk:(ks.length:Int)=2):∃a b,ks=[a,b]:=by
 match ks,hk with
 |[a,b],_=>exact⟨a,b,rfl⟩
 |[],h=>simp at h
 |[_],h=>simp at h
 |_::_::_::_,h=>simp at h;omega
theorem Ya(hn:qL h s ps (.mk 1 ta w co on gr od li args) ks n)(h8:mW s)(hT:U3 K m h (vR s ps (.mk 1 ta w co on gr od li args) ks)):Dz n m h K:=by
 dsimp only[Dz,push_cast];have x:=hn.q_.parts;have et:=x.table_;have sl:=hn.s_.tables.slen;refine⟨n,0,⟨0,n.q.table,⟨0,0,dK,dK,⟨none,0,0⟩⟩,⟨none,0,0⟩,⟨none,0,0⟩,⟨none,0,0⟩,⟨none,0,0⟩,0,⟨none,0,0⟩⟩,s,ps,_,ks,.mk 0 ta gV [] [] [] [] 0 [],rfl,hn,nI.rep ⟨rfl,et,AG h,⟨.nil _ _,by simp⟩,⟨.nil _ _,by simp⟩,⟨.nil _ _,by simp⟩,⟨.nil _ _,by simp⟩,rfl,.nil _ _ _ _⟩,λr hr=>aB (λh1=>hT.err (sH λe=>?_) aC (.refl _)) (λh1=>?_)⟩
 .have:r=true:=hr.2 ⟨e.1,by have:=e.2;simp[dE]at this;obtain⟨rfl,rfl,rfl,rfl,rfl,rfl⟩:=this;rfl⟩;rw[this]at h1;cases h1
 obtain⟨hk,heq⟩:=hr.1 (by simpa using h1);simp only[Query.withOf,Query.mk.injEq]at heq;obtain⟨_,_,rfl,rfl,rfl,rfl,rfl,rfl,_⟩:=heq;obtain⟨hf,hg⟩:=mV (s:=s) (ps:=ps) (op:=1) (ta:=ta) (w:=gV) (co:=[]) (on:=[]) (gr:=[]) (od:=[]) (li:=0) (args:=args) (ks:=ks) hk (by simp[dE]) (by decide);rw[hf]at hT;unfold hZ at hT;rw[if_neg hg]at hT;dsimp only at hT;rw[if_pos rfl]at hT;refine aE (λd1=>hT.err (if_neg aC) aC (.refl _)) (λd1=>aE (λd2=>hT.err (if_neg aC) aC (.refl _)) (λd2=>⟨n.s,s,n.q.table,rfl,hn.s_,h8,λsl h' hle hi=>?_⟩));rw[et]at hi;exact hT.ok (if_pos aC) hle hi
theorem X8(hn:qL h s ps (.mk 2 ta w co on gr od li args) ks n)(hT:U3 K m h (vR s ps (.mk 2 ta w co on gr od li args) ks)):Dy n m h K:=by
 dsimp only[Dy,push_cast];have x:=hn.q_.parts;refine⟨n,1,⟨0,0,n.q.where_,⟨none,0,0⟩,⟨none,0,0⟩,⟨none,0,0⟩,⟨none,0,0⟩,0,⟨none,0,0⟩⟩,s,ps,_,ks,.mk 0 0 w [] [] [] [] 0 [],rfl,hn,nI.rep ⟨rfl,rfl,x.where_,⟨.nil _ _,by simp⟩,⟨.nil _ _,by simp⟩,⟨.nil _ _,by simp⟩,⟨.nil _ _,by simp⟩,rfl,.nil _ _ _ _⟩,λr hr=>aB (λh1=>hT.err (sH λe=>?_) aC (.refl _)) (λh1=>?_)⟩
 .have:r=true:=hr.2 ⟨e.1,by have:=e.2;simp[dE]at this;obtain⟨rfl,rfl,rfl,rfl,rfl,rfl⟩:=this;rfl⟩;rw[this]at h1;cases h1
 obtain⟨hk,heq⟩:=hr.1 (by simpa using h1);simp only[Query.withOf,Query.mk.injEq]at heq;obtain⟨_,rfl,_,rfl,rfl,rfl,rfl,rfl,_⟩:=heq;obtain⟨hf,hg⟩:=mV (s:=s) (ps:=ps) (op:=2) (ta:=0) (w:=w) (co:=[]) (on:=[]) (gr:=[]) (od:=[]) (li:=0) (args:=args) (ks:=ks) hk (by simp[dE]) (by decide);rw[hf]at hT;unfold hZ at hT;rw[if_neg hg]at hT;dsimp only at hT;rw[if_neg (by decide),if_pos rfl]at hT;obtain⟨a,rfl⟩:=Qn hk;obtain⟨b0,o0,s0,e0,r0,i0,l0,j0⟩:=hn.arg (j:=0) rfl;simp only[List.getD_cons_zero]at hT;refine⟨b0,o0,e0,aC,aC,s0,.imm (by simpa using r0),s0,n.params,n.q.where_,a,ps,w,rfl,i0,hn.ps_,x.where_,aB (λd1=>hT.err (if_neg (by simpa using d1)) (by simpa using d1) (.refl _)) (λd1=>⟨b0,o0,e0,aC,aC,s0,.imm (by simpa using r0),hT.ok (if_pos (by simpa using d1)) (.refl _) i0⟩)⟩
theorem X5(hn:qL h s ps (.mk 5 ta w co on gr od li args) ks n)(hT:U3 K m h (vR s ps (.mk 5 ta w co on gr od li args) ks)):Dv n m h K:=by
 dsimp only[Dv,push_cast];refine⟨n,s,ps,_,ks,rfl,hn,λr hr=>aB (λh1=>hT.err ?_ aC (.refl _)) (λh1=>?_)⟩
 .by_cases hb:((ks.length:Int)=arity 5/\dE (.mk 5 ta w co on gr od li args))
  .obtain⟨hf,hg⟩:=mV (s:=s) (ps:=ps) hb.1 hb.2 (by decide);rw[hf];unfold hZ;rw[if_neg hg];dsimp only;rw[if_neg (by decide),if_neg (by decide),if_neg (by decide),if_neg (by decide),if_pos rfl,if_neg];intro hgood;have h2:=hb.2;simp[dE]at h2;have:r=true:=hr.2 ⟨by have:=hb.1;simp[arity]at this;omega,h2.1,h2.2.1,h2.2.2.1,h2.2.2.2.1,h2.2.2.2.2.1,h2.2.2.2.2.2,hgood⟩;rw[this]at h1;cases h1
  .exact sH hb
 obtain⟨hk,rfl,rfl,rfl,rfl,rfl,rfl,hgood⟩:=hr.1 (by simpa using h1);obtain⟨hf,hg⟩:=mV (s:=s) (ps:=ps) (op:=5) (ta:=0) (w:=gV) (co:=[]) (on:=on) (gr:=[]) (od:=[]) (li:=0) (args:=args) (ks:=ks) (by rw[hk];rfl) (by simp[dE]) (by decide);rw[hf]at hT;unfold hZ at hT;rw[if_neg hg]at hT;dsimp only at hT;rw[if_neg (by decide),if_neg (by decide),if_neg (by decide),if_neg (by decide),if_pos rfl,if_pos hgood]at hT;obtain⟨a,b,rfl⟩:=Mx (ks:=ks) aC;obtain⟨b0,o0,s0,e0,r0,i0,l0,j0⟩:=hn.arg (j:=0) rfl;exact⟨b0,o0,e0,aC,aC,s0,.imm (by simpa using r0),hT.ok rfl (.refl _) i0⟩
theorem X6(hn:qL h s ps (.mk 4 ta w co on gr od li args) ks n)(hT:U3 K m h (vR s ps (.mk 4 ta w co on gr od li args) ks)):Dw n m h K:=by
 dsimp only[Dw,push_cast];refine⟨n,s,ps,_,ks,rfl,hn,λr hr=>aB (λh1=>hT.err ?_ aC (.refl _)) (λh1=>?_)⟩
 .by_cases hb:((ks.length:Int)=arity 4/\dE (.mk 4 ta w co on gr od li args))
  .obtain⟨hf,hg⟩:=mV (s:=s) (ps:=ps) hb.1 hb.2 (by decide);rw[hf];unfold hZ;rw[if_neg hg];dsimp only;rw[if_neg (by decide),if_neg (by decide),if_neg (by decide),if_pos rfl,if_neg];intro hgood;have h2:=hb.2;simp[dE]at h2;have:r=true:=hr.2 ⟨by have:=hb.1;simp[arity]at this;omega,h2.1,h2.2.1,h2.2.2.1,h2.2.2.2.1,h2.2.2.2.2.1,h2.2.2.2.2.2,hgood⟩;rw[this]at h1;cases h1
  .exact sH hb
 obtain⟨hk,rfl,rfl,rfl,rfl,rfl,rfl,hgood⟩:=hr.1 (by simpa using h1);obtain⟨hf,hg⟩:=mV (s:=s) (ps:=ps) (op:=4) (ta:=0) (w:=gV) (co:=[]) (on:=on) (gr:=[]) (od:=[]) (li:=0) (args:=args) (ks:=ks) (by rw[hk];rfl) (by simp[dE]) (by decide);rw[hf]at hT;unfold hZ at hT;rw[if_neg hg]at hT;dsimp only at hT;rw[if_neg (by decide),if_neg (by decide),if_neg (by decide),if_pos rfl,if_pos hgood]at hT;obtain⟨a,b,rfl⟩:=Mx (ks:=ks) aC;obtain⟨b0,o0,s0,e0,r0,i0,l0,j0⟩:=hn.arg (j:=0) rfl;obtain⟨b1,o1,s1,e1,r1,i1,l1,j1⟩:=hn.arg (j:=1) rfl;refine⟨b0,o0,e0,aC,aC,s0,.imm (by simpa using r0),b1,o1,e1,aC,aC,s1,.imm (by simpa using r1),by simpa using r0,by simpa using r1,λsl h' hle hrow=>⟨sl,[a,b],rfl,⟨⟨[s0,s1],hrow,rfl,λj k hk=>?_⟩,by simp⟩,by simp,λk hk=>hn.len k hk,λsl2 h2 hle2 hi2=>hT.ok (l:=a++b) (by simp) (hle.trans hle2) (by simpa using hi2)⟩⟩
 match j,hk with
 |0,hk=>simp at hk;subst hk;exact⟨s0,rfl,i0.mono hle⟩
 |1,hk=>simp at hk;subst hk;exact⟨s1,rfl,i1.mono hle⟩
 |_+2,hk=>simp at hk
theorem X4{op:Int}(hop:op=6\/op=7\/op=8)(hn:qL h s ps (.mk op ta w co on gr od li args) ks n)(hT:U3 K m h (vR s ps (.mk op ta w co on gr od li args) ks)):GR n m h K:=by
 dsimp only[GR,push_cast];have x:=hn.q_.parts;have ha:arity op=2:=by rcases hop with rfl|rfl|rfl<;>rfl
 have hne:op≠1/\op≠2/\op≠3/\op≠4/\op≠5/\op≠9/\op≠10:=by omega
 refine⟨n,2,⟨0,0,⟨0,0,dK,dK,⟨none,0,0⟩⟩,⟨none,0,0⟩,⟨none,0,0⟩,⟨none,0,0⟩,⟨none,0,0⟩,0,⟨none,0,0⟩⟩,s,ps,_,ks,.mk 0 0 gV [] [] [] [] 0 [],rfl,hn,nI.rep ⟨rfl,rfl,AG h,⟨.nil _ _,by simp⟩,⟨.nil _ _,by simp⟩,⟨.nil _ _,by simp⟩,⟨.nil _ _,by simp⟩,rfl,.nil _ _ _ _⟩,λr hr=>aB (λh1=>hT.err (sH λe=>?_) aC (.refl _)) (λh1=>?_)⟩
 .have e1:(ks.length:Int)=arity op:=e.1;have:r=true:=hr.2 ⟨aC,by have:=e.2;simp[dE,hne]at this;obtain⟨rfl,rfl,rfl,rfl,rfl,rfl,rfl⟩:=this;rfl⟩;rw[this]at h1;cases h1
 obtain⟨hk,heq⟩:=hr.1 (by simpa using h1);simp only[Query.withOf,Query.mk.injEq]at heq;obtain⟨_,rfl,rfl,rfl,rfl,rfl,rfl,rfl,_⟩:=heq;obtain⟨hf,hg⟩:=mV (s:=s) (ps:=ps) (op:=op) (ta:=0) (w:=gV) (co:=[]) (on:=[]) (gr:=[]) (od:=[]) (li:=0) (args:=args) (ks:=ks) aC (by simp[dE]) aC;rw[hf]at hT;unfold hZ at hT;rw[if_neg hg]at hT;dsimp only at hT;rw[if_neg hne.1,if_neg hne.2.1,if_neg hne.2.2.1,if_neg hne.2.2.2.1,if_neg hne.2.2.2.2.1,if_neg hne.2.2.2.2.2.1,if_neg hne.2.2.2.2.2.2]at hT;obtain⟨a,b,rfl⟩:=Mx hk;obtain⟨b0,o0,s0,e0,r0,i0,l0,j0⟩:=hn.arg (j:=0) rfl;obtain⟨b1,o1,s1,e1,r1,i1,l1,j1⟩:=hn.arg (j:=1) rfl;refine⟨b0,o0,e0,aC,aC,s0,.imm (by simpa using r0),b1,o1,e1,aC,aC,s1,.imm (by simpa using r1),s0,s1,a,b,rfl,i0,i1,λr2 hr2=>aB (λd1=>hT.err (if_neg λe=>?_) aC (.refl _)) (λd1=>⟨b0,o0,e0,aC,aC,s0,.imm (by simpa using r0),hT.ok (if_pos (hr2.1 (by simpa using d1))) (.refl _) i0⟩)⟩;have e:a=b:=e;rw[hr2.2 e]at d1;cases d1
theorem X7(hn:qL h s ps (.mk 3 ta w co on gr od li args) ks n)(hT:U3 K m h (vR s ps (.mk 3 ta w co on gr od li args) ks)):Dx n m h K:=by
 dsimp only[Dx,push_cast];have x:=hn.q_.parts;have cl:=x.columns_.slen;have clen:=x.columns_.len;refine⟨n,1,⟨0,0,⟨0,0,dK,dK,⟨none,0,0⟩⟩,n.q.columns,⟨none,0,0⟩,⟨none,0,0⟩,⟨none,0,0⟩,0,⟨none,0,0⟩⟩,s,ps,_,ks,.mk 0 0 gV co [] [] [] 0 [],rfl,hn,nI.rep ⟨rfl,rfl,AG h,x.columns_,⟨.nil _ _,by simp⟩,⟨.nil _ _,by simp⟩,⟨.nil _ _,by simp⟩,rfl,.nil _ _ _ _⟩,λr hr=>aB (λh1=>hT.err (sH λe=>?_) aC (.refl _)) (λh1=>?_)⟩
 .have:r=true:=hr.2 ⟨e.1,by have:=e.2;simp[dE]at this;obtain⟨rfl,rfl,rfl,rfl,rfl,rfl⟩:=this;rfl⟩;rw[this]at h1;cases h1
 obtain⟨hk,heq⟩:=hr.1 (by simpa using h1);simp only[Query.withOf,Query.mk.injEq]at heq;obtain⟨_,rfl,rfl,_,rfl,rfl,rfl,rfl,_⟩:=heq;obtain⟨hf,hg⟩:=mV (s:=s) (ps:=ps) (op:=3) (ta:=0) (w:=gV) (co:=co) (on:=[]) (gr:=[]) (od:=[]) (li:=0) (args:=args) (ks:=ks) hk (by simp[dE]) (by decide);rw[hf]at hT;unfold hZ at hT;rw[if_neg hg]at hT;dsimp only at hT;rw[if_neg (by decide),if_neg (by decide),if_pos rfl]at hT;obtain⟨a,rfl⟩:=Qn hk;obtain⟨b0,o0,s0,e0,r0,i0,l0,j0⟩:=hn.arg (j:=0) rfl;have sl0:=i0.slen;simp only[List.getD_cons_zero]at hT;refine aB (λd1=>hT.err (if_neg λe=>e.1 ((DJ cl).1 d1)) aC (.refl _)) (λd1=>?_);have hne:co≠[]:=λe=>by rw[(DJ cl).2 e]at d1;cases d1
 refine⟨aC,aC,aC,aC,λ⟨i,l⟩=>i<=co.length/\l=(co.take i).map (λc=>a.getD c.toNat 0)/\eH (λ_ c=>DK a c=true) co i,λ⟨i,_⟩=>co.length-i,⟨(0,[]),⟨aC,by simp,.zero⟩,MT⟩,?_⟩;rintro⟨i,_⟩ ⟨hi,rfl,hgo⟩;dsimp only;refine aE (λhlt=>?_) (λhge sl h' hle hrow=>?_)
 .obtain⟨c,hc⟩:=fD cl hlt;obtain⟨b1,o1,ea1,r1⟩:=x.columns_.at' hc;have cbad:¬DK a c=true->K (.tup [.val (.slice none 0 0),.val (.int .i64 100)]) m h:=λhx=>hT.err (if_neg λe=>hx (e.2 i c hc)) aC (.refl _);refine⟨b1,o1,ea1,aC,hlt,c,.imm r1,aE (λd2=>cbad λe=>?_) (λd2=>⟨b0,o0,e0,aC,aC,s0,.imm (by simpa using r0),aE (λd3=>cbad λe=>?_) (λd3=>?_)⟩)⟩
  .have:=kB.1 e;omega
  .have:=kB.1 e;omega
  obtain⟨b2,o2,ea2,r2⟩:=i0.inb (n:=c) aC aC;refine⟨b0,o0,e0,aC,aC,s0,.imm (by simpa using r0),b2,o2,ea2,aC,aC,_,.imm r2,?_,?_,(i+1,(co.take (i+1)).map (λc=>a.getD c.toNat 0)),⟨aC,rfl,hgo.succ hc (kB.2 ⟨aC,aC⟩)⟩,by show co.length-(i+1)<co.length-i;omega,?_⟩
  .simp;omega
  .simp;omega
  .rw[fO hc,List.map_append];exact MT
 .rw[List.take_of_length_le aC]at hrow;exact hT.ok (if_pos ⟨hne,hgo.all aC⟩) hle ⟨hrow,by simp;omega⟩
theorem X3(hn:qL h s ps (.mk 9 ta w co on gr od li args) ks n)(hT:U3 K m h (vR s ps (.mk 9 ta w co on gr od li args) ks)):Du n m h K:=by
 dsimp only[Du,push_cast];have x:=hn.q_.parts;refine⟨n,s,ps,_,ks,rfl,hn,n,1,⟨0,0,⟨0,0,dK,dK,⟨none,0,0⟩⟩,⟨none,0,0⟩,⟨none,0,0⟩,n.q.group,n.q.order,n.q.limit,⟨none,0,0⟩⟩,s,ps,_,ks,.mk 0 0 gV [] [] gr od li [],rfl,hn,nI.rep ⟨rfl,rfl,AG h,⟨.nil _ _,by simp⟩,⟨.nil _ _,by simp⟩,x.group_,x.order_,x.limit_,.nil _ _ _ _⟩,λr hr=>aB (λh1=>hT.err (sH λe=>?_) aC (.refl _)) (λh1=>?_)⟩
 .have:r=true:=hr.2 ⟨e.1,by have:=e.2;simp[dE]at this;obtain⟨rfl,rfl,rfl,rfl⟩:=this;rfl⟩;rw[this]at h1;cases h1
 obtain⟨hk,heq⟩:=hr.1 (by simpa using h1);simp only[Query.withOf,Query.mk.injEq]at heq;obtain⟨_,rfl,rfl,rfl,rfl,_,_,_,_⟩:=heq;obtain⟨hf,hg⟩:=mV (s:=s) (ps:=ps) (op:=9) (ta:=0) (w:=gV) (co:=[]) (on:=[]) (gr:=gr) (od:=od) (li:=li) (args:=args) (ks:=ks) hk (by simp[dE]) (by decide);rw[hf]at hT;unfold hZ at hT;rw[if_neg hg]at hT;dsimp only at hT;rw[if_neg (by decide),if_neg (by decide),if_neg (by decide),if_neg (by decide),if_neg (by decide),if_pos rfl]at hT;obtain⟨a,rfl⟩:=Qn hk;obtain⟨b0,o0,s0,e0,r0,i0,l0,j0⟩:=hn.arg (j:=0) rfl;refine⟨n,s,ps,_,[a],a,rfl,hn,rfl,λr2 hr2=>aB (λd1=>hT.err (if_neg λe=>?_) aC (.refl _)) (λd1=>⟨b0,o0,e0,aC,aC,s0,.imm (by simpa using r0),hT.ok (if_pos ?_) (.refl _) i0⟩)⟩
 .rw[hr2.2 ⟨_,_,_,_,_,_,_,_,_,rfl,e⟩]at d1;cases d1
 .obtain⟨_,_,_,_,_,_,_,_,_,e,hh⟩:=hr2.1 (by simpa using d1);cases e;exact hh
theorem X2(hn:qL h s ps (.mk 10 ta w co on gr od li args) ks n)(hT:U3 K m h (vR s ps (.mk 10 ta w co on gr od li args) ks)):Dt n m h K:=by
 dsimp only[Dt,push_cast];have x:=hn.q_.parts;refine⟨n,s,ps,_,ks,rfl,hn,n,2,⟨0,0,⟨0,0,dK,dK,⟨none,0,0⟩⟩,⟨none,0,0⟩,⟨none,0,0⟩,n.q.group,n.q.order,n.q.limit,⟨none,0,0⟩⟩,s,ps,_,ks,.mk 0 0 gV [] [] gr od li [],rfl,hn,nI.rep ⟨rfl,rfl,AG h,⟨.nil _ _,by simp⟩,⟨.nil _ _,by simp⟩,x.group_,x.order_,x.limit_,.nil _ _ _ _⟩,λr hr=>aB (λh1=>hT.err (sH λe=>?_) aC (.refl _)) (λh1=>?_)⟩
 .have:r=true:=hr.2 ⟨e.1,by have:=e.2;simp[dE]at this;obtain⟨rfl,rfl,rfl,rfl⟩:=this;rfl⟩;rw[this]at h1;cases h1
 obtain⟨hk,heq⟩:=hr.1 (by simpa using h1);simp only[Query.withOf,Query.mk.injEq]at heq;obtain⟨_,rfl,rfl,rfl,rfl,_,_,_,_⟩:=heq;obtain⟨hf,hg⟩:=mV (s:=s) (ps:=ps) (op:=10) (ta:=0) (w:=gV) (co:=[]) (on:=[]) (gr:=gr) (od:=od) (li:=li) (args:=args) (ks:=ks) hk (by simp[dE]) (by decide);rw[hf]at hT;unfold hZ at hT;rw[if_neg hg]at hT;dsimp only at hT;rw[if_neg (by decide),if_neg (by decide),if_neg (by decide),if_neg (by decide),if_neg (by decide),if_neg (by decide),if_pos rfl]at hT;obtain⟨a,b,rfl⟩:=Mx hk;obtain⟨b0,o0,s0,e0,r0,i0,l0,j0⟩:=hn.arg (j:=0) rfl;obtain⟨b1,o1,s1,e1,r1,i1,l1,j1⟩:=hn.arg (j:=1) rfl;refine⟨b0,o0,e0,aC,aC,s0,.imm (by simpa using r0),b1,o1,e1,aC,aC,s1,.imm (by simpa using r1),s0,s1,a,b,rfl,i0,i1,λr3 hr3=>aB (λd2=>⟨by simpa using r0,by simpa using r1,hT.err (if_neg λe=>?_) aC (.refl _)⟩) (λd2=>⟨by simpa using r0,by simpa using r1,n,s,ps,_,[a,b],a,rfl,hn,rfl,λr2 hr2=>aB (λd1=>hT.err (if_neg λe=>?_) aC (.refl _)) (λd1=>⟨b0,o0,e0,aC,aC,s0,.imm (by simpa using r0),hT.ok (if_pos ⟨hr3.1 (by simpa using d2),?_⟩) (.refl _) i0⟩)⟩)⟩
 .have e:a=b:=e.1;rw[hr3.2 e]at d2;cases d2
 .rw[hr2.2 ⟨_,_,_,_,_,_,_,_,_,rfl,e.2⟩]at d1;cases d1
 .obtain⟨_,_,_,_,_,_,_,_,_,e,hh⟩:=hr2.1 (by simpa using d1);cases e;exact hh
end
end Go.Ps
