/-
  Part 3 of a proof that a law of the given program returns true: a condition generator that is proved sound, and contracts of functions. No condition of its own. Own work, joined by a program (pack2.py).
-/
import Derived.Test.YtileehgdfcknkaaGreatDoorSb
set_option linter.unusedVariables false
set_option linter.unusedSimpArgs false
namespace Go.Ps
open Go Go.Vc Go.Proofs
variable{K:CV->MH->PH->Prop}{m:MH}{h:PH}{ps:List Int}{cb:Nat}{sc:cH}{v:QV}{q:Query}{p:Pred}{l:List Int}{i:Nat}{N:Nat}{m':MH}{h':PH}{co:List Int}{gr:List Int}{od:List (Int×Bool)}{w:Pred}{ta:Int}{li:Int}{xs:List (List Value)}{sz:Nat}{k:Nat}{ks:List (List Int)}{rs:List Int}{r:Sl}{a:List Int}{b:Nat}
structure Ref where
 columns:List Int
 table:Int
structure tV where
 name:ByteArray
 columns:List lQ
 key:Int
 refs:List Ref
 checks:List Pred
structure oF where
 version:Int
 tables:List tV
variable{s:oF}
structure M4(h:PH)(r:Ref)(v:Bn):Prop where
 columns:Ints h v.columns r.columns
 table:v.table=r.table
def Bp(h:PH)(s:Sl)(l:List lQ):Prop:=bL h 2 lQ.enc Eq s l
structure GF(h:PH)(t:tV)(v:bO):Prop where
 name:v.name=t.name
 columns:Bp h v.columns t.columns
 key:v.key=t.key
 refs:bL h 2 Bn.enc (M4 h) v.references t.refs
 checks:B5 h v.checks t.checks
structure gJ(h:PH)(s:oF)(v:cH):Prop where
 version:v.version=s.version
 tables:bL h 5 bO.enc (GF h) v.tables s.tables
theorem M4.mono{r:Ref}{v:Bn}(x:M4 h r v)(le:PH.le h h'):M4 h' r v:=⟨x.columns.mono le,x.table⟩
theorem GF.mono{t:tV}{v:bO}(x:GF h t v)(le:PH.le h h'):GF h' t v:=
 ⟨x.name,bL.mono x.columns le λ_ _ e=>e,x.key,x.refs.mono le λ_ _ e=>e.mono le,x.checks.mono le⟩
theorem gJ.mono{v:cH}(x:gJ h s v)(le:PH.le h h'):gJ h' s v:=⟨x.version,x.tables.mono le λ_ _ e=>e.mono le⟩
def lower(c:Nat):Bool:=97<=c&&c<=122
def rT(c:Nat):Bool:=lower c||(48<=c&&c<=57)||c==95
def lV(s:ByteArray):List Nat:=s.data.toList.map UInt8.toNat
def lI(s:ByteArray):Bool:=1<=s.size&&s.size<=32&&lower ((lV s).headD 0)&&(lV s).all rT
theorem Lz(s:ByteArray):(lV s).length=s.size:=by simp[lV]
theorem Um{s:ByteArray}{c:Nat}(h:(lV s)[i]? =some c):(s.get! i).toNat=c/\c<256:=by
 simp only[lV,List.getElem?_map,Option.map_eq_some_iff]at h;obtain⟨b,hb,rfl⟩:=h;refine⟨?_,b.toNat_lt⟩
 have hi:i<s.data.size:=by
  have:=(List.getElem?_eq_some_iff.1 hb).1;simpa using this
 have:s.data[i]? =some b:=by simpa using hb
 cases s with
 |mk bs=>
  show(bs[i]!).toNat=b.toNat;rw[getElem!_def,this]
theorem Gu{s:ByteArray}(h:(s.get! i).toNat<128):Utf8.decode s i=((s.get! i).toNat,1):=by
 simp only[Utf8.decode,Nat.add_zero];rw[if_pos h]
theorem Ul{s:ByteArray}(h:¬(s.get! i).toNat<128):128<=(Utf8.decode s i).1:=by
 simp only[Utf8.decode,Nat.add_zero];rw[if_neg h]
 repeat' split
 all_goals simp_all [Utf8.runeError]
 all_goals omega
def MN(s:ByteArray):CV:=.val (.string s)
def SM:Vc.Spec:=λcvs m h K=>∃s,cvs=[MN s]/\K (cB (lI s)) m h
noncomputable def Vy(s:ByteArray)(m:MH)(h:PH):Ctx:=
 ctx [] [(4,{A:=Nat×Nat×MH,st:=λx=>cD 44 45 [(15,vv (.pointer (some ⟨x.2.1,0,none⟩)))] [] x.2.2 h,inv:=λx=>x.1<=s.size/\cG m h x.2.1/\jG m x.2.2 x.2.1 (.stringIter s x.1)/\(x.1=0\/lower ((lV s).headD 0)=true)/\((lV s).take x.1).all rT=true,mu:=λx=>s.size-x.1})] [] [] false
noncomputable def VD(s:ByteArray)(m:MH)(h:PH):Ctx:=
 ctx [] [BK 4 (λi=>cD 50 51 [(0,vv (.string s)),(3,iv i)] [] m h) (λi=>i<=s.size/\((lV s).take i).all rT=true) (λi=>s.size-i)] [] [] false
abbrev Mi(a b:(Nat×Nat×MH)->Prop):Prop:=(∃(x:Nat×Nat×MH),a x)/\∀(x:Nat×Nat×MH),b x
noncomputable abbrev iR(a:Nat×Nat×MH):Nat:=a.2.1
noncomputable abbrev fZ(a:Nat×Nat×MH):Nat->Option Obj:=a.2.2
abbrev xB(a:Nat×Nat×MH)(b:ByteArray)(c:MH)(d:PH):Prop:=aA (a.1<=b.size) (cG c d (iR a)) (aA (jG c (fZ a) (iR a) (Obj.stringIter b a.1)) (a.1=0\/dT (lower (List.headD (lV b) 0))) (dT (List.all (List.take a.1 (lV b)) rT)))
abbrev dD(a b:Nat):Prop:=UJ a 0=UJ b 0
noncomputable abbrev Aq(a:ByteArray)(b:Nat):Nat:=(Utf8.decode a b).1
abbrev vT(a:ByteArray)(b c:Nat):Prop:=a.size-b<a.size-c
abbrev Cn(a:(Nat×Nat×MH)->Prop)(b:ByteArray)(c:Nat×Nat×MH)(d:MH)(e:PH):Prop:=∃(x:Nat×Nat×MH),aA (a x) (vT b x.1 c.1) (aA (dD (iR c) (iR x)) (d=fZ x) (bN e e))
attribute [push_cast] Mi iR fZ xB dD Aq vT Cn
def Gm(s:ByteArray)(m:MH)(h:PH)(K:CV->MH->PH->Prop):Prop:=
  aW (↑s.size:Int) 1 (K aU m h) (eM (↑s.size:Int) 32 (K aU m h) (∀(b:Nat)(m1:MH),aT (cG m h b) (jG m m1 b (Obj.stringIter s 0)) (Mi (λx=>aA (xB x s m h) (dD b (iR x)) (aA (m1=fZ x) (h=h) True)) (λx=>xB x s m h->∃(s1:ByteArray)(p:Nat),aA (tX (fZ x) (iR x) (Obj.stringIter s1 p)) (s1.size<=p->K fN (fZ x) h) (p<s1.size->∀(m2:MH),jG (fZ x) m2 (iR x) (Obj.stringIter s1 (p+(Utf8.decode s1 p).2))->cV (decide ((↑(Aq s1 p):Int)>=97)) (branch (!(decide ((↑(Aq s1 p):Int)<=122))) (cV ((↑p:Int)==0) (K aU m2 h) ((↑(Aq s1 p):Int) !=95) (aW (↑(Aq s1 p):Int) 48 (K aU m2 h) (eM (↑(Aq s1 p):Int) 57 (K aU m2 h) (Cn (λy=>xB y s m h) s x m2 h))) (Cn (λy=>xB y s m h) s x m2 h)) (Cn (λy
 =>xB y s m h) s x m2 h)) ((↑p:Int)==0) (K aU m2 h) (eE (↑(Aq s1 p):Int) 95 (aW (↑(Aq s1 p):Int) 48 (K aU m2 h) (eM (↑(Aq s1 p):Int) 57 (K aU m2 h) (Cn (λy=>xB y s m h) s x m2 h))) (Cn (λy=>xB y s m h) s x m2 h)))))))
abbrev Hz(a:Prop)(b:ByteArray)(c:Nat)(d:UInt8->UInt8)(e:UInt8->Prop):Prop:=a/\∃(x:UInt8),b.data.toList[c]? =Option.some (d x)/\e x
noncomputable abbrev wH(a:UInt8):Int:=(↑a.toNat:Int)
abbrev sY(a:Nat)(b:ByteArray):Prop:=a<=b.size/\dT (List.all (List.take a (lV b)) rT)
noncomputable abbrev pM(a:Nat):Nat:=(↑a:Int).toNat
attribute [push_cast] Hz wH sY pM
def Lp(s:ByteArray)(m:MH)(h:PH)(K:CV->MH->PH->Prop):Prop:=
  cV ((↑s.size:Int)==0) (K aU m h) (decide ((↑s.size:Int)>32)) (K aU m h) (Hz (cF 0) s 0 (λb=>b) (λb=>aW (↑b.toNat:Int) 97 (K aU m h) (Hz (cF 0) s 0 (λb1=>b1) (λb1=>eM (wH b1) 122 (K aU m h) (jP (∃(x:Nat),aA (sY x s) (eQ (SV.at (MU s))) (aA (bA x) (m=m) (bN h h))) (λx=>sY x s->aW (↑x:Int) (↑s.size:Int) (Hz (cF (↑x:Int)) s (pM x) (λb2=>b2) (λb2=>aW (↑b2.toNat:Int) 97 (aW (↑b2.toNat:Int) 48 (hZ (wH b2 !=95) (K aU m h) (λy=>aA (sY y s) (vT s y x) (aA (eQ (SV.at (MU s))) (fU (bF x 1)=bT y) (bW (m=m) h h)))) (eM (wH b2) 57 (hZ (wH b2 !=95) (K aU m h) (λy=>aA (sY y s) (vT s y x) (aA (eQ (SV.at (MU s))) (fU (bF x 1)=bT y) (bW (m=m) h h)))) (∃(y
 :Nat),aA (sY y s) (vT s y x) (aA (eQ (SV.at (MU s))) (fU (bF x 1)=bT y) (bW (m=m) h h))))) (eM (wH b2) 122 (aW (↑b2.toNat:Int) 48 (hZ (wH b2 !=95) (K aU m h) (λy=>aA (sY y s) (vT s y x) (aA (eQ (SV.at (MU s))) (fU (bF x 1)=bT y) (bW (m=m) h h)))) (eM (wH b2) 57 (hZ (wH b2 !=95) (K aU m h) (λy=>aA (sY y s) (vT s y x) (aA (eQ (SV.at (MU s))) (fU (bF x 1)=bT y) (bW (m=m) h h)))) (∃(y:Nat),aA (sY y s) (vT s y x) (aA (eQ (SV.at (MU s))) (fU (bF x 1)=bT y) (bW (m=m) h h))))) (∃(y:Nat),aA (sY y s) (vT s y x) (aA (eQ (SV.at (MU s))) (fU (bF x 1)=bT y) (bW (m=m) h h)))))) (K fN m h)))))))
def j4(h:PH)(K:CV->MH->PH->Prop):CV->MH->PH->Prop:=λr m' h'=>∃m2 h2,(∀b o,m2 b=some o->m' b=some o)/\PH.le h h2/\PH.le h2 h'/\K r m2 h2
theorem j4.here{r:CV}(hK:K r m h):j4 h K r m h:=⟨m,h,λ_ _ e=>e,.refl _,.refl _,hK⟩
theorem j4.sub{r:CV}(hm:∀b o,m b=some o->m' b=some o)(hK:K r m h):j4 h K r m' h:=⟨m,h,hm,.refl _,.refl _,hK⟩
theorem jG.keeps{o:Obj}(hb:cG m h b)(hu:jG m m' b o):∀b o,m b=some o->m' b=some o:=λb' o' e=>by
 have hne:b'≠b:=λe'=>by rw[e',hb.m_]at e;cases e
 rw[hu.other b' hne,e]
theorem Q0:Sound Tryz.prog 135 SM:=by
 refine EX Tryz.func135 ?_;rintro cvs m h K ⟨s,rfl,hK⟩;refine⟨Vy s m h,rfl,aF,Gm s m h (j4 h K),by kernel_rfl,?_⟩;show Gm s m h (j4 h K);dsimp only[Gm,push_cast];have hl:=Lz s;refine aE (λh1=>?_) (λh1=>aE (λh2=>?_) (λh2 b m1 hb hm1=>?_))
 .refine .here (gR hK ?_);have:¬1<=s.size:=by omega
  simp[lI,this]
 .refine .here (gR hK ?_);have:¬s.size<=32:=by omega
  simp[lI,this]
 refine⟨⟨(0,b,m1),⟨by simp,hb,hm1,.inl rfl,by simp⟩,MT⟩,?_⟩;rintro⟨pos,b,mx⟩ ⟨hp,hb,hmx,hhead,hall⟩;simp only at hp hb hmx hhead hall;refine⟨s,pos,⟨hmx.at_⟩,λhge=>?_,λhlt m2 hm2=>?_⟩
 .refine .sub (jG.keeps hb hmx) (gR hK ?_);rw[List.take_of_length_le aC]at hall
  have h3:lower ((lV s).headD 0)=true:=by
   rcases hhead with e|e
   .omega
   .exact e
  have h1':1<=s.size:=by omega
  have h2':s.size<=32:=by omega
  simp only[lI,hall,h3,decide_eq_true h1',decide_eq_true h2'];rfl
 .have hm3:=hmx.trans hm2;obtain⟨c,hc⟩:∃c,(lV s)[pos]? =some c:=⟨(lV s)[pos]'(by omega),List.getElem?_eq_getElem _⟩
  obtain⟨hg,hc256⟩:=Um hc
  have hhd:pos=0->(lV s).headD 0=c:=λe=>by
   subst e;cases hcs:lV s with
   |nil=>rw[hcs]at hc;simp at hc
   |cons x l=>rw[hcs]at hc;simp at hc;simpa using hc
  have stop:¬((97<=(Utf8.decode s pos).1/\(Utf8.decode s pos).1<=122)\/(pos≠0/\((Utf8.decode s pos).1=95\/(48<=(Utf8.decode s pos).1/\(Utf8.decode s pos).1<=57))))->j4 h K (.val (.bool false)) m2 h:=by
   intro hn;refine .sub (jG.keeps hb hm3) (gR hK ?_);by_cases hlo:(s.get! pos).toNat<128
   .rw[Gu hlo,hg]at hn;by_cases hp0:pos=0
    .have:lower c=false:=by
      simp only[lower,Bool.and_eq_false_iff,decide_eq_false_iff_not];simp only at hn;omega
     simp only[lI,hhd hp0,this,Bool.and_false,Bool.false_and]
    .have:rT c=false:=by
      simp only[rT,lower,Bool.or_eq_false_iff,Bool.and_eq_false_iff,decide_eq_false_iff_not,beq_eq_false_iff_ne];simp only at hn;omega
     simp[lI,yH hc this]
   .have:rT c=false:=by
     simp only[rT,lower,Bool.or_eq_false_iff,Bool.and_eq_false_iff,decide_eq_false_iff_not,beq_eq_false_iff_ne];omega
    simp[lI,yH hc this]
  have go:((97<=(Utf8.decode s pos).1/\(Utf8.decode s pos).1<=122)\/(pos≠0/\((Utf8.decode s pos).1=95\/(48<=(Utf8.decode s pos).1/\(Utf8.decode s pos).1<=57))))->pos+1<=s.size/\jG m m2 b (.stringIter s (pos+1))/\lower ((lV s).headD 0)=true/\((lV s).take (pos+1)).all rT=true:=by
   intro hy
   have hlo:(s.get! pos).toNat<128:=by
    refine Decidable.byContradiction λhlo=>?_;have:=Ul hlo;omega
   rw[Gu hlo]at hm3;rw[Gu hlo,hg]at hy;simp only at hy;refine⟨aC,hm3,?_,?_⟩
   .rcases hhead with e|e
    .rw[hhd e];simp only[lower,Bool.and_eq_true,decide_eq_true_eq];omega
    .exact e
   .rw[wT hc,hall];simp only[rT,lower,Bool.true_and,Bool.or_eq_true,Bool.and_eq_true,decide_eq_true_eq,beq_iff_eq];omega
  have next:((97<=(Utf8.decode s pos).1/\(Utf8.decode s pos).1<=122)\/(pos≠0/\((Utf8.decode s pos).1=95\/(48<=(Utf8.decode s pos).1/\(Utf8.decode s pos).1<=57))))->_:=λhy=>(⟨(pos+1,b,m2),⟨(go hy).1,hb,(go hy).2.1,.inr (go hy).2.2.1,(go hy).2.2.2⟩,by show s.size-(pos+1)<s.size-pos;omega,MT⟩:∃(y:Nat×Nat×MH),(y.fst<=s.size/\cG m h y.snd.fst/\jG m y.snd.2 y.snd.fst (Obj.stringIter s y.fst)/\(y.fst=0\/lower ((lV s).headD 0)=true)/\(List.take y.fst (lV s)).all rT=true)/\s.size-y.fst<s.size-pos/\SV.at (At.val (Value.pointer (some (Addr.mk b 0 none))))=SV.at (At.val (Value.pointer (some (Addr.mk y.snd.fst 0 none))))/\m2=y.snd.2/\h=h/\True)
  clear go hm3 hm2 hall hhead hhd hmx hm1 hK
  repeat' (first|(refine aB (λ_=>?_) (λ_=>?_))|exact stop (by simp only[decide_eq_true_eq,decide_eq_false_iff_not,bne_iff_ne,ne_eq,beq_iff_eq,beq_eq_false_iff_ne,bne_eq_false_iff_eq,Bool.not_eq_true',Bool.not_eq_false']at*;omega)|exact next (by simp only[decide_eq_true_eq,decide_eq_false_iff_not,bne_iff_ne,ne_eq,beq_iff_eq,beq_eq_false_iff_ne,bne_eq_false_iff_eq,Bool.not_eq_true',Bool.not_eq_false']at*;omega))
theorem Q9:Sound Tryz.prog 122 SM:=by
 refine gZ Tryz.func122 ?_;rintro cvs m h K ⟨s,rfl,hK⟩;refine⟨VD s m h,rfl,aF,Lp s m h K,by kernel_rfl,?_⟩;dsimp only[Lp,push_cast];have hl:=Lz s;refine aB (λh1=>gR hK ?_) (λh1=>aE (λh2=>gR hK ?_) (λh2=>?_))
 .have:¬1<=s.size:=by have:(s.size:Int)=0:=(by simpa using h1);omega
  simp[lI,this]
 .have:¬s.size<=32:=by omega
  simp[lI,this]
 have h1:s.size≠0:=by intro e;rw[e]at h1;simp at h1
 obtain⟨c0,hc0⟩:∃c,s.data.toList[0]? =some c:=⟨s.data.toList[0]'(by simpa using(by omega:0<s.size)),List.getElem?_eq_getElem _⟩
 have hhd:(lV s).headD 0=c0.toNat:=by
  unfold lV;cases hcs:s.data.toList with
  |nil=>rw[hcs]at hc0;simp at hc0
  |cons x l=>rw[hcs]at hc0;simp at hc0;simp[hc0]
 refine⟨aC,c0,hc0,aE (λh3=>gR hK ?_) (λh3=>⟨aC,c0,hc0,aE (λh4=>gR hK ?_) (λh4=>?_)⟩)⟩
 .have:lower c0.toNat=false:=by simp only[lower,Bool.and_eq_false_iff,decide_eq_false_iff_not];omega
  simp only[lI,hhd,this,Bool.and_false,Bool.false_and]
 .have:lower c0.toNat=false:=by simp only[lower,Bool.and_eq_false_iff,decide_eq_false_iff_not];omega
  simp only[lI,hhd,this,Bool.and_false,Bool.false_and]
 refine⟨⟨0,⟨aC,by simp⟩,MT⟩,λi hi=>aE (λhlt=>?_) (λhge=>gR hK ?_)⟩
 .obtain⟨c,hc⟩:∃c,s.data.toList[i]? =some c:=⟨s.data.toList[i]'(by simpa using(by omega:i<s.size)),List.getElem?_eq_getElem _⟩
  have hcc:(lV s)[i]? =some c.toNat:=by simp[lV,hc]
  have stop:rT c.toNat=false->K (.val (.bool false)) m h:=λe=>gR hK (by simp[lI,yH hcc e]);have next:rT c.toNat=true->∃(y:Nat),(y<=s.size/\(List.take y (lV s)).all rT=true)/\s.size-y<s.size-i/\SV.at (At.val (Value.string s))=SV.at (At.val (Value.string s))/\SV.at (At.val (Value.int IntKind.i64 (IntKind.i64.wrap ((i:Int)+1))))=SV.at (At.val (Value.int IntKind.i64 (y:Int)))/\m=m/\h=h/\True:=λe=>⟨i+1,⟨aC,by rw[wT hcc,hi.2,e];rfl⟩,aC,MT⟩
  have hn:rT c.toNat=true↔(97<=c.toNat/\c.toNat<=122)\/(48<=c.toNat/\c.toNat<=57)\/c.toNat=95:=by
   simp only[rT,lower,Bool.or_eq_true,Bool.and_eq_true,decide_eq_true_eq,beq_iff_eq];omega
  have hn':rT c.toNat=false↔¬((97<=c.toNat/\c.toNat<=122)\/(48<=c.toNat/\c.toNat<=57)\/c.toNat=95):=by
   rw[<-hn];simp
  refine⟨aC,c,by simpa using hc,?_⟩;clear hK hi hhd hcc hn';rw[hn]at next
  have stop:=λe=>stop (by rw[<-Bool.not_eq_true,hn];exact e);clear hn
  repeat' (first|(refine aB (λ_=>?_) (λ_=>?_))|exact stop (by simp only[decide_eq_true_eq,decide_eq_false_iff_not,bne_iff_ne,ne_eq,beq_iff_eq,beq_eq_false_iff_ne,bne_eq_false_iff_eq,Bool.not_eq_true',Bool.not_eq_false']at*;omega)|exact next (by simp only[decide_eq_true_eq,decide_eq_false_iff_not,bne_iff_ne,ne_eq,beq_iff_eq,beq_eq_false_iff_ne,bne_eq_false_iff_eq,Bool.not_eq_true',Bool.not_eq_false']at*;omega))
 .have:=hi.2;rw[List.take_of_length_le aC]at this;have h5:lower c0.toNat=true:=by simp only[lower,Bool.and_eq_true,decide_eq_true_eq];omega
  have h1':1<=s.size:=by omega
  have h2':s.size<=32:=by omega
  simp only[lI,this,hhd,h5,decide_eq_true h1',decide_eq_true h2'];rfl
theorem LY:Tryz.prog.underlying 9=some .string:=by kernel_rfl
theorem Ad:KeyLaw Tryz.prog 9 (λv=>∃s,v= .string s):=by
 refine⟨⟨_,LY⟩,?_,?_,?_⟩
 .rintro _ w b ⟨s,rfl⟩
  have e:∀n:Nat,(Instr.checkKey b (n+1) 9 (.string s)).run Tryz.prog w= .ok () w:=λn=>by
   unfold Instr.checkKey;simp only[Sem.run_bind,run_underlying LY,Result.andThen];simp
  exact e 9999
 .rintro _ _ w ⟨s,rfl⟩ ⟨t,rfl⟩;refine⟨_,run_equalIn_string w 9999 9 s t LY,?_⟩;rw[beq_iff_eq];exact⟨λe=>by rw[wB e],λe=>by injection e with e;rw[e]⟩
 .rintro d _ _ r hd ⟨s,rfl⟩ ⟨t,rfl⟩ h;rw[LY]at hd;cases hd;simp only[Instr.sameNow,Option.some.injEq]at h;subst h;rw[beq_toListBytes,beq_iff_eq];exact⟨λe=>by rw[wB e],λe=>by injection e with e;rw[e]⟩
def eO{α:Type}(T:List α->α->Prop)(l:List α)(i:Nat):Prop:=∀j x,j<i->l[j]? =some x->T (l.take j) x
def Good{α:Type}(T:List α->α->Prop)(l:List α):Prop:=∀(j:Nat) x,l[j]? =some x->T (l.take j) x
theorem eO.zero{α:Type}{T:List α->α->Prop}{l:List α}:eO T l 0:=λ_ _ h=>by omega
theorem eO.succ{α:Type}{T:List α->α->Prop}{l:List α}{x:α}(h:eO T l i)(hx:l[i]? =some x)(t:T (l.take i) x):eO T l (i+1):=by
 intro j y hj hy;by_cases e:j=i
 .subst e;rw[hx]at hy;cases hy;exact t
 .exact h j y aC hy
theorem eO.all{α:Type}{T:List α->α->Prop}{l:List α}(h:eO T l i)(hi:l.length<=i):Good T l:=λj x hx=>h j x (by have:=(List.getElem?_eq_some_iff.1 hx).1;omega) hx
theorem Good.not{α:Type}{T:List α->α->Prop}{l:List α}{x:α}(hx:l[i]? =some x)(t:¬T (l.take i) x):¬Good T l:=λh=>t (h i x hx)
def PB(pre:List lQ)(c:lQ):Prop:=lI c.name=true/\dR c.kind=true/\c.name∉pre.map lQ.name
def zU(pre:List tV)(t:tV):Prop:=lI t.name=true/\1<=t.key/\t.key<=t.columns.length/\t.name∉pre.map tV.name/\Good PB t.columns
def gI(s:oF)(t:Int):List Int:=if t<0 then[]else match s.tables[t.toNat]? with|none=>[]|some t=>t.columns.map lQ.kind
def sL(s:oF)(t:Int):Bool:=decide (0<=t)&&decide (t<s.tables.length)
def aS(v:cH):CV:=.val (.agg ⟨v.enc⟩)
def nD(s:oF):Prop:=∀t∈s.tables,t.columns.length<=8
def YH:Vc.Spec:=λcvs m h K=>∃v s t,cvs=[aS v,cI t]/\gJ h s v/\K (cB (sL s t)) m h
def rR:Vc.Spec:=λcvs m h K=>∃v s t,cvs=[aS v,cI t]/\gJ h s v/\nD s/\∀sl h',PH.le h h'->Ints h' sl (gI s t)->K (cS sl) m h'
noncomputable def MD(m:MH)(h:PH):Ctx:=
 dL [] [(5,{A:=Nat×Sl×List Int,st:=λx=>cD 35 37 [(5,.at (.lst 32)),(22,sv x.2.1),(23,iv x.2.1.len),(24,iv x.1)] [(32,.lst 3 1 (x.2.2.map eI))] m h})] [] [] false
noncomputable def WZ(m:MH)(h:PH):Ctx:=
 dL [(104,YH)] [(5,{A:=Nat×Sl×List Int,st:=λx=>cD 38 40 [(5,.at (.lst 19)),(25,sv x.2.1),(26,iv x.2.1.len),(27,iv x.1)] [(19,.lst 3 1 (x.2.2.map eI))] m h})] [] [] false
noncomputable abbrev gS(a:cH):Int:=aG a.tables
attribute [push_cast] gS
def Lu(v:cH)(t:Int)(m:MH)(h:PH)(K:CV->MH->PH->Prop):Prop:=
  gA t 0 (K (z7 (decide (t<gS v))) m h) (K aU m h)
abbrev dG(a:Option Addr)(b:Int)(c:Sl)(d:Nat->Nat->Sl->Prop):Prop:=bD (λx x1=>aH (bE a x x1) (0<=b) (b<aG c) (∃(x2:Sl),d x x1 x2))
noncomputable abbrev oP(a:cH):Option Addr:=a.tables.a
noncomputable abbrev aL(a:Sl):List Value:=iE (dV a)
abbrev HH(a:cH)(b:Int)(c:MH)(d:PH)(e g:Nat->Nat)(i:Nat)(j:Sl->Sl)(k:Sl->(Nat×Sl×List Int->Prop)->(Nat×Sl×List Int)->Prop)(l:(Nat×Sl×List Int->Prop)->(Nat×Sl×List Int->Nat)->(Nat×Sl×List Int)->Prop):Prop:=dG (oP a) b a.tables (λx x1 x2=>aM c d (e x) (fR (g x1) b i+1) (aL (j x2))/\∃(x3:Nat×Sl×List Int->Prop)(x4:Nat×Sl×List Int->Nat),(∃(x5:Nat×Sl×List Int),k x2 x3 x5)/\∀(x5:Nat×Sl×List Int),l x3 x4 x5)
abbrev bB(a b:Sl):Prop:=Wt a=Wt b
noncomputable abbrev kA(a:Nat×Sl×List Int):Sl:=a.2.1
abbrev bZ(a b:Sl):Prop:=bT a.len=bT b.len
abbrev pD(a:List Int):Prop:=Option.some (Own.lst 3 1 [])=Option.some (Own.lst 3 1 (List.map eI a))
noncomputable abbrev pN(a:Nat×Sl×List Int):List Int:=a.2.2
abbrev iA(a:Nat):Prop:=a<=140737488355328
noncomputable abbrev kZ(a:List (List Value))(b:Nat):Nat:=a.length+b
noncomputable abbrev fK(a:List Int):List (List Value):=List.map eI a
abbrev xC(a:List Int):Prop:=iA (kZ (fK a) 1*8)
abbrev eF(a:List (List Value)):Prop:=a.length<140737488355328
abbrev HG(a:Prop)(b:Nat×Sl×List Int)(c:Nat->Nat->lQ->Prop)(d:lQ->(Nat×Sl×List Int)->Prop)(e:Prop):Prop:=a->aW (↑b.1:Int) (aG (kA b)) (bD (λx x1=>aH (bE (kA b).a x x1) (0<=(↑b.1:Int)) ((↑b.1:Int)<aG (kA b)) (∃(x2:lQ),aH (c x x1 x2) (xC (pN b)) (eF (fK (pN b))) (∃(x3:Nat×Sl×List Int),d x2 x3)))) e
noncomputable abbrev nI(a:ByteArray)(b:Int):List Value:=jI (Value.string a) (eH b)
abbrev rF(a:List (List Value))(b:List Int):Prop:=Option.some (Own.lst 3 1 a)=Option.some (Own.lst 3 1 (List.map eI b))
noncomputable abbrev cQ(a:List Value):List (List Value):=[a]
abbrev qZ(a:List Int)(b:Int)(c:List Int):Prop:=rF (fK a++cQ (bV b)) c
abbrev cY(a b:PH)(c d:Prop):Prop:=aT (PH.le a b) c d
abbrev bX(a:PH)(b:Nat)(c:List (List Value))(d:Sl->PH->Prop):Prop:=∀(x:Sl)(x1:PH),cY a x1 (cN x1 x b c) (d x x1)
attribute [push_cast] dG oP aL HH bB kA bZ pD pN iA kZ fK xC eF HG nI rF cQ qZ cY bX
def OI(v:cH)(t:Int)(m:MH)(h:PH)(K:CV->MH->PH->Prop):Prop:=
  aW t 0 (K lN m h) (gA t (gS v) (K lN m h) (HH v t m h (λb=>b) (λo=>o) 5 (λy=>y) (λy I x=>aA (I x) (eL 32) (aA (bB y (kA x)) (bZ y (kA x)) (aA (bA x.1) (pD (pN x)) (aA (m=m) (h=h) True)))) (λI m1 x=>HG (I x) x (λb o y=>aM m h b (bI o x.1 2) (nI y.name y.kind)) (λy x1=>aA (I x1) (m1 x1<m1 x) (aA (eL 32) (bB (kA x) (kA x1)) (aA (bZ (kA x) (kA x1)) (fU (bF x.1 1)=bT x1.1) (aA (qZ (pN x) y.kind (pN x1)) (m=m) (bN h h))))) (bX h 1 (fK (pN x)) (λs h1=>K (lR s) m h1)))))
abbrev jM(a:cH->oF->Prop):Prop:=∃(x:cH)(x1:oF),a x x1
noncomputable abbrev rV(a:cH):Value:=eH a.version
noncomputable abbrev rU(a:cH):Value:=dV a.tables
noncomputable abbrev dU(a:cH):List Value:=jI (rV a) (rU a)
noncomputable abbrev fX(a:cH):CV:=mM (dU a)
abbrev sH(a:Int):Prop:=a<=281474976710656
attribute [push_cast] jM rV rU dU fX sH
def Ox(v:cH)(t:Int)(m:MH)(h:PH)(K:CV->MH->PH->Prop):Prop:=
  jM (λv1 s=>∃(t1:Int),aA (aZ (fX v) t=aZ (fX v1) t1) (gJ h s v1) (branch (!(sL s t1)) (K lN m h) (dG (oP v) t v.tables (λb o y=>aA (aM m h b (fR o t 5+1) (aL y)) (cF 0) (aA (cF (aG y)) (sH (aG y*8)) (sH (aG y)/\HH v t m h (λb1=>b1) (λo1=>o1) 5 (λy1=>y1) (λy1 I x=>aA (I x) (eL 19) (aA (bB y1 (kA x)) (bZ y1 (kA x)) (aA (bA x.1) (pD (pN x)) (aA (m=m) (h=h) True)))) (λI m1 x=>HG (I x) x (λb1 o1 y1=>aM m h b1 (bI o1 x.1 2) (nI y1.name y1.kind)) (λy1 x1=>aA (I x1) (m1 x1<m1 x) (aA (eL 19) (bB (kA x) (kA x1)) (aA (bZ (kA x) (kA x1)) (fU (bF x.1 1)=bT x1.1) (aA (qZ (pN x) y1.kind (pN x1)) (m=m) (bN h h))))) (bX h 1 (fK (pN x)) (λs1 h1=>
 K (lR s1) m h1)))))))))
theorem aX.part{o:Nat}{l:List Value}(r:aX h b o l)(k n:Nat):aX h b (o+k) ((l.drop k).take n):=
 ⟨λi v e=>by
  have:l[k+i]? =some v:=by
   rw[List.getElem?_take]at e;split at e
   .rwa [List.getElem?_drop]at e
   .cases e
  have:=r.rd (k+i) v this
  rwa [<-Nat.add_assoc]at this⟩
theorem Bp.at{s:Sl}{l:List lQ}(r:Bp h s l){x:lQ}(hi:l[i]? =some x):∃b o,s.a=some ⟨b,o,none⟩/\aX h b (o+i*2) (lQ.enc x):=by
 obtain⟨b,o,v,e,k,rfl⟩:=bL.at r hi;exact⟨b,o,e,k⟩
theorem BM{t:Int}(h:¬(0<=t/\t<s.tables.length)):gI s t=[]:=by
 unfold gI;split
 .rfl
 .rw[List.getElem?_eq_none aC]
theorem G0{t:Int}{x:tV}(h:0<=t)(hx:s.tables[t.toNat]? =some x):gI s t=x.columns.map lQ.kind:=by
 unfold gI;rw[if_neg aC,hx]
theorem gJ.table{v:cH}(hs:gJ h s v){t:Int}(h0:0<=t)(h1:t<(v.tables.len:Int)):∃x b o w,s.tables[t.toNat]? =some x/\v.tables.a=some ⟨b,o,none⟩/\aX h b (o+t.toNat*5) (bO.enc w)/\GF h x w:=by
 have hl:=hs.tables.slen;have hx:s.tables[t.toNat]? =some (s.tables[t.toNat]'(by omega)):=List.getElem?_eq_getElem _;obtain⟨b,o,w,e,r,k⟩:=hs.tables.at hx;exact⟨_,b,o,w,hx,e,r,k⟩
theorem fT{α β:Type}{f:α->β}{l:List α}{x:α}(hx:l[i]? =some x):(l.take (i+1)).map f=(l.take i).map f++[f x]:=by
 rw[List.take_add_one,hx];simp
theorem JB:Sound Tryz.prog 104 YH:=by
 refine gZ Tryz.func104 ?_;rintro cvs m h K ⟨v,s,t,rfl,hs,hK⟩;refine⟨dL [] [] [] [] false,rfl,aF,Lu v t m h K,by kernel_rfl,?_⟩;dsimp only[Lu,push_cast];have hl:=hs.tables.slen;refine aE (λh1=>gR hK ?_) (λh1=>gR hK ?_)
 .have h1:0<=t:=h1;simp only[sL,hl,decide_eq_true h1,Bool.true_and]
 .have h1:¬0<=t:=by omega
  simp only[sL,decide_eq_false h1,Bool.false_and]
theorem CT:Sound Tryz.prog 44 rR:=by
 refine gZ Tryz.func44 ?_;rintro cvs m h K ⟨v,s,t,rfl,hs,h8,hK⟩;refine⟨MD m h,rfl,aF,OI v t m h K,by kernel_rfl,?_⟩;dsimp only[OI,push_cast];have hl:=hs.tables.slen;have hnil:gI s t=[]->K (.val (.slice none 0 0)) m h:=λe=>hK ⟨none,0,0⟩ h (.refl _) (by rw[e];exact⟨.nil _ _,by simp⟩);refine aE (λh1=>hnil (BM aC)) (λh1=>aE (λh2=>hnil (BM aC)) (λh2=>?_));obtain⟨x,b,o,w,hx,ea,hr,hrep⟩:=hs.table (t:=t) aC aC;have hx8:=h8 x (List.mem_of_getElem? hx);have hcl:=bL.slen hrep.columns;rw[G0 aC hx]at hK;refine⟨b,o,ea,aC,aC,w.columns,.imm (aX.part hr 1 1),λ⟨i,sl,l⟩=>sl=w.columns/\i<=x.columns.length/\l=(x.columns.take i).map lQ.kind,λ⟨i,_,_⟩=>x.columns.length-i,⟨(0,w.columns,[]),⟨rfl,by simp,by simp⟩,MT⟩,?_⟩;rintro⟨i,_,_⟩ ⟨rfl,hi,rfl⟩;dsimp only;refine aE (λhlt=>?_) (λhge sl h' hle hrow=>?_)
 .obtain⟨c,hc⟩:=eW hcl hlt;obtain⟨b,o,e,r⟩:=Bp.at hrep.columns hc;refine⟨b,o,e,aC,hlt,c,.imm r,?_,?_,(i+1,w.columns,(x.columns.take (i+1)).map lQ.kind),⟨rfl,aC,rfl⟩,by show x.columns.length-(i+1)<x.columns.length-i;omega,?_⟩
  .simp;omega
  .simp;omega
  .rw[fT hc,List.map_append];exact MT
 .rw[List.take_of_length_le aC]at hrow;exact hK sl h' hle ⟨hrow,by simp;omega⟩
theorem F0:Sound Tryz.prog 72 rR:=by
 refine gZ Tryz.func72 ?_;rintro cvs m h K ⟨v,s,t,rfl,hs,h8,hK⟩;refine⟨WZ m h,rfl,aD JB aF,Ox v t m h K,by kernel_rfl,?_⟩;dsimp only[Ox,push_cast];have hl:=hs.tables.slen;have hnil:gI s t=[]->K (.val (.slice none 0 0)) m h:=λe=>hK ⟨none,0,0⟩ h (.refl _) (by rw[e];exact⟨.nil _ _,by simp⟩);refine⟨v,s,t,rfl,hs,aB (λh1=>hnil (BM ?_)) (λh1=>?_)⟩
 .simp only[sL,Bool.not_eq_true',Bool.and_eq_false_iff,decide_eq_false_iff_not]at h1;omega
 simp only[sL,Bool.not_eq_false',Bool.and_eq_true,decide_eq_true_eq]at h1;obtain⟨x,b,o,w,hx,ea,hr,hrep⟩:=hs.table (t:=t) aC aC;have hx8:=h8 x (List.mem_of_getElem? hx);have hcl:=bL.slen hrep.columns;rw[G0 aC hx]at hK;refine⟨b,o,ea,aC,aC,w.columns,.imm (aX.part hr 1 1),aC,aC,aC,aC,b,o,ea,aC,aC,w.columns,.imm (aX.part hr 1 1),λ⟨i,sl,l⟩=>sl=w.columns/\i<=x.columns.length/\l=(x.columns.take i).map lQ.kind,λ⟨i,_,_⟩=>x.columns.length-i,⟨(0,w.columns,[]),⟨rfl,by simp,by simp⟩,MT⟩,?_⟩;rintro⟨i,_,_⟩ ⟨rfl,hi,rfl⟩;dsimp only;refine aE (λhlt=>?_) (λhge sl h' hle hrow=>?_)
 .obtain⟨c,hc⟩:=eW hcl hlt;obtain⟨b,o,e,r⟩:=Bp.at hrep.columns hc;refine⟨b,o,e,aC,hlt,c,.imm r,?_,?_,(i+1,w.columns,(x.columns.take (i+1)).map lQ.kind),⟨rfl,aC,rfl⟩,by show x.columns.length-(i+1)<x.columns.length-i;omega,?_⟩
  .simp;omega
  .simp;omega
  .rw[fT hc,List.map_append];exact MT
 .rw[List.take_of_length_le aC]at hrow;exact hK sl h' hle ⟨hrow,by simp;omega⟩
def Sub(m m':MH):Prop:=∀b o,m b=some o->m' b=some o
theorem Sub.refl(m:MH):Sub m m:=λ_ _ e=>e
theorem Sub.free(h:Sub m m')(hb:m' b=none):m b=none:=by
 cases e:m b with
 |none=>rfl
 |some o=>rw[h b o e]at hb;cases hb
theorem Sub.upd{mx:MH}(h:Sub m mx)(hb:m b=none)(ho:∀b',b'≠b->m' b'=mx b'):Sub m m':=λb' o e=>by
 have hne:b'≠b:=λe'=>by rw[e',hb]at e;cases e
 rw[ho b' hne,h b' o e]
def GG(m:MH)(b:Nat)(ns:List ByteArray):Prop:=yM m b (ns.map λn=>(.string n,.bool true))
theorem GG.other{b':Nat}{ns:List ByteArray}(h:GG m b ns)(hne:b≠b')(ho:∀c,c≠b'->m' c=m c):GG m' b ns:=by
 obtain⟨es,cl,h1,h2⟩:=h.ex;exact⟨es,cl,by rw[ho b hne,h1],h2⟩
def Wd:Vc.Spec:=λcvs m h K=>∃v s,cvs=[aS v]/\gJ h s v/\∀r:Bool,(r=true↔Good zU s.tables)->K (cB r) m h
def VZ:Vc.Spec:=λcvs m h K=>∃v s t,∃i:Nat,cvs=[aS v,cI i]/\gJ h s v/\s.tables[i]? =some t/\∀r:Bool,(r=true↔zU (s.tables.take i) t)->K (cB r) m h
noncomputable def VG(v:cH)(h:PH):Ctx:=
 dL [(135,SM)] [(3,{A:=Nat×Nat×MH,st:=λ⟨i,b1,mx⟩=>cD 79 80 [(3,vv (.map (some b1))),(11,sv v.tables),(12,iv v.tables.len),(13,iv i)] [] mx h}),
  (10,{A:=Nat×Nat×Nat×Nat×Sl×MH,st:=λ⟨i,k,b1,b2,sl,mx⟩=>cD 79 80 [(3,vv (.map (some b1))),(6,vv (.map (some b2))),(11,sv v.tables),(12,iv v.tables.len),(13,iv i),(45,sv sl),(46,iv sl.len),(47,iv k)] [] mx h})] [] [] false
noncomputable def WO(v:cH)(i:Nat)(m:MH)(h:PH):Ctx:=
 dL [(122,SM),(93,Wf)] [(5,{A:=Nat×bO,st:=λ⟨k,w⟩=>cD 94 96 [(1,iv i),(2,.at (.ptr 2 0)),(5,.at (.ptr 5 0)),(6,iv k)] [(2,.cells 43 (v.enc.map .val)),(5,.cells 86 (w.enc.map .val))] m h}),
  (10,{A:=Nat×bO,st:=λ⟨k,w⟩=>cD 94 96 [(5,.at (.ptr 5 0)),(53,iv w.columns.len),(54,iv k)] [(5,.cells 86 (w.enc.map .val))] m h}),
  (15,{A:=Nat×Nat×bO,st:=λ⟨k,j,w⟩=>cD 94 96 [(5,.at (.ptr 5 0)),(7,iv k),(8,iv j),(53,iv w.columns.len),(54,iv k)] [(5,.cells 86 (w.enc.map .val))] m h})] [] [] false
abbrev AH(a:MH)(b:PH)(c:Nat)(d:Nat->MH->Prop):Prop:=∀(x:Nat)(x1:MH),aT (cG a b x) (jG a x1 x (Obj.map (Array.mk []) c)) (d x x1)
noncomputable abbrev Bf(a:Nat):Value:=Value.map (Option.some a)
abbrev DD(a b:Nat):Prop:=SV.at (At.val (Bf a))=SV.at (At.val (Bf b))
abbrev kX(a:cH):Prop:=aJ a.tables
abbrev gH(a:cH):Prop:=bK a.tables
abbrev CB(a:Prop)(b:Nat)(c:cH)(d:Nat->Nat->bO->Prop)(e:Prop):Prop:=a->aW (↑b:Int) (aG c.tables) (bD (λx x1=>aH (bE (oP c) x x1) (0<=(↑b:Int)) ((↑b:Int)<aG c.tables) (∃(x2:bO),d x x1 x2))) e
noncomputable abbrev tM(a:bO):List Value:=aR (Value.string a.name) (dV a.columns) (aR (eH a.key) (dV a.references) (aL a.checks))
noncomputable abbrev iY(a:ByteArray):CV:=CV.val (Value.string a)
abbrev mC(a:CV->MH->PH->Prop)(b:Nat×Nat×MH)(c:PH):Prop:=a aU (fZ b) c
abbrev pL(a:Value->Prop):Prop:=KeyLaw Proofs.Tryz.prog 9 a
abbrev HN(a:MH)(b:Nat)(c:(Value->Prop)->Prop)(d:(List (Value×Bool))->(Value×Bool)->Prop)(e:Prop)(g:Value)(i:Prop):Prop:=∃(x:List (Value×Bool))(x1:Value->Prop),aA (yM a b (List.map (fun(x2:Value×Bool)=>(x2.1,Value.bool x2.2)) x)) (pL x1) (aA (c x1) (∀(x2:Value×Bool),List.Mem x2 x->x1 x2.1) (((∀(x2:Value×Bool),d x x2)->e)/\∀(x2:Bool),gG (List.Mem (g,x2) x) x2 i e))
noncomputable abbrev CM(a:bO):Value:=Value.string a.name
abbrev nL(a b:Prop):Prop:=aT a b False
noncomputable abbrev Ak(a:bO):Int:=aG a.columns
abbrev uO(a:(List (Value×Value))->(Value->Prop)->Prop):Prop:=∃(x:List (Value×Value))(x1:Value->Prop),a x x1
abbrev uK(a:Value×Value)(b:List (Value×Value))(c:Value->Prop):Prop:=List.Mem a b->c a.1
noncomputable abbrev kD(a b:Value)(c:List (Value×Value)):List (Value×Value):=(a,b)::c
noncomputable abbrev uM(a b:Value):List (Value×Value):=kD a b []
noncomputable abbrev yT:Value:=Value.bool true
abbrev Mk(a:Nat->Option Obj)(b:Nat)(c:(Value->Prop)->Prop)(d:Value)(e:MH->Prop):Prop:=uO (λx x1=>aA (yM a b x) (pL x1) (aA (c x1) (∀(x2:Value×Value),uK x2 x x1) ((∀(x2:Value×Value),nL (List.Mem x2 x) (x2.1=d))/\∀(x2:MH),aT (iK a x2 b) (yM x2 b (x++uM d yT)) (e x2))))
noncomputable abbrev FK(a:Nat×Nat×Nat×Nat×Sl×MH):Nat:=a.2.2.2.1
abbrev cC(a b:Nat):Prop:=bT a=bT b
noncomputable abbrev yV(a:Nat×Nat×Nat×Nat×Sl×MH):Sl:=a.2.2.2.2.1
noncomputable abbrev wM(a:Nat×Nat×Nat×Nat×Sl×MH):Nat->Option Obj:=a.2.2.2.2.2
noncomputable abbrev FI(a:lQ):Value:=Value.string a.name
abbrev Mh(a:lQ)(b:Int)(c:Prop)(d:(Nat×Nat×Nat×Nat×Sl×MH)->Prop):Prop:=branch (a.kind !=b) c (∃(x:Nat×Nat×Nat×Nat×Sl×MH),d x)
abbrev HU(a b:Nat×Nat×Nat×Nat×Sl×MH):Prop:=DD a.2.2.1 b.2.2.1
abbrev HV(a b:Nat×Nat×Nat×Nat×Sl×MH):Prop:=DD (FK a) (FK b)
abbrev HW(a b:Nat×Nat×Nat×Nat×Sl×MH):Prop:=cC a.1 b.1
abbrev HX(a b:Nat×Nat×Nat×Nat×Sl×MH):Prop:=bB (yV a) (yV b)
abbrev HY(a b:Nat×Nat×Nat×Nat×Sl×MH):Prop:=bZ (yV a) (yV b)
abbrev HZ(a b:Nat×Nat×Nat×Nat×Sl×MH):Prop:=fU (bF a.2.1 1)=bT b.2.1
attribute [push_cast] AH Bf DD kX gH CB tM iY mC pL HN CM nL Ak uO uK kD uM yT Mk FK cC yV wM FI Mh HU HV HW HX HY HZ
def Gr(v:cH)(m:MH)(h:PH)(K:CV->MH->PH->Prop):Prop:=
  AH m h 0 (λb m1=>∃(I:Nat×Nat×MH->Prop)(m2:Nat×Nat×MH->Nat),Mi (λx=>aA (I x) (DD b (iR x)) (aA (kX v) (gH v) (aH (bA x.1) (m1=fZ x) (h=h) True))) (λx=>CB (I x) x.1 v (λb1 o y=>aM (fZ x) h b1 (bI o x.1 5) (tM y)/\∃(s:ByteArray),gU (eA (iY y.name) (iY s)) (!(lI s)) (mC K x h) (HN (fZ x) (iR x) (λO=>O (CM y)) (λk e=>nL (List.Mem e k) (e.1=CM y)) (aW y.key 1 (mC K x h) (eM y.key (Ak y) (mC K x h) (Mk (fZ x) (iR x) (λO=>O (CM y)) (CM y) (λm3=>AH m3 h 0 (λb2 m4=>∃(I1:Nat×Nat×Nat×Nat×Sl×MH->Prop)(m5:Nat×Nat×Nat×Nat×Sl×MH->Nat),(∃(x1:Nat×Nat×Nat×Nat×Sl×MH),aA (I1 x1) (DD (iR x) x1.2.2.1) (aA (DD b2 (FK x1))
 (kX v) (aA (gH v) (cC x.1 x1.1) (aA (bB y.columns (yV x1)) (bZ y.columns (yV x1)) (aH (bA x1.2.1) (m4=wM x1) (h=h) True)))))/\∀(x1:Nat×Nat×Nat×Nat×Sl×MH),I1 x1->aW (↑x1.2.1:Int) (aG (yV x1)) (bD (λb3 o1=>aH (bE (yV x1).a b3 o1) (0<=(↑x1.2.1:Int)) ((↑x1.2.1:Int)<aG (yV x1)) (∃(y1:lQ),aM (wM x1) h b3 (bI o1 x1.2.1 2) (nI y1.name y1.kind)/\∃(s1:ByteArray),gU (eA (iY y1.name) (iY s1)) (!(lI s1)) (K aU (wM x1) h) (HN (wM x1) (FK x1) (λO=>O (FI y1)) (λk e=>nL (List.Mem e k) (e.1=FI y1)) (Mk (wM x1) (FK x1) (λO=>O (FI y1)) (FI y1) (λm6=>Mh y1 3 (Mh y1 4 (Mh y1 5 (K aU m6 h) (λx2=>aA (I1 x2) (m5 x2<m5 x1) (aA (HU x1 x2) (HV x1 x2)
 (aA (kX v) (gH v) (aA (HW x1 x2) (HX x1 x2) (aA (HY x1 x2) (HZ x1 x2) (aA (m6=wM x2) (h=h) True))))))) (λx2=>aA (I1 x2) (m5 x2<m5 x1) (aA (HU x1 x2) (HV x1 x2) (aA (kX v) (gH v) (aA (HW x1 x2) (HX x1 x2) (aA (HY x1 x2) (HZ x1 x2) (aA (m6=wM x2) (h=h) True))))))) (λx2=>aA (I1 x2) (m5 x2<m5 x1) (aA (HU x1 x2) (HV x1 x2) (aA (kX v) (gH v) (aA (HW x1 x2) (HX x1 x2) (aA (HY x1 x2) (HZ x1 x2) (aA (m6=wM x2) (h=h) True)))))))) (FI y1) (K aU (wM x1) h))))) (∃(x2:Nat×Nat×MH),aA (I x2) (m2 x2<m2 x) (aA (DD x1.2.2.1 (iR x2)) (kX v) (aA (gH v) (fU (bF x1.1 1)=bT x2.1) (aA (wM x1=fZ x2) (h=h) True))))))))) (CM y) (mC K x h))) (K fN (fZ x) h)))
abbrev HA(a:(Nat×bO->Prop)->(Nat×bO)->Prop)(b:(Nat×bO->Prop)->(Nat×bO->Nat)->(Nat×bO)->Prop):Prop:=∃(x:Nat×bO->Prop)(x1:Nat×bO->Nat),(∃(x2:Nat×bO),a x x2)/\∀(x2:Nat×bO),b x x1 x2
noncomputable abbrev FL(a:cH):List At:=oW (lT a.version) (tU a.tables)
abbrev bM(a:cH):Prop:=eQ (oQ 43 (FL a))
noncomputable abbrev jH(a:At):List At:=[a]
noncomputable abbrev eX(a:bO):List At:=lS (MU a.name) (tU a.columns) (lS (lT a.key) (tU a.references) (jH (tU a.checks)))
abbrev AJ(a:bO)(b:Nat×bO):Prop:=oQ 86 (eX a)=oQ 86 (eX b.2)
abbrev H0(a:Option Addr)(b:Int)(c:Nat)(d:Sl)(e:Nat->Nat->ByteArray->Prop):Prop:=bD (λx x1=>aH (bE a x x1) (b<=(↑c:Int)) ((↑c:Int)<aG d) (∃(x2:ByteArray),e x x1 x2))
noncomputable abbrev dJ(a:Nat):Nat:=a+0
noncomputable abbrev qJ(a:Nat×Nat×bO):Nat:=a.2.1
noncomputable abbrev jF(a:Nat×Nat×bO):bO:=a.2.2
attribute [push_cast] HA FL bM jH eX AJ H0 dJ qJ jF
def Og(v:cH)(i:Nat)(m:MH)(h:PH)(K:CV->MH->PH->Prop):Prop:=
  bD (λb o=>aH (bE (oP v) b o) (0<=(↑i:Int)) ((↑i:Int)<aG v.tables) (∃(y:bO),aM m h b (bI o i 5) (tM y)/\∃(s:ByteArray),eA (iY y.name) (iY s)/\cV (!(lI s)) (K aU m h) (Ak y==0) (K aU m h) (aW y.key 1 (K aU m h) (eM y.key (Ak y) (K aU m h) (HA (λI x=>aA (I x) (eQ (bT i)) (aA (eP 2) eT (aA (bA x.1) (bM v) (aA (AJ y x) (m=m) (bN h h))))) (λI m1 x=>I x->aW (↑x.1:Int) (↑i:Int) (H0 (oP v) 0 x.1 v.tables (λb1 o1 y1=>aM m h b1 (dJ (bI o1 x.1 5)) (iE (Value.string y1))/\branch (y1.toList==x.2.name.toList) (K aU m h) (∃(x1:Nat×bO),aA (I x1) (m1 x1<m1 x) (aA (eQ (bT i)) fQ (aA eT (fU (bF x.1 1)=bT x1.1) (aA (bM v) (AJ x.2 x1) (bW (m=m) h h))))))) (HA (λI1
 x1=>aA (I1 x1) eT (aA (bZ x.2.columns x1.2.columns) (bA x1.1) (aH (AJ x.2 x1) (m=m) (h=h) True))) (λI1 m2 x1=>I1 x1->aW (↑x1.1:Int) (aG x1.2.columns) (bD (λb1 o1=>aH (bE x1.2.columns.a b1 o1) (0<=(↑x1.1:Int)) ((↑x1.1:Int)<aG x1.2.columns) (∃(y1:ByteArray),aM m h b1 (dJ (bI o1 x1.1 2)) (iE (Value.string y1))/\∃(s1:ByteArray),gU (eA (iY y1) (iY s1)) (!(lI s1)) (K aU m h) (bD (λb2 o2=>aH (bE x1.2.columns.a b2 o2) (0<=(↑x1.1:Int)) ((↑x1.1:Int)<aG x1.2.columns) (∃(y2:Int),aM m h b2 (bI o2 x1.1 2+1) (bV y2)/\∃(k:Int),gU (nJ y2 k) (!(dR k)) (K aU m h) (∃(I2:Nat×Nat×bO->Prop)(m3:Nat×Nat×bO->Nat),(∃(x2:Nat×Nat×bO),aA (I2 x2) eT (aA (cC x1.1 x2.1) (bA (qJ x2)) (aA (bZ
 x1.2.columns (jF x2).columns) (cC x1.1 x2.1) (aA (oQ 86 (eX x1.2)=oQ 86 (eX (jF x2))) (m=m) (bN h h)))))/\∀(x2:Nat×Nat×bO),I2 x2->aW (↑(qJ x2):Int) (↑x2.1:Int) (H0 (jF x2).columns.a 0 (qJ x2) (jF x2).columns (λb3 o3 y3=>aM m h b3 (dJ (bI o3 (qJ x2) 2)) (iE (Value.string y3))/\H0 (jF x2).columns.a 0 x2.1 (jF x2).columns (λb4 o4 y4=>aM m h b4 (dJ (bI o4 x2.1 2)) (iE (Value.string y4))/\branch (y3.toList==y4.toList) (K aU m h) (∃(x3:Nat×Nat×bO),aA (I2 x3) (m3 x3<m3 x2) (aA eT (cC x2.1 x3.1) (aA (fU (bF (qJ x2) 1)=bT (qJ x3)) (bZ (jF x2).columns (jF x3).columns) (aA (cC x2.1 x3.1) (oQ 86 (eX (jF x2))=oQ 86 (eX (jF x3))) (bW (m=m) h h)))))))) (∃(x3:Nat×bO),aA (I1 x3) (m2
 x3<m2 x1) (aA eT (bZ (jF x2).columns x3.2.columns) (aA (fU (bF x2.1 1)=bT x3.1) (AJ (jF x2) x3) (aA (m=m) (h=h) True))))))))))) (K fN m h)))))))))
theorem GG.snoc{ns:List ByteArray}{n:ByteArray}(h:yM m b ((ns.map λn=>(Value.string n,Value.bool true))++[(.string n,.bool true)])):GG m b (ns++[n]):=by
 unfold GG;rw[List.map_append];exact h
theorem GG.look{ns:List ByteArray}(h:GG m b ns):yM m b (List.map (λp:Value×Bool=>(p.fst,Value.bool p.snd)) (ns.map λn=>(Value.string n,true))):=by
 rw[List.map_map];exact h
theorem Eh{β:Type}{ns:List ByteArray}{x:β}:∀e:Value×β,e∈(ns.map λn=>(Value.string n,x))->∃s,e.fst= .string s:=λe he=>by
 obtain⟨n,_,rfl⟩:=List.mem_map.1 he;exact⟨n,rfl⟩
theorem NU{β:Type}{ns:List ByteArray}{x:β}{n:ByteArray}(h:n∉ns):∀e:Value×β,e∈(ns.map λn=>(Value.string n,x))->e.fst= .string n->False:=λe he h'=>by
 obtain⟨n',hn,rfl⟩:=List.mem_map.1 he;exact h (by have:n'=n:=(by injection h');rwa [<-this])
theorem Cj{β:Type}{ns:List ByteArray}{x:β}{n:ByteArray}(h:∀e:Value×β,e∈(ns.map λn=>(Value.string n,x))->e.fst= .string n->False):n∉ns:=λhn=>h (.string n,x) (List.mem_map.2 ⟨n,hn,rfl⟩) rfl
theorem NW{β:Type}{ns:List ByteArray}{x y:β}{n:ByteArray}(h:(Value.string n,y)∈(ns.map λn=>(Value.string n,x))):n∈ns/\y=x:=by
 obtain⟨n',hn,e⟩:=List.mem_map.1 h;injection e with e1 e2;injection e1 with e1;exact⟨by rwa [<-e1],e2.symm⟩
theorem Rh:Sound Tryz.prog 111 Wd:=by
 refine EX Tryz.func111 ?_;rintro cvs m h K ⟨v,s,rfl,hs,hK⟩;refine⟨VG v h,rfl,aD Q0 aF,Gr v m h (j4 h K),by kernel_rfl,?_⟩;show Gr v m h (j4 h K);dsimp only[Gr,push_cast];have hl:=hs.tables.slen;have hlen:=hs.tables.len;have hf:¬Good zU s.tables->K (cB false) m h:=λh=>hK false ⟨λe=>(by cases e),λe=>(h e).elim⟩;intro b m1 hb hm1;refine⟨λ⟨i,b1,mx⟩=>i<=s.tables.length/\Sub m mx/\m b1=none/\GG mx b1 ((s.tables.take i).map tV.name)/\eO zU s.tables i,λ⟨i,_,_⟩=>s.tables.length-i,⟨(0,b,m1),⟨aC,(Sub.refl m).upd hb.m_ hm1.other,hb.m_,⟨_,_,hm1.at_,rfl⟩,.zero⟩,MT⟩,?_⟩;rintro⟨i,b1,mx⟩ ⟨hi,hsub,hb1,hmap,hgood⟩;dsimp only;refine aE (λhlt=>?_) (λhge=>.sub hsub (hK true ⟨λ_=>hgood.all aC,λ_=>rfl⟩));obtain⟨t,hx⟩:=eW hl hlt;obtain⟨bb,o,w,ea,hr,hrep⟩:=hs.tables.at hx;have hcl:=bL.slen hrep.columns;have hcb:=bL.len hrep.columns;have hnm:=hrep.name;have hky:=hrep.key;have bad:¬zU (s.tables.take i) t->j4 h K (.val (.bool false)) mx h:=λhn=>.sub hsub (hf (Good.not hx hn));have rest:t.name∉(s.tables.take i).map tV.name->lI w.name=true->1<=w.key->w.key<=w.columns.len->Good PB t.columns->zU (s.tables.take i) t:=λh1 h2 h3 h4 h5=>⟨by rw[<-hnm];exact h2,by rw[<-hky];exact h3,by rw[<-hky];omega,h1,h5⟩
 refine⟨bb,o,ea,aC,hlt,w,.imm hr,w.name,rfl,aB (λh1=>bad λht=>?_) (λh1=>⟨_,_,hmap.look,Ad,⟨_,rfl⟩,Eh,λhno=>aE (λh2=>bad λht=>?_) (λh2=>aE (λh3=>bad λht=>?_) (λh3=>⟨_,_,hmap,Ad,⟨_,rfl⟩,Eh,NU (Cj hno),λm2 hs2 hm2 b2 m3 hb2 hm3=>?_⟩)),λy hy=>?_⟩)⟩
 .have:=ht.1;rw[<-hnm]at this;rw[this]at h1;cases h1
 .have:=ht.2.1;omega
 .have:=ht.2.2.1;omega
 .have hm2:=GG.snoc hm2;have hsub2:Sub m m2:=hsub.upd hb1 hs2.other;have hsub3:Sub m m3:=hsub2.upd (hsub2.free hb2.m_) hm3.other
  have hne:b1≠b2:=λe=>by
   obtain⟨es,cl,e1,_⟩:=hm2.ex;rw[e,hb2.m_]at e1;cases e1
  have hno':t.name∉(s.tables.take i).map tV.name:=by rw[<-hnm];exact Cj hno
  rw[hnm, <-fT hx]at hm2
  refine⟨λ⟨i',k,b1',b2',sl,my⟩=>i'=i/\b1'=b1/\b2'=b2/\sl=w.columns/\k<=t.columns.length/\Sub m my/\GG my b1 ((s.tables.take (i+1)).map tV.name)/\GG my b2 ((t.columns.take k).map lQ.name)/\eO PB t.columns k,λ⟨_,k,_,_,_,_⟩=>t.columns.length-k,
   ⟨(i,0,b1,b2,w.columns,m3),⟨rfl,rfl,rfl,rfl,aC,hsub3,hm2.other hne hm3.other,⟨_,_,hm3.at_,rfl⟩,.zero⟩,MT⟩,?_⟩
  rintro⟨i,k,b1,b2,_,my⟩ ⟨rfl,rfl,rfl,rfl,hk,hsuby,hmy1,hmy2,hg2⟩;dsimp only;refine aE (λhlt2=>?_) (λhge2=>?_)
  .obtain⟨c,hc⟩:=eW hcl hlt2;obtain⟨bc,oc,ec,rc⟩:=Bp.at hrep.columns hc;have cbad:∀mz,Sub m mz->¬PB (t.columns.take k) c->j4 h K (.val (.bool false)) mz h:=λmz hz hn=>.sub hz (hf (Good.not hx (λht=>Good.not hc hn ht.2.2.2.2)));refine⟨bc,oc,ec,aC,hlt2,c,.imm rc,c.name,rfl,aB (λh4=>cbad my hsuby λht=>?_) (λh4=>⟨_,_,hmy2.look,Ad,⟨_,rfl⟩,Eh,λhno2=>⟨_,_,hmy2,Ad,⟨_,rfl⟩,Eh,NU (Cj hno2),λm4 hs4 hm4=>?_⟩,λy hy=>?_⟩)⟩
   .rw[ht.1]at h4;cases h4
   .have hm4:=GG.snoc hm4;rw[<-fT hc]at hm4;have hsub4:Sub m m4:=hsuby.upd (hsub2.free hb2.m_) hs4.other;have cgood:dR c.kind=true->PB (t.columns.take k) c:=λe=>⟨by simpa using h4,e,Cj hno2⟩
    have ckind:dR c.kind=false->¬PB (t.columns.take k) c:=λe ht=>by rw[ht.2.1]at e;cases e
    have m1':=hmy1.other hne hs4.other
    repeat' (first|(refine aB (λ_=>?_) (λ_=>?_))|(refine cbad m4 hsub4 (ckind ?_);simp_all [dR];done)|exact⟨(i,k+1,b1,b2,w.columns,m4),⟨rfl,rfl,rfl,rfl,by show k+1<=t.columns.length;omega,hsub4,m1',hm4,hg2.succ hc (cgood (by simp_all [dR]))⟩,by show t.columns.length-(k+1)<t.columns.length-k;omega,MT⟩)
   .obtain⟨hin,rfl⟩:=NW hy;exact aB (λ_=>cbad my hsuby λht=>ht.2.2 hin) (λe=>by cases e)
  .refine⟨(i+1,b1,my),⟨aC,hsuby,hb1,hmy1,hgood.succ hx (rest hno' (by simpa using h1) aC aC (hg2.all aC))⟩,?_,MT⟩;show s.tables.length-(i+1)<s.tables.length-i;omega
 .obtain⟨hin,rfl⟩:=NW hy;exact aB (λ_=>bad λht=>ht.2.2.2.1 (by rw[<-hnm];exact hin)) (λe=>by cases e)
theorem IH{α:Type}{f:α->ByteArray}{l:List α}{x:α}{n:ByteArray}(hx:l[i]? =some x)(h:n∉(l.take i).map f)(hn:f x≠n):n∉(l.take (i+1)).map f:=by
 rw[fT hx,List.mem_append];rintro(e|e)
 .exact h e
 .simp at e;exact hn e.symm
theorem XU{α:Type}{f:α->ByteArray}{l:List α}{x:α}{n:ByteArray}(hx:l[i]? =some x)(hi:i<k)(hn:f x=n):n∈(l.take k).map f:=
 List.mem_map.2 ⟨x,List.mem_of_getElem? (i:=i) (by rw[List.getElem?_take,if_pos hi,hx]),hn⟩
theorem TA:Sound Tryz.prog 91 VZ:=by
 refine gZ Tryz.func91 ?_;rintro cvs m h K ⟨v,s,t,i,rfl,hs,hx,hK⟩;refine⟨WO v i m h,rfl,aD Q9 (aD KF aF),Og v i m h K,by kernel_rfl,?_⟩;dsimp only[Og,push_cast];have hl:=hs.tables.slen;have hlen:=hs.tables.len;have hil:i<s.tables.length:=(List.getElem?_eq_some_iff.1 hx).1;have bad:¬zU (s.tables.take i) t->K (.val (.bool false)) m h:=λh=>hK false ⟨λe=>(by cases e),λe=>(h e).elim⟩;obtain⟨bb,o,w,ea,hr,hrep⟩:=hs.tables.at hx;have hcl:=bL.slen hrep.columns;have hcb:=bL.len hrep.columns;have hnm:=hrep.name;have hky:=hrep.key;refine⟨bb,o,ea,aC,aC,w,.imm hr,w.name,rfl,aB (λh1=>bad λht=>?_) (λh1=>aB (λh2=>bad λht=>?_) (λh2=>aE (λh3=>bad λht=>?_) (λh3=>aE (λh4=>bad λht=>?_) (λh4=>?_))))⟩
 .have:=ht.1;rw[<-hnm]at this;rw[this]at h1;cases h1
 .have:=ht.2.1;have:=ht.2.2.1;have:(w.columns.len:Int)=0:=(by simpa using h2);omega
 .have:=ht.2.1;omega
 .have:=ht.2.2.1;omega
 refine⟨λ⟨k,w'⟩=>w'=w/\k<=i/\t.name∉(s.tables.take k).map tV.name,λ⟨k,_⟩=>i-k,⟨(0,w),⟨rfl,aC,by simp⟩,MT⟩,?_⟩;rintro⟨k,w⟩ ⟨rfl,hk,hno⟩;dsimp only;refine aE (λhlt=>?_) (λhge=>?_)
 .obtain⟨t',hx'⟩:∃t',s.tables[k]? =some t':=⟨s.tables[k]'(by omega),List.getElem?_eq_getElem _⟩
  obtain⟨b',o',w',ea',hr',hrep'⟩:=hs.tables.at hx';refine⟨b',o',ea',aC,aC,w'.name,.imm (aX.part hr' 0 1),aB (λe=>bad λht=>?_) (λe=>?_)⟩
  .refine ht.2.2.2.1 (XU hx' aC ?_);rw[<-hrep'.name, <-hnm];exact wB (by simpa using e)
  .refine⟨(k+1,w),⟨rfl,aC,IH hx' hno λe'=>?_⟩,by show i-(k+1)<i-k;omega,MT⟩;rw[<-hrep'.name, <-hnm]at e';rw[e']at e;simp at e
 .have hki:k=i:=by omega
  subst hki;refine⟨λ⟨k,w'⟩=>w'=w/\k<=t.columns.length/\eO PB t.columns k,λ⟨k,_⟩=>t.columns.length-k,⟨(0,w),⟨rfl,aC,.zero⟩,MT⟩,?_⟩;rintro⟨c,w⟩ ⟨rfl,hc,hg⟩;dsimp only;refine aE (λhlt=>?_) (λhge2=>hK true ⟨λ_=>⟨by rw[<-hnm];simpa using h1,aC,aC,hno,hg.all aC⟩,λ_=>rfl⟩);obtain⟨x,hxc⟩:=eW hcl hlt;obtain⟨bc,oc,ec,rc⟩:=Bp.at hrep.columns hxc;have cbad:¬PB (t.columns.take c) x->K (.val (.bool false)) m h:=λhn=>bad λht=>Good.not hxc hn ht.2.2.2.2;refine⟨bc,oc,ec,aC,hlt,x.name,.imm (aX.part rc 0 1),x.name,rfl,aB (λe1=>cbad λht=>?_) (λe1=>⟨bc,oc,ec,aC,hlt,x.kind,.imm (aX.part rc 1 1),x.kind,rfl,aB (λe2=>cbad λht=>?_) (λe2=>?_)⟩)⟩
  .rw[ht.1]at e1;cases e1
  .rw[ht.2.1]at e2;cases e2
  refine⟨λ⟨c',j,w'⟩=>w'=w/\c'=c/\j<=c/\x.name∉(t.columns.take j).map lQ.name,λ⟨_,j,_⟩=>c-j,⟨(c,0,w),⟨rfl,rfl,aC,by simp⟩,MT⟩,?_⟩;rintro⟨c,j,w⟩ ⟨rfl,rfl,hj,hnoj⟩;dsimp only;refine aE (λhlt3=>?_) (λhge3=>?_)
  .obtain⟨y,hy⟩:∃y,t.columns[j]? =some y:=⟨t.columns[j]'(by omega),List.getElem?_eq_getElem _⟩
   obtain⟨by',oy,ey,ry⟩:=Bp.at hrep.columns hy;refine⟨by',oy,ey,aC,aC,y.name,.imm (aX.part ry 0 1),bc,oc,ec,aC,hlt,x.name,.imm (aX.part rc 0 1),aB (λe=>cbad λht=>?_) (λe=>?_)⟩
   .exact ht.2.2 (XU hy aC (wB (by simpa using e)))
   .refine⟨(c,j+1,w),⟨rfl,rfl,by show j+1<=c;omega,IH hy hnoj λe'=>?_⟩,by show c-(j+1)<c-j;omega,MT⟩;rw[e']at e;simp at e
  .have:j=c:=by omega
   subst this;exact⟨(j+1,w),⟨rfl,aC,hg.succ hxc ⟨by simpa using e1,by simpa using e2,hnoj⟩⟩,by show t.columns.length-(j+1)<t.columns.length-j;omega,MT⟩
def DR(t g:tV)(k:Nat)(c:Int):Prop:=0<=c/\c<t.columns.length/\∃x y,t.columns[c.toNat]? =some x/\g.columns[k]? =some y/\x.kind=y.kind
def V9(tabs:List tV)(t:tV)(_:List Ref)(r:Ref):Prop:=0<=r.table/\r.table<tabs.length/\∃g,tabs[r.table.toNat]? =some g/\(r.columns.length:Int)=g.key/\Good (λpre c=>DR t g pre.length c) r.columns
def Bk(tabs:List tV)(_:List tV)(t:tV):Prop:=Good (V9 tabs t) t.refs
def V8:Vc.Spec:=λcvs m h K=>∃v s,cvs=[aS v]/\gJ h s v/\Good zU s.tables/\∀r:Bool,(r=true↔Good (Bk s.tables) s.tables)->K (cB r) m h
def SF:Vc.Spec:=λcvs m h K=>∃v s t,∃i:Nat,cvs=[aS v,cI i]/\gJ h s v/\Good zU s.tables/\s.tables[i]? =some t/\∀r:Bool,(r=true↔Bk s.tables [] t)->K (cB r) m h
noncomputable def VF(v:cH)(m:MH)(h:PH):Ctx:=
 dL [] [(2,{A:=Nat,st:=λi=>cD 82 83 [(1,.at (.ptr 1 0)),(11,sv v.tables),(12,iv v.tables.len),(13,iv i)] [(1,.cells 43 (v.enc.map .val))] m h}),
  (5,{A:=Nat×Nat×bO,st:=λ⟨i,k,w⟩=>cD 82 83 [(1,.at (.ptr 1 0)),(4,.at (.ptr 4 0)),(11,sv v.tables),(12,iv v.tables.len),(13,iv i),(18,sv w.references),(19,iv w.references.len),(20,iv k)] [(1,.cells 43 (v.enc.map .val)),(4,.cells 86 (w.enc.map .val))] m h}),
  (13,{A:=Nat×Nat×Nat×bO×bO×Sl,st:=λ⟨i,k,j,w,g,sl⟩=>cD 82 83 [(1,.at (.ptr 1 0)),(4,.at (.ptr 4 0)),(7,.at (.ptr 7 0)),(11,sv v.tables),(12,iv v.tables.len),(13,iv i),(18,sv w.references),(19,iv w.references.len),(20,iv k),(48,sv sl),(49,iv sl.len),(50,iv j)] [(1,.cells 43 (v.enc.map .val)),(4,.cells 86 (w.enc.map .val)),(7,.cells 86 (g.enc.map .val))] m h})] [] [] false
noncomputable def WN(v:cH)(m:MH)(h:PH):Ctx:=
 dL [] [(3,{A:=Nat×bO,st:=λ⟨k,w⟩=>cD 85 87 [(2,.at (.ptr 2 0)),(5,.at (.ptr 5 0)),(16,sv w.references),(17,iv w.references.len),(18,iv k)] [(2,.cells 43 (v.enc.map .val)),(5,.cells 86 (w.enc.map .val))] m h}),
  (8,{A:=Nat×Nat×bO×Bn,st:=λ⟨k,j,w,r⟩=>cD 85 87 [(2,.at (.ptr 2 0)),(5,.at (.ptr 5 0)),(7,.at (.ptr 7 0)),(16,sv w.references),(17,iv w.references.len),(18,iv k),(47,sv r.columns),(48,iv r.columns.len),(49,iv j)] [(2,.cells 43 (v.enc.map .val)),(5,.cells 86 (w.enc.map .val)),(7,.cells 118 (r.enc.map .val))] m h})] [] [] false
abbrev mA(a:(Nat->Prop)->Nat->Prop)(b:(Nat->Prop)->(Nat->Nat)->Nat->Prop):Prop:=∃(x:Nat->Prop)(x1:Nat->Nat),jP (∃(x2:Nat),a x x2) (λx2=>b x x1 x2)
abbrev dZ:Prop:=eP 1
abbrev Al(a b:bO):Prop:=bB a.references b.references
abbrev Am(a b:bO):Prop:=bZ a.references b.references
abbrev Cm(a:cH)(b:Int)(c:Nat->Nat->Prop):Prop:=bD (λx x1=>aH (bE (oP a) x x1) (0<=b) (b<aG a.tables) (c x x1))
noncomputable abbrev oM(a:Nat×Nat×Nat×bO×bO×Sl):bO:=a.2.2.2.1
noncomputable abbrev sZ(a:Nat×Nat×Nat×bO×bO×Sl):Sl:=a.2.2.2.2.2
noncomputable abbrev qX(a:Nat×Nat×Nat×bO×bO×Sl):Nat:=a.2.2.1
noncomputable abbrev FG(a:Nat×Nat×Nat×bO×bO×Sl):bO:=a.2.2.2.2.1
attribute [push_cast] mA dZ Al Am Cm oM sZ qX FG
def Gq(v:cH)(m:MH)(h:PH)(K:CV->MH->PH->Prop):Prop:=
  mA (λI x=>aA (I x) dZ (aA (kX v) (gH v) (aA (bA x) (bM v) (aA (m=m) (h=h) True)))) (λI m1 x=>CB (I x) x v (λb o y=>aM m h b (bI o x 5) (tM y)/\∃(I1:Nat×Nat×bO->Prop)(m2:Nat×Nat×bO->Nat),(∃(x1:Nat×Nat×bO),aA (I1 x1) dZ (aA (eP 4) (kX v) (aA (gH v) (cC x x1.1) (aA (Al y (jF x1)) (Am y (jF x1)) (aA (bA (qJ x1)) (bM v) (aA (oQ 86 (eX y)=oQ 86 (eX (jF x1))) (m=m) (bN h h)))))))/\∀(x1:Nat×Nat×bO),I1 x1->aW (↑(qJ x1):Int) (aG (jF x1).references) (bD (λb1 o1=>aH (bE (jF x1).references.a b1 o1) (0<=(↑(qJ x1):Int)) ((↑(qJ x1):Int)<aG (jF x1).references) (∃(y1:Bn),aM m h b1 (bI o1 (qJ x1) 2) (jI (dV y1.columns) (eH y1.table))/\aW
 y1.table 0 (K aU m h) (gA y1.table (gS v) (K aU m h) (Cm v y1.table (λb2 o2=>∃(y2:bO),aM m h b2 (fR o2 y1.table 5) (tM y2)/\eE (aG y1.columns) y2.key (K aU m h) (∃(I2:Nat×Nat×Nat×bO×bO×Sl->Prop)(m3:Nat×Nat×Nat×bO×bO×Sl->Nat),(∃(x2:Nat×Nat×Nat×bO×bO×Sl),aA (I2 x2) dZ (aA (eP 4) (eP 7) (aA (kX v) (gH v) (aA (cC x1.1 x2.1) (Al (jF x1) (oM x2)) (aA (Am (jF x1) (oM x2)) (cC (qJ x1) x2.2.1) (aA (bB y1.columns (sZ x2)) (bZ y1.columns (sZ x2)) (aA (bA (qX x2)) (bM v) (aA (oQ 86 (eX (jF x1))=oQ 86 (eX (oM x2))) (oQ 86 (eX y2)=oQ 86 (eX (FG x2))) (bW (m=m) h h)))))))))/\∀(x2:Nat×Nat×Nat×bO×bO×Sl),I2 x2->aW (↑(qX x2):Int) (aG
 (sZ x2)) (bD (λb3 o3=>aH (bE (sZ x2).a b3 o3) (0<=(↑(qX x2):Int)) ((↑(qX x2):Int)<aG (sZ x2)) (∃(y3:Int),aM m h b3 (bI o3 (qX x2) 1) (bV y3)/\aW y3 0 (K aU m h) (gA y3 (Ak (oM x2)) (K aU m h) (bD (λb4 o4=>aH (bE (oM x2).columns.a b4 o4) (0<=y3) (y3<aG (oM x2).columns) (∃(y4:Int),aM m h b4 (fR o4 y3 2+1) (bV y4)/\bD (λb5 o5=>aH (bE (FG x2).columns.a b5 o5) (0<=(↑(qX x2):Int)) ((↑(qX x2):Int)<aG (FG x2).columns) (∃(y5:Int),aM m h b5 (bI o5 (qX x2) 2+1) (bV y5)/\eE y4 y5 (K aU m h) (∃(x3:Nat×Nat×Nat×bO×bO×Sl),aA (I2 x3) (m3 x3<m3 x2) (aA dZ (eP 4) (aA (eP 7) (kX v) (aA (gH v) (cC x2.1 x3.1) (aA (Al (oM x2) (oM x3)) (Am
 (oM x2) (oM x3)) (aA (cC x2.2.1 x3.2.1) (bB (sZ x2) (sZ x3)) (aA (bZ (sZ x2) (sZ x3)) (fU (bF (qX x2) 1)=bT (qX x3)) (aA (bM v) (oQ 86 (eX (oM x2))=oQ 86 (eX (oM x3))) (aH (oQ 86 (eX (FG x2))=oQ 86 (eX (FG x3))) (m=m) (h=h) True)))))))))))))))))) (∃(x3:Nat×Nat×bO),aA (I1 x3) (m2 x3<m2 x1) (aA dZ (eP 4) (aA (kX v) (gH v) (aA (cC x2.1 x3.1) (Al (oM x2) (jF x3)) (aA (Am (oM x2) (jF x3)) (fU (bF x2.2.1 1)=bT (qJ x3)) (aA (bM v) (oQ 86 (eX (oM x2))=oQ 86 (eX (jF x3))) (bW (m=m) h h)))))))))))))) (∃(x2:Nat),aA (I x2) (m1 x2<m1 x) (aA dZ (kX v) (aA (gH v) (fU (bF x1.1 1)=bT x2) (aA (bM v) (m=m) (bN h h)))))) (K fN m h))
noncomputable abbrev oN(a:Nat×Nat×bO×Bn):bO:=a.2.2.1
noncomputable abbrev nT(a:Nat×Nat×bO×Bn):Sl:=a.2.2.2.columns
noncomputable abbrev CI(a:Nat×Nat×bO×Bn):Int:=a.2.2.2.table
attribute [push_cast] oN nT CI
def Jh(v:cH)(i:Nat)(m:MH)(h:PH)(K:CV->MH->PH->Prop):Prop:=
  bD (λb o=>aH (bE (oP v) b o) (0<=(↑i:Int)) ((↑i:Int)<aG v.tables) (∃(y:bO),aM m h b (bI o i 5) (tM y)/\HA (λI x=>aA (I x) fQ (aA (eP 5) (Al y x.2) (aA (Am y x.2) (bA x.1) (aA (bM v) (AJ y x) (bW (m=m) h h))))) (λI m1 x=>I x->aW (↑x.1:Int) (aG x.2.references) (bD (λb1 o1=>aH (bE x.2.references.a b1 o1) (0<=(↑x.1:Int)) ((↑x.1:Int)<aG x.2.references) (∃(y1:Bn),aM m h b1 (bI o1 x.1 2) (jI (dV y1.columns) (eH y1.table))/\aW y1.table 0 (K aU m h) (gA y1.table (gS v) (K aU m h) (bD (λb2 o2=>aH (bE (oP v) b2 o2) (0<=y1.table) (y1.table<aG v.tables) (∃(y2:Int),aM m h b2 (fR o2 y1.table 5+2) (bV y2)/\eE (aG y1.columns) y2 (K aU m h) (∃(I1:Nat×Nat×bO×Bn->Prop)(m2
 :Nat×Nat×bO×Bn->Nat),(∃(x1:Nat×Nat×bO×Bn),aA (I1 x1) fQ (aA (eP 5) (eP 7) (aA (Al x.2 (oN x1)) (Am x.2 (oN x1)) (aA (cC x.1 x1.1) (bB y1.columns (nT x1)) (aA (bZ y1.columns (nT x1)) (bA x1.2.1) (aA (bM v) (oQ 86 (eX x.2)=oQ 86 (eX (oN x1))) (aH (oQ 118 (oW (tU y1.columns) (lT y1.table))=oQ 118 (oW (tU (nT x1)) (lT (CI x1)))) (m=m) (h=h) True)))))))/\∀(x1:Nat×Nat×bO×Bn),I1 x1->aW (↑x1.2.1:Int) (aG (nT x1)) (bD (λb3 o3=>aH (bE (nT x1).a b3 o3) (0<=(↑x1.2.1:Int)) ((↑x1.2.1:Int)<aG (nT x1)) (∃(y3:Int),aM m h b3 (bI o3 x1.2.1 1) (bV y3)/\aW y3 0 (K aU m h) (gA y3 (Ak (oN x1)) (K aU m h) (bD (λb4 o4=>aH (bE (oN x1).columns.a b4 o4) (0<=y3) (y3
 <aG (oN x1).columns) (∃(y4:Int),aM m h b4 (fR o4 y3 2+1) (bV y4)/\dG (oP v) (CI x1) v.tables (λb5 o5 y5=>aM m h b5 (fR o5 (CI x1) 5+1) (aL y5)/\bD (λb6 o6=>aH (bE y5.a b6 o6) (0<=(↑x1.2.1:Int)) ((↑x1.2.1:Int)<aG y5) (∃(y6:Int),aM m h b6 (bI o6 x1.2.1 2+1) (bV y6)/\eE y4 y6 (K aU m h) (∃(x2:Nat×Nat×bO×Bn),aA (I1 x2) (m2 x2<m2 x1) (aA fQ eT (aA (eP 7) (Al (oN x1) (oN x2)) (aA (Am (oN x1) (oN x2)) (cC x1.1 x2.1) (aA (bB (nT x1) (nT x2)) (bZ (nT x1) (nT x2)) (aA (fU (bF x1.2.1 1)=bT x2.2.1) (bM v) (aA (oQ 86 (eX (oN x1))=oQ 86 (eX (oN x2))) (oQ 118 (oW (tU (nT x1)) (lT (CI x1)))=oQ 118 (oW (tU (nT x2)) (lT (CI x2)))) (aA (m=m)
 (h=h) True)))))))))))))))))) (∃(x2:Nat×bO),aA (I x2) (m1 x2<m1 x) (aA fQ eT (aA (Al (oN x1) x2.2) (Am (oN x1) x2.2) (aA (fU (bF x1.1 1)=bT x2.1) (bM v) (aH (AJ (oN x1) x2) (m=m) (h=h) True))))))))))))) (K fN m h))))
theorem Ints.at'{s:Sl}(r:Ints h s l){x:Int}(hi:l[i]? =some x):∃b o,s.a=some ⟨b,o,none⟩/\aX h b (o+i*1) [.int .i64 x]:=by
 obtain⟨b,o,e,k⟩:=r.at hi;exact⟨b,o,e,by rwa [Nat.mul_one]⟩
theorem Nr{α:Type}{l:List α}{x:α}(h:l[i]? =some x):(l.take i).length=i:=by
 have:=(List.getElem?_eq_some_iff.1 h).1;rw[List.length_take];omega
theorem Good.key_le{tabs:List tV}(h:Good zU tabs){g:tV}(hg:tabs[i]? =some g):g.key<=g.columns.length:=(h i g hg).2.2.1
theorem XE{v:cH}(hs:gJ h s v)(hgood:Good zU s.tables)(hK:∀r:Bool,(r=true↔Good (Bk s.tables) s.tables)->K (cB r) m h):Gq v m h K:=by
 dsimp only[Gq,push_cast];have hl:=hs.tables.slen;have hlen:=hs.tables.len;have hf:¬Good (Bk s.tables) s.tables->K (.val (.bool false)) m h:=λh=>hK false ⟨λe=>(by cases e),λe=>(h e).elim⟩;refine⟨λi=>i<=s.tables.length/\eO (Bk s.tables) s.tables i,λi=>s.tables.length-i,⟨0,⟨aC,.zero⟩,MT⟩,λi⟨hi,hg⟩=>aE (λhlt=>?_) (λhge=>hK true ⟨λ_=>hg.all aC,λ_=>rfl⟩)⟩;obtain⟨t,hx⟩:=eW hl hlt;obtain⟨b,o,w,ea,hr,hrep⟩:=hs.tables.at hx;have hcl:=bL.slen hrep.columns;have hrl:=bL.slen hrep.refs;have hrb:=bL.len hrep.refs;refine⟨b,o,ea,aC,hlt,w,.imm hr,λ⟨i',k,w'⟩=>i'=i/\w'=w/\k<=t.refs.length/\eO (V9 s.tables t) t.refs k,λ⟨_,k,_⟩=>t.refs.length-k,⟨(i,0,w),⟨rfl,rfl,aC,.zero⟩,MT⟩,?_⟩;rintro⟨i,k,w⟩ ⟨rfl,rfl,hk,hg2⟩;dsimp only;refine aE (λhlt2=>?_) (λhge2=>⟨i+1,⟨aC,hg.succ hx (hg2.all aC)⟩,by show s.tables.length-(i+1)<s.tables.length-i;omega,MT⟩);obtain⟨r,hrx⟩:=eW hrl hlt2;obtain⟨b2,o2,rv,ea2,hr2,hrep2⟩:=hrep.refs.at hrx;have rcl:=hrep2.columns.slen;have rcb:=hrep2.columns.len;have rt:=hrep2.table;have bad:¬V9 s.tables t (t.refs.take k) r->K (.val (.bool false)) m h:=λhn=>hf (Good.not hx (Good.not hrx hn));refine⟨b2,o2,ea2,aC,hlt2,rv,.imm hr2,aE (λh1=>bad λht=>?_) (λh1=>aE (λh2=>bad λht=>?_) (λh2=>?_))⟩
 .have:=ht.1;omega
 .have:=ht.2.1;omega
 obtain⟨g,b3,o3,gv,hgx,ea3,hr3,hrep3⟩:=hs.table (t:=rv.table) aC aC;have gcl:=bL.slen hrep3.columns;have hkey:=hgood.key_le hgx;have gk:=hrep3.key;refine⟨b3,o3,ea3,aC,aC,gv,.imm hr3,aB (λh3=>bad λht=>?_) (λh3=>?_)⟩
 .obtain⟨_,_,g',hg',hk',_⟩:=ht;rw[<-rt,hgx]at hg';cases hg';have:(rv.columns.len:Int)≠gv.key:=by simpa using h3
  omega
 have h3:(rv.columns.len:Int)=gv.key:=by simpa using h3
 refine⟨λ⟨i',k',j,w',g',sl⟩=>i'=i/\k'=k/\w'=w/\g'=gv/\sl=rv.columns/\j<=r.columns.length/\eO (λpre c=>DR t g pre.length c) r.columns j,λ⟨_,_,j,_,_,_⟩=>r.columns.length-j,⟨(i,k,0,w,gv,rv.columns),⟨rfl,rfl,rfl,rfl,rfl,aC,.zero⟩,MT⟩,?_⟩;rintro⟨i,k,j,w,gv,_⟩ ⟨rfl,rfl,rfl,rfl,rfl,hj,hg3⟩;dsimp only;refine aE (λhlt3=>?_) (λhge3=>⟨(i,k+1,w),⟨rfl,rfl,by show k+1<=t.refs.length;omega,hg2.succ hrx ⟨aC,aC,g,by rw[<-rt];exact hgx,aC,hg3.all aC⟩⟩,by show t.refs.length-(k+1)<t.refs.length-k;omega,MT⟩);obtain⟨c,hc⟩:=eW rcl hlt3;obtain⟨b4,o4,ea4,hr4⟩:=hrep2.columns.at' hc;have htl:=Nr hc
 have cbad:¬DR t g j c->K (.val (.bool false)) m h:=λhn=>bad λht=>by
  obtain⟨_,_,g',hg',_,hgo⟩:=ht;rw[<-rt,hgx]at hg';cases hg';have:=hgo j c hc;dsimp only at this;rw[htl]at this;exact hn this
 refine⟨b4,o4,ea4,aC,hlt3,c,.imm hr4,aE (λh5=>cbad λht=>?_) (λh5=>aE (λh6=>cbad λht=>?_) (λh6=>?_))⟩
 .have:=ht.1;omega
 .have:=ht.2.1;omega
 obtain⟨x,hxx⟩:∃x,t.columns[c.toNat]? =some x:=⟨t.columns[c.toNat]'(by omega),List.getElem?_eq_getElem _⟩
 obtain⟨y,hyy⟩:∃y,g.columns[j]? =some y:=⟨g.columns[j]'(by omega),List.getElem?_eq_getElem _⟩
 obtain⟨b5,o5,ea5,hr5⟩:=Bp.at hrep.columns hxx;obtain⟨b6,o6,ea6,hr6⟩:=Bp.at hrep3.columns hyy;refine⟨b5,o5,ea5,aC,aC,x.kind,.imm (aX.part hr5 1 1),b6,o6,ea6,aC,aC,y.kind,.imm (aX.part hr6 1 1),aB (λh7=>cbad λht=>?_) (λh7=>?_)⟩
 .obtain⟨_,_,x',y',e1,e2,e3⟩:=ht;rw[hxx]at e1;rw[hyy]at e2;cases e1;cases e2;rw[e3]at h7;simp at h7
 .exact⟨(i,k,j+1,w,gv,rv.columns),⟨rfl,rfl,rfl,rfl,rfl,by show j+1<=r.columns.length;omega,hg3.succ hc (by show DR t g (List.take j r.columns).length c;rw[htl];exact⟨aC,aC,x,y,hxx,hyy,by simpa using h7⟩)⟩,by show r.columns.length-(j+1)<r.columns.length-j;omega,MT⟩
theorem Rg:Sound Tryz.prog 112 V8:=by
 refine gZ Tryz.func112 ?_;rintro cvs m h K ⟨v,s,rfl,hs,hg,hK⟩;refine⟨VF v m h,rfl,aF,Gq v m h K,by kernel_rfl,?_⟩;exact XE hs hg hK
theorem Yw{v:cH}{t:tV}(hs:gJ h s v)(hgood:Good zU s.tables)(hx:s.tables[i]? =some t)(hK:∀r:Bool,(r=true↔Bk s.tables [] t)->K (cB r) m h):Jh v i m h K:=by
 dsimp only[Jh,push_cast];have hl:=hs.tables.slen;have hlen:=hs.tables.len;have hil:i<s.tables.length:=(List.getElem?_eq_some_iff.1 hx).1;have hf:¬Bk s.tables [] t->K (.val (.bool false)) m h:=λh=>hK false ⟨λe=>(by cases e),λe=>(h e).elim⟩;obtain⟨b,o,w,ea,hr,hrep⟩:=hs.tables.at hx;have hcl:=bL.slen hrep.columns;have hrl:=bL.slen hrep.refs;have hrb:=bL.len hrep.refs;refine⟨b,o,ea,aC,aC,w,.imm hr,λ⟨k,w'⟩=>w'=w/\k<=t.refs.length/\eO (V9 s.tables t) t.refs k,λ⟨k,_⟩=>t.refs.length-k,⟨(0,w),⟨rfl,aC,.zero⟩,MT⟩,?_⟩;rintro⟨k,w⟩ ⟨rfl,hk,hg2⟩;dsimp only;refine aE (λhlt2=>?_) (λhge2=>hK true ⟨λ_=>hg2.all aC,λ_=>rfl⟩);obtain⟨r,hrx⟩:=eW hrl hlt2;obtain⟨b2,o2,rv,ea2,hr2,hrep2⟩:=hrep.refs.at hrx;have rcl:=hrep2.columns.slen;have rcb:=hrep2.columns.len;have rt:=hrep2.table;have bad:¬V9 s.tables t (t.refs.take k) r->K (.val (.bool false)) m h:=λhn=>hf (Good.not hrx hn);refine⟨b2,o2,ea2,aC,hlt2,rv,.imm hr2,aE (λh1=>bad λht=>?_) (λh1=>aE (λh2=>bad λht=>?_) (λh2=>?_))⟩
 .have:=ht.1;omega
 .have:=ht.2.1;omega
 obtain⟨g,b3,o3,gv,hgx,ea3,hr3,hrep3⟩:=hs.table (t:=rv.table) aC aC;have gcl:=bL.slen hrep3.columns;have hkey:=hgood.key_le hgx;have gk:=hrep3.key;refine⟨b3,o3,ea3,aC,aC,gv.key,.imm (aX.part hr3 2 1),aB (λh3=>bad λht=>?_) (λh3=>?_)⟩
 .obtain⟨_,_,g',hg',hk',_⟩:=ht;rw[<-rt,hgx]at hg';cases hg';have:(rv.columns.len:Int)≠gv.key:=by simpa using h3
  omega
 have h3:(rv.columns.len:Int)=gv.key:=by simpa using h3
 refine⟨λ⟨k',j,w',r'⟩=>k'=k/\w'=w/\r'=rv/\j<=r.columns.length/\eO (λpre c=>DR t g pre.length c) r.columns j,λ⟨_,j,_,_⟩=>r.columns.length-j,⟨(k,0,w,rv),⟨rfl,rfl,rfl,aC,.zero⟩,MT⟩,?_⟩;rintro⟨k,j,w,rv⟩ ⟨rfl,rfl,rfl,hj,hg3⟩;dsimp only;refine aE (λhlt3=>?_) (λhge3=>⟨(k+1,w),⟨rfl,by show k+1<=t.refs.length;omega,hg2.succ hrx ⟨aC,aC,g,by rw[<-rt];exact hgx,aC,hg3.all aC⟩⟩,by show t.refs.length-(k+1)<t.refs.length-k;omega,MT⟩);obtain⟨c,hc⟩:=eW rcl hlt3;obtain⟨b4,o4,ea4,hr4⟩:=hrep2.columns.at' hc;have htl:=Nr hc
 have cbad:¬DR t g j c->K (.val (.bool false)) m h:=λhn=>bad λht=>by
  obtain⟨_,_,g',hg',_,hgo⟩:=ht;rw[<-rt,hgx]at hg';cases hg';have:=hgo j c hc;dsimp only at this;rw[htl]at this;exact hn this
 refine⟨b4,o4,ea4,aC,hlt3,c,.imm hr4,aE (λh5=>cbad λht=>?_) (λh5=>aE (λh6=>cbad λht=>?_) (λh6=>?_))⟩
 .have:=ht.1;omega
 .have:=ht.2.1;omega
 obtain⟨x,hxx⟩:∃x,t.columns[c.toNat]? =some x:=⟨t.columns[c.toNat]'(by omega),List.getElem?_eq_getElem _⟩
 obtain⟨y,hyy⟩:∃y,g.columns[j]? =some y:=⟨g.columns[j]'(by omega),List.getElem?_eq_getElem _⟩
 obtain⟨b5,o5,ea5,hr5⟩:=Bp.at hrep.columns hxx;obtain⟨b6,o6,ea6,hr6⟩:=Bp.at hrep3.columns hyy;refine⟨b5,o5,ea5,aC,aC,x.kind,.imm (aX.part hr5 1 1),b3,o3,ea3,aC,aC,gv.columns,.imm (aX.part hr3 1 1),b6,o6,ea6,aC,aC,y.kind,.imm (aX.part hr6 1 1),aB (λh7=>cbad λht=>?_) (λh7=>?_)⟩
 .obtain⟨_,_,x',y',e1,e2,e3⟩:=ht;rw[hxx]at e1;rw[hyy]at e2;cases e1;cases e2;rw[e3]at h7;simp at h7
 .exact⟨(k,j+1,w,rv),⟨rfl,rfl,rfl,by show j+1<=r.columns.length;omega,hg3.succ hc (by show DR t g (List.take j r.columns).length c;rw[htl];exact⟨aC,aC,x,y,hxx,hyy,by simpa using h7⟩)⟩,by show r.columns.length-(j+1)<r.columns.length-j;omega,MT⟩
theorem Tz:Sound Tryz.prog 92 SF:=by
 refine gZ Tryz.func92 ?_;rintro cvs m h K ⟨v,s,t,i,rfl,hs,hg,hx,hK⟩;refine⟨WN v m h,rfl,aF,Jh v i m h K,by kernel_rfl,?_⟩;exact Yw hs hg hx hK
def JO(t:tV):Prop:=t.columns.length<=8/\t.refs.length<=4/\t.checks.length<=4
def A9(s:oF):Prop:=s.tables.length<=8/\Good (λ_ t=>JO t) s.tables
def Hh(s:oF):Prop:=0<=s.version/\s.version<=1000/\Good zU s.tables/\Good (Bk s.tables) s.tables
def o9:List Int->Int
 |[]=>0
 |e::r=>if e=0 then o9 r else e
def qD(s:oF)(i:Nat):List Int:=match s.tables[i]? with|some t=>t.checks.map (iC (gI s i) [])|none=>[]
theorem uQ(a b:List Int)(h:∀e∈a,e=0):o9 (a++b)=o9 b:=by
 induction a with
 |nil=>rfl
 |cons x a ih=>
  simp only[List.cons_append,o9];rw[if_pos (h x (by simp)),ih λe he=>h e (by simp[he])]
theorem y8(a:List Int)(h:∀e∈a,e=0):o9 a=0:=by
 have:=uQ a [] h;simpa[o9]using this
theorem G7{n:Nat}{f:Nat->List Int}{e:Int}(hi:i<n)(h1:∀j<i,∀x∈f j,x=0)(h2:∀x∈(f i).take k,x=0)(h3:(f i)[k]? =some e)(he:e≠0):o9 ((List.range n).flatMap f)=e:=by
 obtain⟨r,rfl⟩:∃r,n=i+(1+r):=⟨n-i-1,aC⟩
 rw[List.range_add,List.flatMap_append,uQ]
 .rw[show(List.range (1+r)).map (i+ ·)=i::(List.range' (i+1) r)from ?_,List.flatMap_cons, <-List.take_append_drop k (f i),List.append_assoc,uQ _ _ h2,drop_cons h3]
  .simp[o9,he]
  .rw[Nat.add_comm 1 r,List.range_succ_eq_map];simp[List.range'_eq_map_range,Nat.add_assoc,Nat.add_comm 1]
 .intro x hx;obtain⟨j,hj,hx⟩:=List.mem_flatMap.1 hx;exact h1 j (List.mem_range.1 hj) x hx
open Classical in
noncomputable def eJ(s:oF):Int:=if A9 s then(if Hh s then o9 ((List.range s.tables.length).flatMap (qD s))else 70)else 2
def zX:Vc.Spec:=λcvs m h K=>∃v s,cvs=[aS v]/\gJ h s v/\K (cI (eJ s)) m h
noncomputable def WV(v:cH)(m:MH)(h:PH):Ctx:=
 dL [(111,Wd),(112,V8),(72,rR),(113,pZ)] [(4,{A:=Nat,st:=λi=>cD 83 84 [(1,.at (.ptr 1 0)),(16,sv v.tables),(17,iv v.tables.len),(18,iv i)] [(1,.cells 43 (v.enc.map .val))] m h}),
  (12,{A:=Nat×PH,st:=λ⟨i,hx⟩=>cD 83 84 [(1,.at (.ptr 1 0)),(58,sv v.tables),(59,iv v.tables.len),(60,iv i)] [(1,.cells 43 (v.enc.map .val))] m hx}),
  (16,{A:=Nat×Nat×Sl×Sl×PH,st:=λ⟨i,k,ks,cs,hx⟩=>cD 83 84 [(1,.at (.ptr 1 0)),(7,sv ks),(58,sv v.tables),(59,iv v.tables.len),(60,iv i),(69,sv cs),(70,iv cs.len),(71,iv k)] [(1,.cells 43 (v.enc.map .val))] m hx})] [] [] false
noncomputable def W7(v:cH)(m:MH)(h:PH):Ctx:=
 dL [(91,VZ),(92,SF),(44,rR),(69,pZ)] [(4,{A:=Nat,st:=λi=>cD 96 97 [(1,.at (.ptr 1 0)),(16,sv v.tables),(17,iv v.tables.len),(18,iv i)] [(1,.cells 43 (v.enc.map .val))] m h}),
  (12,{A:=Nat,st:=λi=>cD 96 97 [(1,.at (.ptr 1 0)),(49,iv v.tables.len),(50,iv i)] [(1,.cells 43 (v.enc.map .val))] m h}),
  (18,{A:=Nat,st:=λi=>cD 96 97 [(1,.at (.ptr 1 0)),(60,iv v.tables.len),(61,iv i)] [(1,.cells 43 (v.enc.map .val))] m h}),
  (24,{A:=Nat×PH,st:=λ⟨i,hx⟩=>cD 96 97 [(1,.at (.ptr 1 0)),(71,iv v.tables.len),(72,iv i)] [(1,.cells 43 (v.enc.map .val))] m hx}),
  (27,{A:=Nat×Nat×Sl×PH,st:=λ⟨i,k,cs,hx⟩=>cD 96 97 [(1,.at (.ptr 1 0)),(7,iv i),(71,iv v.tables.len),(72,iv i),(80,sv cs),(81,iv cs.len),(82,iv k)] [(1,.cells 43 (v.enc.map .val))] m hx})] [] [] false
abbrev xG(a:List CV)(b:Nat->Nat->Option Value)(c:Sl->PH->Prop):Prop:=jM (λx x1=>∃(x2:Int),aH (a=aZ (fX x) x2) (gJ b x1 x) (nD x1) (∀(x3:Sl)(x4:PH),cY b x4 (Ints x4 x3 (gI x1 x2)) (c x3 x4)))
noncomputable abbrev tA(a:Nat×Nat×Sl×Sl×PH):Sl:=a.2.2.2.1
noncomputable abbrev xV(a:Nat×Nat×Sl×Sl×PH):Nat->Nat->Option Value:=a.2.2.2.2
abbrev Cq(a:List CV)(b:PH)(c:(List Int)->(List Int)->Pred->Prop):Prop:=jV (λx x1=>∃(x2:PV),uW (λx3 x4=>∃(x5:Pred),aA (a=cK x (fF x1 (dO x2))) (Ints b x x3) (aA (Ints b x1 x4) (eN b x5 x2) (c x3 x4 x5))))
attribute [push_cast] xG tA xV Cq
def Jj(v:cH)(m:MH)(h:PH)(K:CV->MH->PH->Prop):Prop:=
  eM (gS v) 8 (K (eZ 2) m h) (mA (λI x=>aA (I x) dZ (aA (kX v) (gH v) (aA (bA x) (bM v) (aA (m=m) (h=h) True)))) (λI m1 x=>CB (I x) x v (λb o y=>aM m h b (bI o x 5) (tM y)/\cV (decide (Ak y>8)) (K (eZ 2) m h) (decide (aG y.references>4)) (K (eZ 2) m h) (eM (aG y.checks) 4 (K (eZ 2) m h) (∃(x1:Nat),aA (I x1) (m1 x1<m1 x) (aA dZ (kX v) (aA (gH v) (fU (bF x 1)=bT x1) (aA (bM v) (m=m) (bN h h))))))) (aW v.version 0 (K (eZ 70) m h) (eM v.version 1000 (K (eZ 70) m h) (jM (λv1 s=>aA (eA (fX v) (fX v1)) (gJ h s v1) (∀(r:Bool),gG (dT r↔Good zU s.tables) (!r) (K (eZ 70) m h) (jM (λv2 s1=>aH (eA (fX v) (fX v2)) (gJ h s1 v2) (Good zU s1.tables) (∀(r1:Bool),gG (dT r1↔
 Good (Bk s1.tables) s1.tables) (!r1) (K (eZ 70) m h) (∃(I1:Nat×PH->Prop)(m2:Nat×PH->Nat),(∃(x1:Nat×PH),aA (I1 x1) dZ (aA (kX v) (gH v) (aA (bA x1.1) (bM v) (aA (m=m) (h=x1.2) True))))/\∀(x1:Nat×PH),CB (I1 x1) x1.1 v (λb o y=>aM m x1.2 b (bI o x1.1 5) (tM y)/\xG (aZ (fX v) (↑x1.1:Int)) x1.2 (λs2 h1=>∃(I2:Nat×Nat×Sl×Sl×PH->Prop)(m3:Nat×Nat×Sl×Sl×PH->Nat),(∃(x2:Nat×Nat×Sl×Sl×PH),aA (I2 x2) dZ (aA (bB s2 x2.2.2.1) (kX v) (aA (gH v) (cC x1.1 x2.1) (aA (bB y.checks (tA x2)) (bZ y.checks (tA x2)) (aA (bA x2.2.1) (bM v) (aA (m=m) (h1=xV x2) True))))))/\∀(x2:Nat×Nat×Sl×Sl×PH),I2 x2->aW (↑x2.2.1:Int) (aG (tA x2)) (bD (λb1 o1=>aH (bE (tA x2).a b1
 o1) (0<=(↑x2.2.1:Int)) ((↑x2.2.1:Int)<aG (tA x2)) (∃(y1:PV),aM m (xV x2) b1 (bI o1 x2.2.1 13) y1.enc/\Cq (cK x2.2.2.1 (cR lN (dO y1))) (xV x2) (λc p p1=>eE (iC c p p1) 0 (K (eZ (iC c p p1)) m (xV x2)) (∃(x3:Nat×Nat×Sl×Sl×PH),aA (I2 x3) (m3 x3<m3 x2) (aA dZ (bB x2.2.2.1 x3.2.2.1) (aA (kX v) (gH v) (aA (cC x2.1 x3.1) (bB (tA x2) (tA x3)) (aA (bZ (tA x2) (tA x3)) (fU (bF x2.2.1 1)=bT x3.2.1) (aA (bM v) (m=m) (bN (xV x2) (xV x3)))))))))))) (∃(x3:Nat×PH),aA (I1 x3) (m2 x3<m2 x1) (aA dZ (kX v) (aA (gH v) (fU (bF x2.1 1)=bT x3.1) (aA (bM v) (m=m) (bN (xV x2) x3.2))))))) (K (eZ 0) m x1.2))))))))))))
abbrev HO(a:oF)(b:Nat)(c:tV):Prop:=a.tables[b]? =Option.some c
noncomputable abbrev tB(a:Nat×Nat×Sl×PH):Sl:=a.2.2.1
attribute [push_cast] HO tB
def Jl(v:cH)(m:MH)(h:PH)(K:CV->MH->PH->Prop):Prop:=
  eM (gS v) 8 (K (eZ 2) m h) (mA (λI x=>aA (I x) dZ (aA (kX v) (gH v) (aA (bA x) (bM v) (aA (m=m) (h=h) True)))) (λI m1 x=>CB (I x) x v (λb o y=>aM m h b (bI o x 5) (tM y)/\cV (decide (Ak y>8)) (K (eZ 2) m h) (decide (aG y.references>4)) (K (eZ 2) m h) (eM (aG y.checks) 4 (K (eZ 2) m h) (∃(x1:Nat),aA (I x1) (m1 x1<m1 x) (aA dZ (kX v) (aA (gH v) (fU (bF x 1)=bT x1) (aA (bM v) (m=m) (bN h h))))))) (aW v.version 0 (K (eZ 70) m h) (eM v.version 1000 (K (eZ 70) m h) (mA (λI1 x1=>aA (I1 x1) dZ (aA (gH v) (bA x1) (aH (bM v) (m=m) (h=h) True))) (λI1 m2 x1=>I1 x1->aW (↑x1:Int) (aG v.tables) (jM (λv1 s=>∃(t:tV)(i:Nat),aH (aZ (fX v) (↑x1:Int)=aZ (fX v1) (↑i:
 Int)) (gJ h s v1) (HO s i t) (∀(r:Bool),(dT r↔zU (List.take i s.tables) t)->hZ (!r) (K (eZ 70) m h) (λx2=>aA (I1 x2) (m2 x2<m2 x1) (aA dZ (gH v) (aA (fU (bF x1 1)=bT x2) (bM v) (aA (m=m) (h=h) True))))))) (mA (λI2 x2=>aA (I2 x2) dZ (aA (gH v) (bA x2) (aH (bM v) (m=m) (h=h) True))) (λI2 m3 x2=>I2 x2->aW (↑x2:Int) (aG v.tables) (jM (λv1 s=>∃(t:tV)(i:Nat),aA (aZ (fX v) (↑x2:Int)=aZ (fX v1) (↑i:Int)) (gJ h s v1) (aA (Good zU s.tables) (HO s i t) (∀(r:Bool),(dT r↔Bk s.tables [] t)->hZ (!r) (K (eZ 70) m h) (λx3=>aA (I2 x3) (m3 x3<m3 x2) (aA dZ (gH v) (aA (fU (bF x2 1)=bT x3) (bM v) (aA (m=m) (h=h) True)))))))) (∃(I3:Nat×PH->Prop)(m4:Nat×PH->Nat),(∃(x3:Nat×
 PH),aA (I3 x3) dZ (aA (gH v) (bA x3.1) (aH (bM v) (m=m) (h=x3.2) True)))/\∀(x3:Nat×PH),I3 x3->aW (↑x3.1:Int) (aG v.tables) (dG (oP v) (↑x3.1:Int) v.tables (λb o y=>aM m x3.2 b (bI o x3.1 5+4) (aL y)/\∃(I4:Nat×Nat×Sl×PH->Prop)(m5:Nat×Nat×Sl×PH->Nat),(∃(x4:Nat×Nat×Sl×PH),aA (I4 x4) dZ (aA (cC x3.1 x4.1) (gH v) (aA (cC x3.1 x4.1) (bB y (tB x4)) (aA (bZ y (tB x4)) (bA x4.2.1) (aH (bM v) (m=m) (x3.2=x4.2.2.2) True)))))/\∀(x4:Nat×Nat×Sl×PH),I4 x4->aW (↑x4.2.1:Int) (aG (tB x4)) (bD (λb1 o1=>aH (bE (tB x4).a b1 o1) (0<=(↑x4.2.1:Int)) ((↑x4.2.1:Int)<aG (tB x4)) (∃(y1:PV),aM m x4.2.2.2 b1 (bI o1 x4.2.1 13) y1.enc/\xG (aZ (fX v) (↑x4.1:Int)) x4.2.2.2 (fun
 s h1=>Cq (cK s (cR lN (dO y1))) h1 (λc p p1=>eE (iC c p p1) 0 (K (eZ (iC c p p1)) m h1) (∃(x5:Nat×Nat×Sl×PH),aA (I4 x5) (m5 x5<m5 x4) (aA dZ (cC x4.1 x5.1) (aA (gH v) (cC x4.1 x5.1) (aA (bB (tB x4) (tB x5)) (bZ (tB x4) (tB x5)) (aA (fU (bF x4.2.1 1)=bT x5.2.1) (bM v) (aA (m=m) (h1=x5.2.2.2) True))))))))))) (∃(x5:Nat×PH),aA (I3 x5) (m4 x5<m4 x3) (aA dZ (gH v) (aA (fU (bF x4.1 1)=bT x5.1) (bM v) (aA (m=m) (x4.2.2.2=x5.2) True)))))) (K (eZ 0) m x3.2))))))))))
theorem j4.out{hx:PH}{r:CV}(hm:Sub m m')(hle:PH.le h hx)(hK:K r m h):j4 h K r m' hx:=⟨m,h,hm,.refl _,hle,hK⟩
theorem sB(h:¬A9 s):eJ s=2:=by unfold eJ;rw[if_neg h]
theorem Is(h:A9 s)(h':¬Hh s):eJ s=70:=by unfold eJ;rw[if_pos h,if_neg h']
theorem Fy(h:A9 s)(h':Hh s):eJ s=o9 ((List.range s.tables.length).flatMap (qD s)):=by unfold eJ;rw[if_pos h,if_pos h']
theorem Ab{t:tV}(hx:s.tables[i]? =some t)(hp:t.checks[k]? =some p):(qD s i)[k]? =some (iC (gI s i) [] p):=by
 unfold qD;rw[hx];simp[hp]
theorem GM{t:tV}(hx:s.tables[i]? =some t):(qD s i).length=t.checks.length:=by
 unfold qD;rw[hx];simp
theorem Kh{e:Int}(hk:l[k]? =some e)(h:∀x∈l.take k,x=0)(he:e=0):∀x∈l.take (k+1),x=0:=by
 intro x hx;rw[List.take_add_one,hk,List.mem_append]at hx;rcases hx with hx|hx
 .exact h x hx
 .simp at hx;rw[hx,he]
theorem Nh{f:Nat->List Int}(h:∀j<i,∀x∈f j,x=0)(hl:(f i).length<=k)(h2:∀x∈(f i).take k,x=0):∀j<i+1,∀x∈f j,x=0:=by
 intro j hj x hx;by_cases e:j=i
 .subst e;rw[List.take_of_length_le hl]at h2;exact h2 x hx
 .exact h j aC x hx
theorem KH:Sound Tryz.prog 79 zX:=by
 refine EX Tryz.func79 ?_;rintro cvs m h K ⟨v,s,rfl,hs,hK⟩;refine⟨WV v m h,rfl,aD Rh (aD Rg (aD F0 (aD Jy aF))),Jj v m h (j4 h K),by kernel_rfl,?_⟩;show Jj v m h (j4 h K);dsimp only[Jj,push_cast];have hl:=hs.tables.slen;have hlen:=hs.tables.len;have hver:=hs.version;have out:∀(hx:PH)(x:Int),PH.le h hx->eJ s=x->j4 h K (.val (.int .i64 x)) m hx:=λhx x hle e=>.out (Sub.refl m) hle (by rw[<-e];exact hK);refine aE (λh1=>out h _ (.refl _) (sB λe=>by have:=e.1;omega)) (λh1=>?_);refine⟨λi=>i<=s.tables.length/\eO (λ_ t=>JO t) s.tables i,λi=>s.tables.length-i,⟨0,⟨aC,.zero⟩,MT⟩,λi⟨hi,hg⟩=>aE (λhlt=>?_) (λhge=>?_)⟩
 .obtain⟨t,hx⟩:=eW hl hlt;obtain⟨b,o,w,ea,hr,hrep⟩:=hs.tables.at hx;have e1:=bL.slen hrep.columns;have e2:=bL.slen hrep.refs;have e3:=bL.slen hrep.checks;have bad:¬JO t->j4 h K (.val (.int .i64 2)) m h:=λhn=>out h _ (.refl _) (sB λe=>Good.not hx hn e.2);refine⟨b,o,ea,aC,hlt,w,.imm hr,aE (λh2=>bad λe=>?_) (λh2=>aE (λh3=>bad λe=>?_) (λh3=>aE (λh4=>bad λe=>?_) (λh4=>⟨i+1,⟨aC,hg.succ hx ⟨aC,aC,aC⟩⟩,by show s.tables.length-(i+1)<s.tables.length-i;omega,MT⟩)))⟩
  .have:=e.1;omega
  .have:=e.2.1;omega
  .have:=e.2.2;omega
 have lim:A9 s:=⟨aC,hg.all aC⟩
 have h8:nD s:=λt ht=>by
  obtain⟨j,hj⟩:=List.mem_iff_getElem?.1 ht;exact(lim.2 j t hj).1
 have bad:¬Hh s->j4 h K (.val (.int .i64 70)) m h:=λhn=>out h _ (.refl _) (Is lim hn);refine aE (λh2=>bad λe=>?_) (λh2=>aE (λh3=>bad λe=>?_) (λh3=>⟨v,s,rfl,hs,λr hr=>aB (λh4=>bad λe=>?_) (λh4=>⟨v,s,rfl,hs,hr.1 (by simpa using h4),λr2 hr2=>aB (λh5=>bad λe=>?_) (λh5=>?_)⟩)⟩))
 .have:=e.1;omega
 .have:=e.2.1;omega
 .rw[hr.2 e.2.2.1]at h4;cases h4
 .rw[hr2.2 e.2.2.2]at h5;cases h5
 have ok:Hh s:=⟨aC,aC,hr.1 (by simpa using h4),hr2.1 (by simpa using h5)⟩
 rw[Fy lim ok]at out;refine⟨λ⟨i,hx⟩=>i<=s.tables.length/\PH.le h hx/\∀j<i,∀x∈qD s j,x=0,λ⟨i,_⟩=>s.tables.length-i,⟨(0,h),⟨aC,.refl _,λj hj=>by omega⟩,MT⟩,?_⟩;rintro⟨i,hx⟩ ⟨hi,hle,hz⟩;dsimp only;refine aE (λhlt=>?_) (λhge=>out hx _ hle (y8 _ λe he=>?_))
 .obtain⟨t,ht⟩:=eW hl hlt;obtain⟨b,o,w,ea,hr,hrep⟩:=(hs.mono hle).tables.at ht;have cl:=bL.slen hrep.checks;have cb:=bL.len hrep.checks;refine⟨b,o,ea,aC,hlt,w,.imm hr,v,s,i,rfl,hs.mono hle,h8,λsl h' hle' hints=>?_⟩;refine⟨λ⟨i',k,ks,cs,hy⟩=>i'=i/\cs=w.checks/\k<=t.checks.length/\PH.le h' hy/\Ints hy ks (gI s i)/\∀x∈(qD s i).take k,x=0,λ⟨_,k,_,_,_⟩=>t.checks.length-k,⟨(i,0,sl,w.checks,h'),⟨rfl,rfl,aC,.refl _,hints,λx hx=>by simp at hx⟩,MT⟩,?_⟩;rintro⟨i,k,ks,_,hy⟩ ⟨rfl,rfl,hk,hle2,hints2,hz2⟩;dsimp only;have hlh:PH.le h hy:=(hle.trans hle').trans hle2;refine aE (λhlt2=>?_) (λhge2=>⟨(i+1,hy),⟨aC,hlh,Nh hz (k:=k) (by rw[GM ht];omega) hz2⟩,by show s.tables.length-(i+1)<s.tables.length-i;omega,MT⟩);obtain⟨p,hp⟩:=eW cl hlt2;obtain⟨b2,o2,pv,ea2,hr2',hrep2⟩:=((hrep.checks.mono hle').mono hle2).at hp;refine⟨b2,o2,ea2,aC,hlt2,pv,.imm hr2',ks,⟨none,0,0⟩,pv,gI s i,[],p,rfl,hints2,⟨.nil _ _,by simp⟩,hrep2,aB (λh6=>?_) (λh6=>?_)⟩
  .exact out hy _ hlh (G7 aC hz hz2 (Ab ht hp) (by simpa using h6))
  .exact⟨(i,k+1,ks,w.checks,hy),⟨rfl,rfl,by show k+1<=t.checks.length;omega,hle2,hints2,Kh (Ab ht hp) hz2 (by simpa using h6)⟩,by show t.checks.length-(k+1)<t.checks.length-k;omega,MT⟩
 .obtain⟨j,hj,hx⟩:=List.mem_flatMap.1 he;exact hz j (by have:=List.mem_range.1 hj;omega) e hx
theorem TL:Sound Tryz.prog 63 zX:=by
 refine EX Tryz.func63 ?_;rintro cvs m h K ⟨v,s,rfl,hs,hK⟩;refine⟨W7 v m h,rfl,aD TA (aD Tz (aD CT (aD F2 aF))),Jl v m h (j4 h K),by kernel_rfl,?_⟩;show Jl v m h (j4 h K);dsimp only[Jl,push_cast];have hl:=hs.tables.slen;have hlen:=hs.tables.len;have hver:=hs.version;have out:∀(hx:PH)(x:Int),PH.le h hx->eJ s=x->j4 h K (.val (.int .i64 x)) m hx:=λhx x hle e=>.out (Sub.refl m) hle (by rw[<-e];exact hK);refine aE (λh1=>out h _ (.refl _) (sB λe=>by have:=e.1;omega)) (λh1=>?_);refine⟨λi=>i<=s.tables.length/\eO (λ_ t=>JO t) s.tables i,λi=>s.tables.length-i,⟨0,⟨aC,.zero⟩,MT⟩,λi⟨hi,hg⟩=>aE (λhlt=>?_) (λhge=>?_)⟩
 .obtain⟨t,hx⟩:=eW hl hlt;obtain⟨b,o,w,ea,hr,hrep⟩:=hs.tables.at hx;have e1:=bL.slen hrep.columns;have e2:=bL.slen hrep.refs;have e3:=bL.slen hrep.checks;have bad:¬JO t->j4 h K (.val (.int .i64 2)) m h:=λhn=>out h _ (.refl _) (sB λe=>Good.not hx hn e.2);refine⟨b,o,ea,aC,hlt,w,.imm hr,aE (λh2=>bad λe=>?_) (λh2=>aE (λh3=>bad λe=>?_) (λh3=>aE (λh4=>bad λe=>?_) (λh4=>⟨i+1,⟨aC,hg.succ hx ⟨aC,aC,aC⟩⟩,by show s.tables.length-(i+1)<s.tables.length-i;omega,MT⟩)))⟩
  .have:=e.1;omega
  .have:=e.2.1;omega
  .have:=e.2.2;omega
 have lim:A9 s:=⟨aC,hg.all aC⟩
 have h8:nD s:=λt ht=>by
  obtain⟨j,hj⟩:=List.mem_iff_getElem?.1 ht;exact(lim.2 j t hj).1
 have bad:¬Hh s->j4 h K (.val (.int .i64 70)) m h:=λhn=>out h _ (.refl _) (Is lim hn);refine aE (λh2=>bad λe=>?_) (λh2=>aE (λh3=>bad λe=>?_) (λh3=>?_))
 .have:=e.1;omega
 .have:=e.2.1;omega
 clear hi hg hge;refine⟨λi=>i<=s.tables.length/\eO zU s.tables i,λi=>s.tables.length-i,⟨0,⟨aC,.zero⟩,MT⟩,λi⟨hi,hg⟩=>aE (λhlt=>?_) (λhge=>?_)⟩
 .obtain⟨t,hx⟩:=eW hl hlt;refine⟨v,s,t,i,rfl,hs,hx,λr hr=>aB (λh4=>bad λe=>?_) (λh4=>⟨i+1,⟨aC,hg.succ hx (hr.1 (by simpa using h4))⟩,by show s.tables.length-(i+1)<s.tables.length-i;omega,MT⟩)⟩;rw[hr.2 (e.2.2.1 i t hx)]at h4;cases h4
 have good:=hg.all aC;clear hi hg hge;refine⟨λi=>i<=s.tables.length/\eO (Bk s.tables) s.tables i,λi=>s.tables.length-i,⟨0,⟨aC,.zero⟩,MT⟩,λi⟨hi,hg⟩=>aE (λhlt=>?_) (λhge=>?_)⟩
 .obtain⟨t,hx⟩:=eW hl hlt;refine⟨v,s,t,i,rfl,hs,good,hx,λr hr=>aB (λh4=>bad λe=>?_) (λh4=>⟨i+1,⟨aC,hg.succ hx (hr.1 (by simpa using h4))⟩,by show s.tables.length-(i+1)<s.tables.length-i;omega,MT⟩)⟩;rw[hr.2 (e.2.2.2 i t hx)]at h4;cases h4
 have good2:=hg.all aC;clear hi hg hge;have ok:Hh s:=⟨aC,aC,good,good2⟩
 rw[Fy lim ok]at out;refine⟨λ⟨i,hx⟩=>i<=s.tables.length/\PH.le h hx/\∀j<i,∀x∈qD s j,x=0,λ⟨i,_⟩=>s.tables.length-i,⟨(0,h),⟨aC,.refl _,λj hj=>by omega⟩,MT⟩,?_⟩;rintro⟨i,hx⟩ ⟨hi,hle,hz⟩;dsimp only;refine aE (λhlt=>?_) (λhge=>out hx _ hle (y8 _ λe he=>?_))
 .obtain⟨t,ht⟩:=eW hl hlt;obtain⟨b,o,w,ea,hr,hrep⟩:=(hs.mono hle).tables.at ht;have cl:=bL.slen hrep.checks;have cb:=bL.len hrep.checks;refine⟨b,o,ea,aC,hlt,w.checks,.imm (aX.part hr 4 1),?_⟩;refine⟨λ⟨i',k,cs,hy⟩=>i'=i/\cs=w.checks/\k<=t.checks.length/\PH.le hx hy/\∀x∈(qD s i).take k,x=0,λ⟨_,k,_,_⟩=>t.checks.length-k,⟨(i,0,w.checks,hx),⟨rfl,rfl,aC,.refl _,λx hx=>by simp at hx⟩,MT⟩,?_⟩;rintro⟨i,k,_,hy⟩ ⟨rfl,rfl,hk,hle2,hz2⟩;dsimp only;have hlh:PH.le h hy:=hle.trans hle2;refine aE (λhlt2=>?_) (λhge2=>⟨(i+1,hy),⟨aC,hlh,Nh hz (k:=k) (by rw[GM ht];omega) hz2⟩,by show s.tables.length-(i+1)<s.tables.length-i;omega,MT⟩);obtain⟨p,hp⟩:=eW cl hlt2;obtain⟨b2,o2,pv,ea2,hr2',hrep2⟩:=(hrep.checks.mono hle2).at hp;refine⟨b2,o2,ea2,aC,hlt2,pv,.imm hr2',v,s,i,rfl,hs.mono hlh,h8,λsl h' hle' hints=>⟨sl,⟨none,0,0⟩,pv,gI s i,[],p,rfl,hints,⟨.nil _ _,by simp⟩,hrep2.mono hle',aB (λh6=>?_) (λh6=>?_)⟩⟩
  .exact out h' _ (hlh.trans hle') (G7 aC hz hz2 (Ab ht hp) (by simpa using h6))
  .exact⟨(i,k+1,w.checks,h'),⟨rfl,rfl,by show k+1<=t.checks.length;omega,hle2.trans hle',Kh (Ab ht hp) hz2 (by simpa using h6)⟩,by show t.checks.length-(k+1)<t.checks.length-k;omega,MT⟩
 .obtain⟨j,hj,hx⟩:=List.mem_flatMap.1 he;exact hz j (by have:=List.mem_range.1 hj;omega) e hx
mutual
def nE:Query->Int->Int
 |.mk _ _ _ _ _ _ _ _ args,n=>kL args (n+1)
def kL:List Query->Int->Int
 |[],n=>n
 |p::ps,n=>if n<=24 then kL ps (nE p n)else n
end
mutual
def nC:Query->Nat->Bool
 |.mk _ _ _ _ _ _ _ _ _,0=>true
 |.mk _ _ _ _ _ _ _ _ args,n+1=>wQ args n
def wQ:List Query->Nat->Bool
 |[],_=>false
 |p::ps,n=>nC p n||wQ ps n
end
mutual
theorem Eg:∀(p:Query)(n:Int),n<=24->n<nE p n/\nE p n<=25
 |.mk _ _ _ _ _ _ _ _ args,n,h=>by
  have:=Di args (n+1) aC;simp only[nE];omega
theorem Di:∀(ps:List Query)(n:Int),n<=25->n<=kL ps n/\kL ps n<=25
 |[],n,h=>by simp only[kL];omega
 |p::ps,n,h=>by
  simp only[kL];split
  .rename_i h1;have h2:=Eg p n h1;have h3:=Di ps (nE p n) h2.2;omega
  .omega
end
theorem Mf(ps:List Query){n:Int}(h:¬n<=24):kL ps n=n:=by
 cases ps
 .simp[kL]
 .simp only[kL,if_neg h]
theorem Fa(n:Nat):∀ps:List Query,wQ ps n=ps.any (nC · n)
 |[]=>by simp[wQ]
 |p::ps=>by simp[wQ,Fa n ps]
theorem dC.args{p:Query}(r:dC h p v):yJ h v.args p.args:=by
 cases p;exact r.parts.args_
def lF(q:Query):Bool:=decide (nE q 0<=24)&& !nC q 8
def arity(op:Int):Int:=
 if op==1 then 0 else if op==2||op==3||op==9 then 1 else if op==4||op==5||op==6||op==7||op==8||op==10 then 2 else-1
def M6(N:Nat):Vc.Spec:=λcvs m h K=>∃v p k,cvs=[aQ v,cI k,cI 24]/\dC h p v/\SizeOf.sizeOf p<N/\0<=k/\k<=24/\K (cI (nE p k)) m h
def J0(N:Nat):Vc.Spec:=λcvs m h K=>∃v p,∃k:Nat,cvs=[aQ v,cI k]/\dC h p v/\SizeOf.sizeOf p<N/\k<=100/\K (cB (nC p k)) m h
def M0:Vc.Spec:=λcvs m h K=>∃v p,cvs=[aQ v]/\dC h p v/\K (cB (lF p)) m h
def RN:Vc.Spec:=λcvs m h K=>∃op,cvs=[cI op]/\K (cI (arity op)) m h
def Fq(l:List Int)(n:Int):Bool:=decide (0<=n)&&decide (n<l.length)
def Y4:Vc.Spec:=λcvs m h K=>∃s l n,cvs=[cS s,cI n]/\Ints h s l/\K (cB (Fq l n)) m h
noncomputable def W4(N:Nat)(v:QV)(m:MH)(h:PH):Ctx:=
 dL [(66,M6 N)] [(3,{A:=Nat×Int,st:=λx=>cD 31 34 [(1,iv x.2),(2,iv 24),(3,.at (.ptr 3 0)),(7,iv x.1)] [(3,.cells 38 (v.enc.map .val))] m h})] [] [] false
noncomputable def W3(N:Nat)(v:QV)(k:Nat)(m:MH)(h:PH):Ctx:=
 dL [(67,J0 N)] [(4,{A:=Nat,st:=λi=>cD 23 25 [(1,iv k),(2,.at (.ptr 2 0)),(10,iv v.args.len),(11,iv i)] [(2,.cells 38 (v.enc.map .val))] m h})] [] [] false
abbrev dP(a:QV):Prop:=eQ (oB 38 a.enc)
attribute [push_cast] dP
def OC(N:Nat)(v:QV)(k:Int)(m:MH)(h:PH)(K:CV->MH->PH->Prop):Prop:=
  ∃(I:Nat×Int->Prop)(m1:Nat×Int->Nat),(∃(x:Nat×Int),aA (I x) (cL (eC (k+1)) x.2) (aA (eQ (fU 24)) (eP 3) (aA (bA x.1) (dP v) (aA (m=m) (h=h) True))))/\∀(x:Nat×Int),I x->aW (↑x.1:Int) (aG v.args) (branch (decide (x.2<=24)) (bD (λb o=>aH (bE v.args.a b o) (0<=(↑x.1:Int)) ((↑x.1:Int)<aG v.args) (∃(y:QV),aM m h b (bI o x.1 21) y.enc/\kC (λv1 p=>∃(k1:Int),aA (bP y.enc (aZ (eZ x.2) 24)=bP v1.enc (aZ (eZ k1) 24)) (dC h p v1) (aA (oK p N) (cF k1) (k1<=24/\∃(x1:Nat×Int),aA (I x1) (m1 x1<m1 x) (aA (cL (nE p k1) x1.2) (eQ (fU 24)) (aA (eP 3) (fU (bF x.1 1)=bT x1.1) (aA (dP v) (m=m) (bN h h)))))))))) (K (eZ x.2) m h)) (K (eZ x.2) m h)
abbrev uJ(a:QV):Prop:=bK a.args
attribute [push_cast] uJ
def OB(N:Nat)(v:QV)(k:Nat)(m:MH)(h:PH)(K:CV->MH->PH->Prop):Prop:=
  dK (↑k:Int) 0 (K fN m h) (mA (λI x=>aA (I x) (eQ (bT k)) (aA fQ (uJ v) (aA (bA x) (dP v) (aA (m=m) (h=h) True)))) (λI m1 x=>I x->aW (↑x:Int) (aG v.args) (bD (λb o=>aH (bE v.args.a b o) (0<=(↑x:Int)) ((↑x:Int)<aG v.args) (∃(y:QV),aM m h b (bI o x 21) y.enc/\kC (λv1 p=>∃(k1:Nat),aA (aZ (bJ y) (eC ((↑k:Int)-1))=aZ (bJ v1) (↑k1:Int)) (dC h p v1) (aA (oK p N) (k1<=100) (hZ (nC p k1) (K fN m h) (λx1=>aA (I x1) (m1 x1<m1 x) (aA (eQ (bT k)) fQ (aA (uJ v) (fU (bF x 1)=bT x1) (aA (dP v) (m=m) (bN h h))))))))))) (K aU m h)))
def OR(N:Nat)(v:QV)(m:MH)(h:PH)(K:CV->MH->PH->Prop):Prop:=
  kC (λv1 p=>∃(k:Int),aA (bP v.enc (aZ (eZ 0) 24)=bP v1.enc (aZ (eZ k) 24)) (dC h p v1) (aA (oK p N) (cF k) (gU (k<=24) (decide (nE p k<=24)) (kC (λv2 p1=>∃(k1:Nat),aA (aZ (bJ v) 8=aZ (bJ v2) (↑k1:Int)) (dC h p1 v2) (aA (oK p1 N) (k1<=100) (K (CV.val (Value.bool (!(nC p1 k1)))) m h)))) (K aU m h))))
def Oe(op:Int)(m:MH)(h:PH)(K:CV->MH->PH->Prop):Prop:=
  cV (op==1) (K (eZ 0) m h) (op==2) (K (eZ 1) m h) (cV (op==3) (K (eZ 1) m h) (op==9) (K (eZ 1) m h) (cV (op==4) (K (eZ 2) m h) (op==5) (K (eZ 2) m h) (cV (op==6) (K (eZ 2) m h) (op==7) (K (eZ 2) m h) (cV (op==8) (K (eZ 2) m h) (op==10) (K (eZ 2) m h) (K (eZ (Int.negSucc 0)) m h)))))
def Ln(s:Sl)(n:Int)(m:MH)(h:PH)(K:CV->MH->PH->Prop):Prop:=
  gA n 0 (K (z7 (decide (n<aG s))) m h) (K aU m h)
theorem Sm:∀N,Sound Tryz.prog 66 (M6 N)
 |0=>by
  refine eD (fn:=Tryz.f66) (c:=dM Tryz.f66) Tryz.func66 rfl (by decide) ?_;rintro cvs m h K ⟨v,p,k,rfl,hr,hN,_⟩;omega
 |N+1=>by
  refine gZ Tryz.func66 ?_;rintro cvs m h K ⟨v,p,k,rfl,hr,hN,h0,h1,hK⟩;refine⟨W4 N v m h,rfl,aD (Sm N) aF,OC N v k m h K,by kernel_rfl,?_⟩;dsimp only[OC,push_cast];have hargs:=hr.args;have hlen:=hargs.slen;have hl:=hargs.len;refine⟨λx=>x.1<=p.args.length/\0<=x.2/\x.2<=25/\kL (p.args.drop x.1) x.2=nE p k,λx=>p.args.length-x.1,⟨(0,k+1),⟨by simp,by simp;omega,by simp;omega,?_⟩,?_⟩,?_⟩
  .cases p;simp[nE,Query.args]
  .rw[eG aC aC];exact MT
  rintro⟨i,n⟩ ⟨hi,hn0,hn1,he⟩;dsimp only at hi hn0 hn1 he⊢
  refine aE (λhlt=>aE (λhn=>?_) (λhn=>u6 hK ?_)) (λhge=>u6 hK ?_)
  .obtain⟨q,hq⟩:=eW hlen hlt;obtain⟨b,o,u,ea,hrd,hru⟩:=hargs.at hq;have hb:=Eg q n hn;rw[drop_cons hq,kL,if_pos hn]at he;refine⟨b,o,ea,aC,hlt,u,.imm hrd,u,q,n,rfl,hru,?_,hn0,hn,(i+1,nE q n),⟨by dsimp only;omega,by dsimp only;omega,by dsimp only;omega,he⟩,by dsimp only;omega,MT⟩;have:=By (List.mem_of_getElem? hq);omega
  .rw[<-he,Mf _ hn]
  .rw[<-he,List.drop_of_length_le aC];simp[kL]
theorem Sk:∀N,Sound Tryz.prog 67 (J0 N)
 |0=>by
  refine eD (fn:=Tryz.f67) (c:=dM Tryz.f67) Tryz.func67 rfl (by decide) ?_;rintro cvs m h K ⟨v,p,k,rfl,hr,hN,_⟩;omega
 |N+1=>by
  refine gZ Tryz.func67 ?_;rintro cvs m h K ⟨v,p,k,rfl,hr,hN,h1,hK⟩;refine⟨W3 N v k m h,rfl,aD (Sk N) aF,OB N v k m h K,by kernel_rfl,?_⟩;dsimp only[OB,push_cast];have hargs:=hr.args;have hlen:=hargs.slen;have hl:=hargs.len;refine aB (λhk=>gR hK ?_) (λhk=>?_)
  .have:k=0:=by have:(k:Int)=0:=(by simpa using hk);omega
   subst this;cases p;simp[nC]
  .have hk:k≠0:=by intro e;subst e;simp at hk
   have hdk:nC p k=p.args.any (nC · (k-1)):=by
    obtain⟨k',rfl⟩:∃k',k=k'+1:=⟨k-1,aC⟩
    cases p;simp[nC,Fa,Query.args]
   rw[hdk]at hK;refine⟨λi=>i<=p.args.length/\(p.args.take i).any (nC · (k-1))=false,λi=>p.args.length-i,⟨0,⟨aC,by simp⟩,MT⟩,λi hi=>aE (λhlt=>?_) (λhge=>gR hK ?_)⟩
   .obtain⟨q,hq⟩:=eW hlen hlt;obtain⟨b,o,u,ea,hrd,hru⟩:=hargs.at hq;refine⟨b,o,ea,aC,hlt,u,.imm hrd,u,q,k-1,?_,hru,?_,aC,aB (λhd=>gR hK ?_) (λhd=>?_)⟩
    .rw[eG aC aC,show((k-1:Nat):Int)=(k:Int)-1 by omega]
    .have:=By (List.mem_of_getElem? hq);omega
    .rw[List.any_eq_true];exact⟨q,List.mem_of_getElem? hq,hd⟩
    .refine⟨i+1,⟨aC,?_⟩,by show p.args.length-(i+1)<p.args.length-i;omega,MT⟩;rw[List.take_add_one,List.any_append,hi.2,hq];simpa using hd
   .have:=hi.2
    rwa [List.take_of_length_le aC]at this
theorem KM:Sound Tryz.prog 28 M0:=by
 refine gZ Tryz.func28 ?_;rintro cvs m h K ⟨v,p,rfl,hr,hK⟩;refine⟨dL [(66,M6 (SizeOf.sizeOf p+1)),(67,J0 (SizeOf.sizeOf p+1))] [] [] [] false,rfl,aD (Sm _) (aD (Sk _) aF),OR (SizeOf.sizeOf p+1) v m h K,by kernel_rfl,?_⟩;dsimp only[OR,push_cast];refine⟨v,p,0,rfl,hr,aC,aC,aC,aB (λh1=>⟨v,p,8,rfl,hr,aC,aC,gR hK ?_⟩) (λh1=>gR hK ?_)⟩
 .simp only[lF,h1,Bool.true_and]
 .simp only[lF,h1,Bool.false_and]
theorem KE:Sound Tryz.prog 94 RN:=by
 refine gZ Tryz.func94 ?_;rintro cvs m h K ⟨op,rfl,hK⟩;refine⟨dL [] [] [] [] false,rfl,aF,Oe op m h K,by kernel_rfl,?_⟩;dsimp only[Oe,push_cast]
 repeat' (first|(refine aB (λ_=>?_) (λ_=>?_))|(refine u6 hK ?_;simp only[arity];simp only[*,Bool.or_false,Bool.false_or,Bool.or_true,Bool.true_or,Bool.and_true,Bool.true_and,Bool.and_false,Bool.false_and,Bool.not_true,Bool.not_false,Bool.false_eq_true,if_true,if_false, ↓reduceIte];done)|(refine u6 hK ?_;simp only[arity];simp only[*,Bool.or_false,Bool.false_or,Bool.or_true,Bool.true_or,Bool.and_true,Bool.true_and,Bool.and_false,Bool.false_and,Bool.not_true,Bool.not_false,Bool.false_eq_true,if_true,if_false, ↓reduceIte];rfl))
theorem DK:Sound Tryz.prog 124 Y4:=by
 refine gZ Tryz.func124 ?_;rintro cvs m h K ⟨s,l,n,rfl,hs,hK⟩;refine⟨dL [] [] [] [] false,rfl,aF,Ln s n m h K,by kernel_rfl,?_⟩;dsimp only[Ln,push_cast];have hl:=hs.slen;refine aE (λh1=>gR hK ?_) (λh1=>gR hK ?_)
 .have h1:0<=n:=h1;simp only[Fq,hl,decide_eq_true h1,Bool.true_and]
 .have h1:¬0<=n:=by omega
  simp only[Fq,decide_eq_false h1,Bool.false_and]
def zZ(a b:List Int)(pre:List (Int×Int))(p:Int×Int):Prop:=Fq a p.1=true/\Fq b p.2=true/\a.getD p.1.toNat 0=b.getD p.2.toNat 0/\∀q∈pre,q.1≠p.1/\q.2≠p.2
def GH(a:List Int)(pre:List Int)(c:Int):Prop:=Fq a c=true/\c∉pre
def JV(a:List Int)(_:List (Int×Bool))(o:Int×Bool):Prop:=Fq a o.1=true
structure uU(a:List Int)(group:List Int)(order:List (Int×Bool))(limit:Int):Prop where
 group_:Good (GH a) group
 order_:Good (JV a) order
 len_:order.length<=12
 low:0<=limit
 high:limit<=100
def SI:Vc.Spec:=λcvs m h K=>∃s t u on a b,cvs=[cS s,cS t,cS u]/\lB h s on/\Ints h t a/\Ints h u b/\∀r:Bool,(r=true↔Good (zZ a b) on)->K (cB r) m h
def SG:Vc.Spec:=λcvs m h K=>∃v t g o a,cvs=[aQ v,cS t]/\Ints h v.group g/\iJ h v.order o/\Ints h t a/\∀r:Bool,(r=true↔uU a g o v.limit)->K (cB r) m h
noncomputable def VA(s t u:Sl)(m:MH)(h:PH):Ctx:=
 dL [(124,Y4)] [(2,{A:=Nat,st:=λi=>cD 66 69 [(0,sv s),(1,sv t),(2,sv u),(10,sv s),(11,iv s.len),(12,iv i)] [] m h}),
  (7,{A:=Nat×Nat×(Int×Int),st:=λ⟨i,k,p⟩=>cD 66 69 [(0,sv s),(1,sv t),(2,sv u),(7,iv i),(8,.at (.ptr 8 0)),(9,iv k),(10,sv s),(11,iv s.len),(12,iv i)] [(8,.cells 69 [.val (.int .i64 p.1),.val (.int .i64 p.2)])] m h})] [] [] false
noncomputable def Vz(v:QV)(t:Sl)(m:MH)(h:PH):Ctx:=
 dL [(124,Y4)] [(2,{A:=Nat,st:=λi=>cD 62 64 [(1,sv t),(2,.at (.ptr 2 0)),(11,sv v.group),(12,iv v.group.len),(13,iv i)] [(2,.cells 38 (v.enc.map .val))] m h}),
  (7,{A:=Nat×Nat×Int,st:=λ⟨i,k,c⟩=>cD 62 64 [(1,sv t),(2,.at (.ptr 2 0)),(5,iv i),(6,iv c),(7,iv k),(11,sv v.group),(12,iv v.group.len),(13,iv i)] [(2,.cells 38 (v.enc.map .val))] m h}),
  (13,{A:=Nat,st:=λi=>cD 62 64 [(1,sv t),(2,.at (.ptr 2 0)),(36,sv v.order),(37,iv v.order.len),(38,iv i)] [(2,.cells 38 (v.enc.map .val))] m h})] [] [] false
noncomputable abbrev fC(a:Sl)(b:Int):List CV:=aZ (lR a) b
abbrev Ek(a:Sl)(b:Int)(c:Nat->Nat->Option Value)(d e:Prop):Prop:=Az (λx x1=>∃(x2:Int),aA (fC a b=fC x x2) (Ints c x x1) (branch (!(Fq x1 x2)) d e))
abbrev fI:Prop:=eP 8
abbrev AB(a b:List At):Prop:=oQ 69 a=oQ 69 b
noncomputable abbrev pE(a:Int×Int):List At:=oW (lT a.1) (lT a.2)
attribute [push_cast] fC Ek fI AB pE
def Lm(s t u:Sl)(m:MH)(h:PH)(K:CV->MH->PH->Prop):Prop:=
  mA (λI x=>aA (I x) (aJ s) (aA (aJ t) (aJ u) (aA (aJ s) (bK s) (aA (bA x) (m=m) (bN h h))))) (λI m1 x=>I x->aW (↑x:Int) (aG s) (bD (λb o=>aH (bE s.a b o) (0<=(↑x:Int)) ((↑x:Int)<aG s) (∃(y:Int×Int),aH (aM m h b (bI o x 2) (tF y)) ((0:Int)<=0) ((0:Int)<2) (Ek t y.1 h (K aU m h) (aA (cF 1) ((1:Int)<2) (Ek u y.2 h (K aU m h) (aA (cF 0) ((0:Int)<2) (bD (λb1 o1=>aH (bE t.a b1 o1) (0<=y.1) (y.1<aG t) (∃(y1:Int),aH (aM m h b1 (fR o1 y.1 1) (bV y1)) ((0:Int)<=1) ((1:Int)<2) (bD (λb2 o2=>aH (bE u.a b2 o2) (0<=y.2) (y.2<aG u) (∃(y2:Int),aM m h b2 (fR o2 y.2 1) (bV y2)/\eE y1 y2 (K aU m h) (∃(I1:Nat×Nat×Int×Int->Prop)(m2:Nat×Nat×Int×Int->Nat),(∃(x1
 :Nat×Nat×Int×Int),aA (I1 x1) (aJ s) (aA (aJ t) (aJ u) (aA (cC x x1.1) fI (aA (bA x1.2.1) (aJ s) (aA (bK s) (cC x x1.1) (aA (AB (pE y) (pE x1.2.2)) (m=m) (bN h h)))))))/\∀(x1:Nat×Nat×Int×Int),I1 x1->aW (↑x1.2.1:Int) (↑x1.1:Int) (bD (λb3 o3=>aA (bE s.a b3 o3) (cF (↑x1.2.1:Int)) (aA ((↑x1.2.1:Int)<aG s) (cF 0) ((0:Int)<2/\∃(y3:Int),aH (aM m h b3 (dJ (bI o3 x1.2.1 2)) (bV y3)) ((0:Int)<=0) ((0:Int)<2) (dK y3 x1.2.2.1 (K aU m h) (bD (λb4 o4=>aA (bE s.a b4 o4) (cF (↑x1.2.1:Int)) (aA ((↑x1.2.1:Int)<aG s) (cF 1) ((1:Int)<2/\∃(y4:Int),aH (aM m h b4 (bI o4 x1.2.1 2+1) (bV y4)) ((0:Int)<=1) ((1:Int)<2) (dK y4 x1.2.2.2 (K aU m h) (∃(x2:Nat×Nat×Int×Int),aA
 (I1 x2) (m2 x2<m2 x1) (aA (aJ s) (aJ t) (aA (aJ u) (cC x1.1 x2.1) (aA fI (fU (bF x1.2.1 1)=bT x2.2.1) (aA (aJ s) (bK s) (aA (cC x1.1 x2.1) (AB (pE x1.2.2) (pE x2.2.2)) (bW (m=m) h h))))))))))))))))) (∃(x2:Nat),aA (I x2) (m1 x2<m1 x) (aA (aJ s) (aJ t) (aA (aJ u) (aJ s) (aA (bK s) (fU (bF x1.1 1)=bT x2) (bW (m=m) h h))))))))))))))))))) (K fN m h))
def Ll(v:QV)(t:Sl)(m:MH)(h:PH)(K:CV->MH->PH->Prop):Prop:=
  mA (λI x=>aA (I x) (aJ t) (aA (eP 2) (aJ v.group) (aA (bK v.group) (bA x) (aA (dP v) (m=m) (bN h h))))) (λI m1 x=>I x->aW (↑x:Int) (aG v.group) (bD (λb o=>aH (bE v.group.a b o) (0<=(↑x:Int)) ((↑x:Int)<aG v.group) (∃(y:Int),aM m h b (bI o x 1) (bV y)/\Ek t y h (K aU m h) (∃(I1:Nat×Nat×Int->Prop)(m2:Nat×Nat×Int->Nat),(∃(x1:Nat×Nat×Int),aA (I1 x1) (aJ t) (aA (eP 2) (cC x x1.1) (aA (cL y x1.2.2) (bA x1.2.1) (aA (aJ v.group) (bK v.group) (aA (cC x x1.1) (dP v) (aA (m=m) (h=h) True))))))/\∀(x1:Nat×Nat×Int),I1 x1->aW (↑x1.2.1:Int) (↑x1.1:Int) (bD (λb1 o1=>aH (bE v.group.a b1 o1) (0<=(↑x1.2.1:Int)) ((↑x1.2.1:Int)<aG v.group) (∃(y1:Int),aM m h b1 (bI o1 x1.2.1 1) (bV
 y1)/\dK y1 x1.2.2 (K aU m h) (∃(x2:Nat×Nat×Int),aA (I1 x2) (m2 x2<m2 x1) (aA (aJ t) fQ (aA (cC x1.1 x2.1) (cL x1.2.2 x2.2.2) (aA (fU (bF x1.2.1 1)=bT x2.2.1) (aJ v.group) (aA (bK v.group) (cC x1.1 x2.1) (aA (dP v) (m=m) (bN h h)))))))))) (∃(x2:Nat),aA (I x2) (m1 x2<m1 x) (aA (aJ t) fQ (aA (aJ v.group) (bK v.group) (aA (fU (bF x1.1 1)=bT x2) (dP v) (bW (m=m) h h))))))))) (mA (λI1 x1=>aA (I1 x1) (aJ t) (aA (eP 2) (aJ v.order) (aA (bK v.order) (bA x1) (aA (dP v) (m=m) (bN h h))))) (λI1 m2 x1=>I1 x1->aW (↑x1:Int) (aG v.order) (bD (λb o=>aH (bE v.order.a b o) (0<=(↑x1:Int)) ((↑x1:Int)<aG v.order) (∃(y:Int×Bool),aM m h b (bI o x1 2) (xL y)/\Az (λs l=>∃(n:Int),aA
 (fC t y.1=fC s n) (Ints h s l) (hZ (!(Fq l n)) (K aU m h) (λx2=>aA (I1 x2) (m2 x2<m2 x1) (aA (aJ t) fQ (aA (aJ v.order) (bK v.order) (aA (fU (bF x1 1)=bT x2) (dP v) (bW (m=m) h h)))))))))) (branch (decide (aG v.order<=12)) (gA v.limit 0 (K (z7 (decide (v.limit<=100))) m h) (K aU m h)) (K aU m h)))))
theorem IY{α:Type}{l:List α}{x:α}(hx:l[i]? =some x)(hi:i<k):x∈l.take k:=List.mem_of_getElem? (i:=i) (by rw[List.getElem?_take,if_pos hi,hx])
theorem Nq{α:Type}{l:List α}{x y:α}(hx:l[i]? =some x)(hy:y∈l.take (i+1)):y∈l.take i\/y=x:=by
 rw[List.take_add_one,hx,List.mem_append]at hy;rcases hy with h|h
 .exact .inl h
 .simp at h;exact .inr h
theorem j2{n:Int}:Fq l n=true↔0<=n/\n<l.length:=by simp[Fq]
theorem Q7:Sound Tryz.prog 125 SI:=by
 refine gZ Tryz.func125 ?_;rintro cvs m h K ⟨s,t,u,on,a,b,rfl,hs,ht,hu,hK⟩;refine⟨VA s t u m h,rfl,aD DK aF,Lm s t u m h K,by kernel_rfl,?_⟩;dsimp only[Lm,push_cast];have hl:=hs.slen;have hlen:=hs.len;have ta:=ht.slen;have ub:=hu.slen;refine⟨λi=>i<=on.length/\eO (zZ a b) on i,λi=>on.length-i,⟨0,⟨aC,.zero⟩,MT⟩,λi⟨hi,hg⟩=>aE (λhlt=>?_) (λhge=>hK true ⟨λ_=>hg.all aC,λ_=>rfl⟩)⟩;obtain⟨p,hp⟩:=eW hl hlt;obtain⟨b1,o1,e1,r1⟩:=hs.at hp;have bad:¬zZ a b (on.take i) p->K (.val (.bool false)) m h:=λhn=>hK false ⟨λe=>(by cases e),λe=>(Good.not hp hn e).elim⟩;refine⟨b1,o1,e1,aC,hlt,p,.imm r1,aC,aC,t,a,p.1,rfl,ht,aB (λh1=>bad λhh=>?_) (λh1=>⟨aC,aC,u,b,p.2,rfl,hu,aB (λh2=>bad λhh=>?_) (λh2=>?_)⟩)⟩
 .rw[hh.1]at h1;cases h1
 .rw[hh.2.1]at h2;cases h2
 have i1:Fq a p.1=true:=by simpa using h1
 have i2:Fq b p.2=true:=by simpa using h2
 have i1':=j2.1 i1;have i2':=j2.1 i2;obtain⟨b2,o2,e2,r2⟩:=ht.inb i1'.1 i1'.2;obtain⟨b3,o3,e3,r3⟩:=hu.inb i2'.1 i2'.2;refine⟨aC,aC,b2,o2,e2,aC,aC,_,.imm r2,aC,aC,b3,o3,e3,aC,aC,_,.imm r3,aB (λh3=>bad λhh=>?_) (λh3=>?_)⟩
 .rw[hh.2.2.1]at h3;simp at h3
 refine⟨λ⟨i',k,p'⟩=>i'=i/\p'=p/\k<=i/\∀q∈on.take k,q.1≠p.1/\q.2≠p.2,λ⟨_,k,_⟩=>i-k,⟨(i,0,p),⟨rfl,rfl,aC,λq hq=>by simp at hq⟩,MT⟩,?_⟩;rintro⟨i,k,p⟩ ⟨rfl,rfl,hk,hno⟩;dsimp only;refine aE (λhlt2=>?_) (λhge2=>?_)
 .obtain⟨q,hq⟩:∃q,on[k]? =some q:=⟨on[k]'(by omega),List.getElem?_eq_getElem _⟩
  obtain⟨b4,o4,e4,r4⟩:=hs.at hq;refine⟨b4,o4,e4,aC,aC,aC,aC,q.1,.imm (aX.part r4 0 1),aC,aC,aB (λh4=>bad λhh=>?_) (λh4=>⟨b4,o4,e4,aC,aC,aC,aC,q.2,.imm (aX.part r4 1 1),aC,aC,aB (λh5=>bad λhh=>?_) (λh5=>?_)⟩)⟩
  .exact(hh.2.2.2 q (IY hq aC)).1 (by simpa using h4)
  .exact(hh.2.2.2 q (IY hq aC)).2 (by simpa using h5)
  .refine⟨(i,k+1,p),⟨rfl,rfl,by show k+1<=i;omega,λq' hq'=>?_⟩,by show i-(k+1)<i-k;omega,MT⟩;rcases Nq hq hq' with e|rfl
   .exact hno q' e
   .exact⟨by simpa using h4,by simpa using h5⟩
 .have:k=i:=by omega
  subst this;exact⟨k+1,⟨aC,hg.succ hp ⟨i1,i2,by simpa using h3,hno⟩⟩,by show on.length-(k+1)<on.length-k;omega,MT⟩
theorem Q6:Sound Tryz.prog 126 SG:=by
 refine gZ Tryz.func126 ?_;rintro cvs m h K ⟨v,t,g,o,a,rfl,hg,ho,ht,hK⟩;refine⟨Vz v t m h,rfl,aD DK aF,Ll v t m h K,by kernel_rfl,?_⟩;dsimp only[Ll,push_cast];have gl:=hg.slen;have glen:=hg.len;have ol:=ho.slen;have olen:=ho.len;have bad:¬uU a g o v.limit->K (.val (.bool false)) m h:=λhn=>hK false ⟨λe=>(by cases e),λe=>(hn e).elim⟩;refine⟨λi=>i<=g.length/\eO (GH a) g i,λi=>g.length-i,⟨0,⟨aC,.zero⟩,MT⟩,λi⟨hi,hgi⟩=>aE (λhlt=>?_) (λhge=>?_)⟩
 .obtain⟨c,hc⟩:=eW gl hlt;obtain⟨b1,o1,e1,r1⟩:=hg.at' hc;refine⟨b1,o1,e1,aC,hlt,c,.imm r1,t,a,c,rfl,ht,aB (λh1=>bad λhh=>Good.not hc (λhx=>?_) hh.group_) (λh1=>?_)⟩
  .rw[hx.1]at h1;cases h1
  refine⟨λ⟨i',k,c'⟩=>i'=i/\c'=c/\k<=i/\c∉g.take k,λ⟨_,k,_⟩=>i-k,⟨(i,0,c),⟨rfl,rfl,aC,by simp⟩,MT⟩,?_⟩;rintro⟨i,k,c⟩ ⟨rfl,rfl,hk,hno⟩;dsimp only;refine aE (λhlt2=>?_) (λhge2=>?_)
  .obtain⟨q,hq⟩:∃q,g[k]? =some q:=⟨g[k]'(by omega),List.getElem?_eq_getElem _⟩
   obtain⟨b4,o4,e4,r4⟩:=hg.at' hq;refine⟨b4,o4,e4,aC,aC,q,.imm r4,aB (λh4=>bad λhh=>Good.not hc (λhx=>?_) hh.group_) (λh4=>?_)⟩
   .refine hx.2 ?_;have:q=c:=by simpa using h4
    rw[<-this];exact IY hq aC
   .refine⟨(i,k+1,c),⟨rfl,rfl,by show k+1<=i;omega,λhq'=>?_⟩,by show i-(k+1)<i-k;omega,MT⟩;rcases Nq hq hq' with e|rfl
    .exact hno e
    .simp at h4
  .have:k=i:=by omega
   subst this;exact⟨k+1,⟨aC,hgi.succ hc ⟨by simpa using h1,hno⟩⟩,by show g.length-(k+1)<g.length-k;omega,MT⟩
 have gg:=hgi.all aC;clear hi hgi hge;refine⟨λi=>i<=o.length/\eO (JV a) o i,λi=>o.length-i,⟨0,⟨aC,.zero⟩,MT⟩,λi⟨hi,hoi⟩=>aE (λhlt=>?_) (λhge=>?_)⟩
 .obtain⟨c,hc⟩:=eW ol hlt;obtain⟨b1,o1,e1,r1⟩:=ho.at hc;refine⟨b1,o1,e1,aC,hlt,c,.imm r1,t,a,c.1,rfl,ht,aB (λh1=>bad λhh=>Good.not hc (λhx=>?_) hh.order_) (λh1=>⟨i+1,⟨aC,hoi.succ hc (by simpa[JV]using h1)⟩,by show o.length-(i+1)<o.length-i;omega,MT⟩)⟩;rw[show Fq a c.1=true from hx]at h1;cases h1
 have oo:=hoi.all aC;refine aE (λh1=>aE (λh2=>?_) (λh2=>bad λhh=>?_)) (λh1=>bad λhh=>?_)
 .refine hK (decide (v.limit<=100)) ⟨λe=>⟨gg,oo,aC,h2,by simpa using e⟩,λe=>decide_eq_true e.high⟩
 .have:=hh.low;omega
 .have:=hh.len_;omega
def iB:Pred:=.mk 0 0 dN dN []
def dQ:Query->Prop
 |.mk op ta w co on gr od li _=>(op=1\/ta=0)/\(op=2\/w=iB)/\(op=3\/co=[])/\(op=4\/op=5\/on=[])/\(op=9\/op=10\/(gr=[]/\od=[]/\li=0))
def yY(l:List Int):List Int×Int:=if l.length<=12 then(l,0)else([],2)
def jT(e:Int):List Int×Int:=([],e)
open Classical in
noncomputable def iS(s:oF)(ps:List Int)(q:Query)(a b:List Int):List Int×Int:=
 if arity (match q with|.mk op .. =>op)<0\/¬dQ q then jT 100 else
 match q with
 |.mk op ta w co on gr od li _=>
  if op=1 then(if 0<=ta/\ta<s.tables.length then yY (gI s ta)else jT 100)
  else if op=2 then(if iC a ps w=0 then yY a else jT (iC a ps w))
  else if op=3 then(if co≠[]/\Good (λ_ c=>Fq a c=true) co then yY (co.map λc=>a.getD c.toNat 0)else jT 100)
  else if op=4 then(if Good (zZ a b) on then yY (a++b)else jT 100)
  else if op=5 then(if Good (zZ a b) on then yY a else jT 100)
  else if op=9 then(if uU a gr od li then yY a else jT 100)
  else if op=10 then(if a=b/\uU a gr od li then yY a else jT 100)
  else(if a=b then yY a else jT 100)
def SA:Vc.Spec:=λcvs m h K=>∃v q,cvs=[aQ v]/\dC h q v/\∀r:Bool,(r=true↔dQ q)->K (cB r) m h
def KR(K:CV->MH->PH->Prop)(m:MH)(h:PH)(r:List Int×Int):Prop:=∀sl h',PH.le h h'->Ints h' sl r.1->K (.tup [cS sl,cI r.2]) m h'
def X5:Vc.Spec:=λcvs m h K=>∃sc p v a b s ps q la lb,cvs=[aS sc,cS p,aQ v,cS a,cS b]/\gJ h s sc/\nD s/\Ints h p ps/\dC h q v/\Ints h a la/\Ints h b lb/\la.length<=12/\lb.length<=12/\KR K m h (iS s ps q la lb)
noncomputable def WM(m:MH):Ctx:=
 dL [(94,RN),(123,SA),(44,rR),(69,pZ),(124,Y4),(125,SI),(126,SG),(127,zY)] [(20,{A:=Nat×Sl×Sl×List Int×PH,st:=λ⟨i,a,co,l,h⟩=>cD 121 126 [(3,sv a),(12,.at (.lst 94)),(78,sv co),(79,iv co.len),(80,iv i)] [(94,.lst 3 1 (l.map eI))] m h})] [] [] false
noncomputable def VB(v:QV)(m:MH)(h:PH):Ctx:=
 Y7 [(163,XQ)] [] [(2,{A:=Bool,st:=λr=>cD 78 79 [(1,.at (.ptr 1 0)),(3,bv r)] [(1,.cells 38 (v.enc.map .val))] m h})] [(2,[(9,{A:=Bool×Bool,st:=λx=>cD 78 79 [(1,.at (.ptr 1 0)),(3,bv x.1),(20,bv x.2)] [(1,.cells 38 (v.enc.map .val))] m h}),
  (11,{A:=Bool×Bool,st:=λx=>cD 78 79 [(1,.at (.ptr 1 0)),(3,bv x.1),(31,bv x.2)] [(1,.cells 38 (v.enc.map .val))] m h}),
  (11,{A:=Bool×Bool,st:=λx=>cD 78 79 [(1,.at (.ptr 1 0)),(3,bv x.1),(42,bv x.2)] [(1,.cells 38 (v.enc.map .val))] m h}),
  (16,{A:=Bool×Bool,st:=λx=>cD 78 79 [(1,.at (.ptr 1 0)),(3,bv x.1),(58,bv x.2)] [(1,.cells 38 (v.enc.map .val))] m h})])] [] false
abbrev gT(a b:Bool):Prop:=Zf a=Zf b
abbrev uL(a:Bool):Prop:=gT true a
abbrev Ey(a:Prop)(b:(Bool×Bool->Prop)->Prop)(c:(Bool×Bool->Prop)->(Bool×Bool)->Prop):Prop:=a->∃(x:Bool×Bool->Prop),b x/\∀(x1:Bool×Bool),c x x1
noncomputable abbrev hX:List Value:=iE tY
abbrev Co(a:Bool×Bool->Prop)(b:Bool×Bool)(c:(Bool×Bool)->Prop)(d:QV)(e:MH)(g:PH):Prop:=∃(x:Bool×Bool),aA (a x) dZ (aA (gT b.1 x.1) (c x) (aH (dP d) (e=e) (g=g) True))
abbrev An(a:Bool):Prop:=gT false a
attribute [push_cast] gT uL Ey hX Co An
def Lo(v:QV)(m:MH)(h:PH)(K:CV->MH->PH->Prop):Prop:=
  ∃(I:Bool->Prop),dK v.op 9 (∃(x:Bool),aA (I x) dZ (aA (uL x) (dP v) (bW (m=m) h h))) (∃(x:Bool),aA (I x) dZ (aA (gT (v.op==10) x) (dP v) (bW (m=m) h h)))/\∀(x:Bool),Ey (I x) (λI1=>dK v.op 1 (∃(x1:Bool×Bool),aA (I1 x1) dZ (aA (gT x x1.1) (uL x1.2) (aH (dP v) (m=m) (h=h) True))) (∃(x1:Bool×Bool),aA (I1 x1) dZ (aA (gT x x1.1) (gT (v.table==0) x1.2) (aH (dP v) (m=m) (h=h) True)))) (λI1 x1=>Ey (I1 x1) (λI2=>branch x1.2 (dK v.op 2 (∃(x2:Bool×Bool),aA (I2 x2) dZ (aA (gT x1.1 x2.1) (uL x2.2) (aH (dP v) (m=m) (h=h) True))) (Ex (λv1 w p q=>aH (cR (dO v.where_) (mM (aR bU bU (aR bU bU (aR bU bU (aR RQ bU (aR bU bU (aR bU RQ
 hX)))))))=cR (dO v1) (dO w)) (eN h p v1) (eN h q w) (∀(r:Bool),(dT r↔p=q)->Co I2 x1 (λx2=>gT r x2.2) v m h)))) (∃(x2:Bool×Bool),aA (I2 x2) dZ (aA (gT x1.1 x2.1) (An x2.2) (aH (dP v) (m=m) (h=h) True)))) (λI2 x2=>Ey (I2 x2) (λI3=>branch x2.2 (dK v.op 3 (∃(x3:Bool×Bool),aA (I3 x3) dZ (aA (gT x2.1 x3.1) (uL x3.2) (aH (dP v) (m=m) (h=h) True))) (Co I3 x2 (λx3=>gT (aG v.columns==0) x3.2) v m h)) (∃(x3:Bool×Bool),aA (I3 x3) dZ (aA (gT x2.1 x3.1) (An x3.2) (aH (dP v) (m=m) (h=h) True)))) (λI3 x3=>Ey (I3 x3) (λI4=>branch x3.2 (cV (v.op==4) (Co I4 x3 (λx4=>uL x4.2) v m h) (v.op==5) (Co I4 x3 (λx4=>uL x4.2) v m h) (Co I4 x3 (λx4=>gT (aG v.on==0)
 x4.2) v m h)) (∃(x4:Bool×Bool),aA (I4 x4) dZ (aA (gT x3.1 x4.1) (An x4.2) (aH (dP v) (m=m) (h=h) True)))) (λI4 x4=>gG (I4 x4) x4.2 (cV x4.1 (K fN m h) (aG v.group==0) (dK (aG v.order) 0 (K (z7 (v.limit==0)) m h) (K aU m h)) (K aU m h)) (K aU m h)))))
abbrev lZ(a:Nat)(b:List (List Value))(c d:Prop)(e:Nat)(g:Prop):Prop:=aA (iN a b) c (aA d (iA e) g)
noncomputable abbrev cZ(a:Sl):Sl:=Sl.mk a.a a.len a.cap
noncomputable abbrev jW(a:List (List Value)):Int:=(↑a.length:Int)
abbrev vD(a:PH)(b:List (List Value))(c:CV->MH->PH->Prop)(d:MH):Prop:=bX a 1 b (λx x1=>c (CV.tup (aZ (lR x) 0)) d x1)
noncomputable abbrev tC(a:Nat×Sl×Sl×List Int×PH):Sl:=a.2.2.1
noncomputable abbrev xI(a:Nat×Sl×Sl×List Int×PH):List Int:=a.2.2.2.1
noncomputable abbrev tD(a:Nat×Sl×Sl×List Int×PH):Nat->Nat->Option Value:=a.2.2.2.2
abbrev IT(a:Sl->(List (Int×Int))->Prop):Prop:=∃(x:Sl)(x1:List (Int×Int)),a x x1
abbrev pO(a b:List (List Value))(c:Nat):Prop:=iA (kZ a b.length*c)
noncomputable abbrev pP(a b:List (List Value)):Nat:=kZ a b.length
attribute [push_cast] lZ cZ jW vD tC xI tD IT pO pP
def Jg(sc:cH)(p:Sl)(v:QV)(a b:Sl)(m:MH)(h:PH)(K:CV->MH->PH->Prop):Prop:=
  sX v.op (λo=>aW (arity o) 0 (K (CV.tup (aZ lN 100)) m h) (kC (λv1 q=>aA (eA (bJ v) (bJ v1)) (dC h q v1) (∀(r:Bool),gG (dT r↔dQ q) (!r) (K (CV.tup (aZ lN 100)) m h) (∃(y:List (List Value)),lZ 1 y (cN h (cZ a) 1 y) (iA (y.length*8)) y.length (cV (v.op==1) (aW v.table 0 (K (CV.tup (aZ lN 100)) m h) (gA v.table (gS sc) (K (CV.tup (aZ lN 100)) m h) (xG (aZ (fX sc) v.table) h (λs h1=>eM (aG s) 12 (K (CV.tup (aZ lN 2)) m h1) (K (CV.tup (aZ (lR s) 0)) m h1))))) (v.op==2) (Cq (cK a (fF p (dO v.where_))) h (λc p1 p2=>cV (iC c p1 p2 !=0) (K (CV.tup (aZ lN (iC c p1 p2))) m h) (decide (jW y>12)) (K (CV.tup (aZ lN 2)) m h) (vD h y K m))) (cV (v.op==3) (dK (aG v.columns) 0 (K (CV.tup (aZ lN
 100)) m h) (∃(I:Nat×Sl×Sl×List Int×PH->Prop)(m1:Nat×Sl×Sl×List Int×PH->Nat),(∃(x:Nat×Sl×Sl×List Int×PH),aA (I x) (bB a x.2.1) (aA (eL 94) (bB v.columns (tC x)) (aA (bZ v.columns (tC x)) (bA x.1) (aA (pD (xI x)) (m=m) (bN h (tD x))))))/\∀(x:Nat×Sl×Sl×List Int×PH),I x->aW (↑x.1:Int) (aG (tC x)) (bD (λb1 o1=>aH (bE (tC x).a b1 o1) (0<=(↑x.1:Int)) ((↑x.1:Int)<aG (tC x)) (∃(y1:Int),aM m (tD x) b1 (bI o1 x.1 1) (bV y1)/\Ek x.2.1 y1 (tD x) (K (CV.tup (aZ lN 100)) m (tD x)) (bD (λb2 o2=>aH (bE x.2.1.a b2 o2) (0<=y1) (y1<aG x.2.1) (∃(y2:Int),aH (aM m (tD x) b2 (fR o2 y1 1) (bV y2)) (xC (xI x)) (eF (fK (xI x))) (∃(x1:Nat×Sl×Sl×List
 Int×PH),aA (I x1) (m1 x1<m1 x) (aA (bB x.2.1 x1.2.1) (eL 94) (aA (bB (tC x) (tC x1)) (bZ (tC x) (tC x1)) (aA (fU (bF x.1 1)=bT x1.1) (qZ (xI x) y2 (xI x1)) (bW (m=m) (tD x) (tD x1)))))))))))) (eM (jW (fK (xI x))) 12 (K (CV.tup (aZ lN 2)) m (tD x)) (bX (tD x) 1 (fK (xI x)) (λs h1=>K (CV.tup (aZ (lR s) 0)) m h1))))) (v.op==4) (jV (λs t=>IT (λu o1=>uW (λa1 b1=>aA (cK v.on (fY a b)=cK s (fY t u)) (lB h s o1) (aA (Ints h t a1) (Ints h u b1) (∀(r1:Bool),(dT r1↔Good (zZ a1 b1) o1)->cV (!r1) (K (CV.tup (aZ lN 100)) m h) (v.op==4) (∃(y1:List (List Value)),lZ 1 y1 (cN h (cZ b) 1 y1) (pO y y1 8) (pP y y1) (eM (jW (y++y1)) 12 (K (CV.tup (aZ lN 2)) m h)
 (vD h (y++y1) K m))) (eM (jW y) 12 (K (CV.tup (aZ lN 2)) m h) (vD h y K m)))))))) (cV (v.op==5) (jV (λs t=>IT (λu o1=>uW (λa1 b1=>aA (cK v.on (fY a b)=cK s (fY t u)) (lB h s o1) (aA (Ints h t a1) (Ints h u b1) (∀(r1:Bool),(dT r1↔Good (zZ a1 b1) o1)->cV (!r1) (K (CV.tup (aZ lN 100)) m h) (v.op==4) (∃(y1:List (List Value)),lZ 1 y1 (cN h (cZ b) 1 y1) (pO y y1 8) (pP y y1) (eM (jW (y++y1)) 12 (K (CV.tup (aZ lN 2)) m h) (vD h (y++y1) K m))) (eM (jW y) 12 (K (CV.tup (aZ lN 2)) m h) (vD h y K m)))))))) (v.op==9) (∃(v2:QV),Az (λt g=>∃(o1:List (Int×Bool))(a1:List Int),aA (cR (bJ v) (lR a)=cR (bJ v2) (lR t)) (Ints h v2.group g) (aA (iJ h v2.order o1) (Ints h t a1) (∀(r1:Bool),(dT r1↔
 uU a1 g o1 v2.limit)->cV (!r1) (K (CV.tup (aZ lN 100)) m h) (decide (jW y>12)) (K (CV.tup (aZ lN 2)) m h) (vD h y K m))))) (Cp a b h (λa1 b1 r1=>(dT r1↔a1=b1)->cV (!r1) (K (CV.tup (aZ lN 100)) m h) (v.op==10) (∃(v2:QV),Az (λt g=>∃(o1:List (Int×Bool))(a2:List Int),aA (cR (bJ v) (lR a)=cR (bJ v2) (lR t)) (Ints h v2.group g) (aA (iJ h v2.order o1) (Ints h t a2) (∀(r2:Bool),(dT r2↔uU a2 g o1 v2.limit)->cV (!r2) (K (CV.tup (aZ lN 100)) m h) (decide (jW y>12)) (K (CV.tup (aZ lN 2)) m h) (vD h y K m))))) (eM (jW y) 12 (K (CV.tup (aZ lN 2)) m h) (vD h y K m))))))))))))
theorem De{α:Type}{n:Nat}{l:List α}(h:n=l.length):((n:Int)==0)=true↔l=[]:=by
 rw[beq_iff_eq,h, <-List.length_eq_zero_iff];omega
theorem Ae(h:PH):eN h iB ⟨0,0,dN,dN,⟨none,0,0⟩⟩:=eN.mk (v:=⟨0,0,dN,dN,⟨none,0,0⟩⟩) (.nil _ _ _ _)
theorem Q8:Sound Tryz.prog 123 SA:=by
 refine gZ Tryz.func123 ?_;rintro cvs m h K ⟨v,q,rfl,hq,hK⟩;refine⟨VB v m h,rfl,aD QC aF,Lo v m h K,by kernel_rfl,?_⟩;dsimp only[Lo,push_cast];obtain⟨op,ta,w,co,on,gr,od,li,args⟩:=q;have a:=hq.parts;have e0:=a.op_;have e1:=a.table_;have e2:=a.limit_;have l1:=De a.columns_.slen;have l2:=De a.on_.slen;have l3:=De a.group_.slen;have l4:=De a.order_.slen;simp only[dQ]at hK;subst e0 e1 e2;refine⟨λr=>(r=true↔v.op=9\/v.op=10),aB (λh1=>⟨true,by simp at h1;simp[h1],MT⟩) (λh1=>⟨_,?_,MT⟩),λr hr=>?_⟩
 .simp only[beq_eq_false_iff_ne]at h1;simp[h1]
 refine⟨λx=>x.1=r/\(x.2=true↔(v.op=1\/v.table=0)),aB (λh1=>⟨(r,true),⟨rfl,by simp at h1;simp[h1]⟩,MT⟩) (λh1=>⟨(r,_),⟨rfl,?_⟩,MT⟩),?_⟩
 .simp only[beq_eq_false_iff_ne]at h1;simp[h1]
 rintro⟨r,c⟩ ⟨rfl,hc⟩;dsimp only at hc hr⊢
 refine⟨λx=>x.1=r/\(x.2=true↔(v.op=1\/v.table=0)/\(v.op=2\/w=iB)),aB (λh1=>aB (λh2=>⟨(r,true),⟨rfl,⟨λ_=>⟨hc.1 h1,.inl (by simpa using h2)⟩,λ_=>rfl⟩⟩,MT⟩) (λh2=>⟨v.where_,⟨0,0,dN,dN,⟨none,0,0⟩⟩,w,iB,rfl,a.where_,Ae h,λr' hr'=>⟨(r,r'),⟨rfl,?_⟩,MT⟩⟩)) (λh1=>⟨(r,false),⟨rfl,?_⟩,MT⟩),?_⟩
 .simp only[beq_eq_false_iff_ne]at h2;simp only[hr',hc.1 h1,h2,true_and,false_or]
 .rw[h1]at hc;simp only[Bool.false_eq_true,false_iff]at hc⊢;exactλe=>hc e.1
 clear hc c;rintro⟨r,c⟩ ⟨rfl,hc⟩;dsimp only at hc hr⊢
 refine⟨λx=>x.1=r/\(x.2=true↔(v.op=1\/v.table=0)/\(v.op=2\/w=iB)/\(v.op=3\/co=[])),aB (λh1=>aB (λh2=>⟨(r,true),⟨rfl,⟨λ_=>⟨(hc.1 h1).1,(hc.1 h1).2,.inl (by simpa using h2)⟩,λ_=>rfl⟩⟩,MT⟩) (λh2=>⟨(r,_),⟨rfl,?_⟩,MT⟩)) (λh1=>⟨(r,false),⟨rfl,?_⟩,MT⟩),?_⟩
 .simp only[beq_eq_false_iff_ne]at h2;simp only[l1,hc.1 h1,h2,true_and,false_or]
 .rw[h1]at hc;simp only[Bool.false_eq_true,false_iff]at hc⊢;exactλe=>hc ⟨e.1,e.2.1⟩
 clear hc c;rintro⟨r,c⟩ ⟨rfl,hc⟩;dsimp only at hc hr⊢
 refine⟨λx=>x.1=r/\(x.2=true↔(v.op=1\/v.table=0)/\(v.op=2\/w=iB)/\(v.op=3\/co=[])/\(v.op=4\/v.op=5\/on=[])),aB (λh1=>aB (λh2=>⟨(r,true),⟨rfl,⟨λ_=>⟨(hc.1 h1).1,(hc.1 h1).2.1,(hc.1 h1).2.2,.inl (by simpa using h2)⟩,λ_=>rfl⟩⟩,MT⟩) (λh2=>aB (λh3=>⟨(r,true),⟨rfl,⟨λ_=>⟨(hc.1 h1).1,(hc.1 h1).2.1,(hc.1 h1).2.2,.inr (.inl (by simpa using h3))⟩,λ_=>rfl⟩⟩,MT⟩) (λh3=>⟨(r,_),⟨rfl,?_⟩,MT⟩))) (λh1=>⟨(r,false),⟨rfl,?_⟩,MT⟩),?_⟩
 .simp only[beq_eq_false_iff_ne]at h2 h3;simp only[l2,hc.1 h1,h2,h3,true_and,false_or]
 .rw[h1]at hc;simp only[Bool.false_eq_true,false_iff]at hc⊢;exactλe=>hc ⟨e.1,e.2.1,e.2.2.1⟩
 clear hc c;rintro⟨r,c⟩ ⟨rfl,hc⟩;dsimp only at hc hr⊢
 refine aB (λh1=>aB (λh2=>hK true ⟨λ_=>?_,λ_=>rfl⟩) (λh2=>aB (λh3=>aB (λh4=>hK _ ?_) (λh4=>hK false ?_)) (λh3=>hK false ?_))) (λh1=>hK false ?_)
 .obtain⟨p1,p2,p3,p4⟩:=hc.1 h1;refine⟨p1,p2,p3,p4,?_⟩;rcases hr.1 h2 with e|e
  .exact .inl e
  .exact .inr (.inl e)
 .obtain⟨p1,p2,p3,p4⟩:=hc.1 h1;have nr:¬(v.op=9\/v.op=10):=λe=>by rw[hr.2 e]at h2;cases h2
  rw[beq_iff_eq];refine⟨λe=>⟨p1,p2,p3,p4,.inr (.inr ⟨l3.1 h3,l4.1 h4,e⟩)⟩,λe=>?_⟩;rcases e.2.2.2.2 with e|e|e
  .exact(nr (.inl e)).elim
  .exact(nr (.inr e)).elim
  .exact e.2.2
 .have nr:¬(v.op=9\/v.op=10):=λe=>by rw[hr.2 e]at h2;cases h2
  refine⟨λe=>(by cases e),λe=>?_⟩;rcases e.2.2.2.2 with e|e|e
  .exact(nr (.inl e)).elim
  .exact(nr (.inr e)).elim
  .rw[l4.2 e.2.1]at h4;cases h4
 .have nr:¬(v.op=9\/v.op=10):=λe=>by rw[hr.2 e]at h2;cases h2
  refine⟨λe=>(by cases e),λe=>?_⟩;rcases e.2.2.2.2 with e|e|e
  .exact(nr (.inl e)).elim
  .exact(nr (.inr e)).elim
  .rw[l3.2 e.1]at h3;cases h3
 .refine⟨λe=>(by cases e),λe=>?_⟩;rw[hc.2 ⟨e.1,e.2.1,e.2.2.1,e.2.2.2.1⟩]at h1;cases h1
theorem wZ(l:List Int):iN 1 (l.map eI):=by
 constructor
 .intro e he;obtain⟨x,_,rfl⟩:=List.mem_map.1 he;rfl
 .intro e he u hu;obtain⟨x,_,rfl⟩:=List.mem_map.1 he;simp[eI]at hu;subst hu;rfl
theorem KR.err{r:List Int×Int}{e:Int}(hK:KR K m h r)(hle:PH.le h h')(he:r=jT e):K (.tup [.val (.slice none 0 0),.val (.int .i64 e)]) m h':=by
 subst he;exact hK ⟨none,0,0⟩ h' hle ⟨.nil _ _,by simp[jT]⟩
theorem KR.big{r:List Int×Int}(hK:KR K m h r)(hle:PH.le h h')(he:r=yY l)(hl:12<l.length):K (.tup [.val (.slice none 0 0),.val (.int .i64 2)]) m h':=
 hK.err hle (by rw[he,yY,if_neg aC];rfl)
theorem KR.ok{r:List Int×Int}{sl:Sl}(hK:KR K m h r)(hle:PH.le h h')(he:r=yY l)(hl:l.length<=12)(hi:cN h' sl 1 (l.map eI)):K (.tup [.val (.slice sl.a sl.len sl.cap),.val (.int .i64 0)]) m h':=by
 rw[he,yY,if_pos hl]at hK;exact hK sl h' hle ⟨hi,by show l.length<=17592186044416;omega⟩
theorem Yv{p:Sl}{a b:Sl}{la lb:List Int}(hs:gJ h s sc)(h8:nD s)(hp:Ints h p ps)(hq:dC h q v)(ha:Ints h a la)(hb:Ints h b lb)(la12:la.length<=12)(lb12:lb.length<=12)(hK:KR K m h (iS s ps q la lb)):Jg sc p v a b m h K:=by
 dsimp only[Jg,push_cast];have hqr:=hq;obtain⟨op,ta,w,co,on,gr,od,li,args⟩:=q;have x:=hq.parts;have e0:=x.op_;have e1:=x.table_;have e2:=x.limit_;have hsl:=hs.tables.slen;have hal:=ha.slen;have hcl:=x.columns_.slen;have hclen:=x.columns_.len;subst e0 e1 e2;refine⟨v.op,rfl,aE (λh1=>hK.err (.refl _) ?_) (λh1=>⟨v,_,rfl,hqr,λr hr=>aB (λh2=>hK.err (.refl _) ?_) (λh2=>?_)⟩)⟩
 .unfold iS;rw[if_pos (.inl h1)]
 .unfold iS;rw[if_pos (.inr λe=>by rw[hr.2 e]at h2;cases h2)]
 have hu:dQ (.mk v.op v.table w co on gr od v.limit args):=hr.1 (by simpa using h2);unfold iS at hK;rw[if_neg (λe=>e.elim h1 (λe=>e hu))]at hK;dsimp only at hK;clear hr h2;refine⟨la.map eI,wZ _,ha.row,by simp;omega,by simp;omega,aB (λc1=>?_) (λc1=>aB (λc2=>?_) (λc2=>aB (λc3=>?_) (λc3=>aB (λc4=>?_) (λc4=>aB (λc5=>?_) (λc5=>aB (λc6=>?_) (λc6=>?_))))))⟩
 .rw[beq_iff_eq]at c1;rw[if_pos c1]at hK;refine aE (λd1=>hK.err (.refl _) (if_neg aC)) (λd1=>aE (λd2=>hK.err (.refl _) (if_neg aC)) (λd2=>⟨sc,s,v.table,rfl,hs,h8,λsl h' hle hi=>?_⟩));rw[if_pos aC]at hK;have:=hi.slen;exact aE (λd3=>hK.big hle rfl aC) (λd3=>hK.ok hle rfl aC hi.row)
 .rw[beq_eq_false_iff_ne]at c1;rw[beq_iff_eq]at c2;rw[if_neg c1,if_pos c2]at hK;refine⟨a,p,v.where_,la,ps,w,rfl,ha,hp,x.where_,aB (λd1=>hK.err (.refl _) (if_neg (by simpa using d1))) (λd1=>?_)⟩;rw[if_pos (by simpa using d1)]at hK;exact aE (λd3=>hK.big (.refl _) rfl (by simp at d3;omega)) (λd3 sl h' hle hi=>hK.ok hle rfl aC hi)
 .rw[beq_eq_false_iff_ne]at c1 c2;rw[beq_iff_eq]at c3;rw[if_neg c1,if_neg c2,if_pos c3]at hK;refine aB (λd1=>hK.err (.refl _) (if_neg λe=>e.1 ((De hcl).1 d1))) (λd1=>?_);have hne:co≠[]:=λe=>by rw[(De hcl).2 e]at d1;cases d1
  refine⟨λ⟨i,a',co',l,hx⟩=>a'=a/\co'=v.columns/\hx=h/\i<=co.length/\l=(co.take i).map (λc=>la.getD c.toNat 0)/\eO (λ_ c=>Fq la c=true) co i,λ⟨i,_,_,_,_⟩=>co.length-i,⟨(0,a,v.columns,[],h),⟨rfl,rfl,rfl,aC,by simp,.zero⟩,MT⟩,?_⟩;rintro⟨i,a,_,l,h⟩ ⟨rfl,rfl,rfl,hi,rfl,hg⟩;dsimp only;refine aE (λhlt=>?_) (λhge=>?_)
  .obtain⟨c,hc⟩:=eW hcl hlt;obtain⟨b1,o1,ea1,r1⟩:=x.columns_.at' hc;refine⟨b1,o1,ea1,aC,hlt,c,.imm r1,a,la,c,rfl,ha,aB (λd2=>hK.err (.refl _) (if_neg λe=>?_)) (λd2=>?_)⟩
   .have:=e.2 i c hc;rw[this]at d2;cases d2
   have d2:Fq la c=true:=by simpa using d2
   have d3:=j2.1 d2;obtain⟨b2,o2,ea2,r2⟩:=ha.inb d3.1 d3.2;refine⟨b2,o2,ea2,aC,aC,_,.imm r2,?_,?_,(i+1,a,v.columns,(co.take (i+1)).map (λc=>la.getD c.toNat 0),h),⟨rfl,rfl,rfl,aC,rfl,hg.succ hc d2⟩,by show co.length-(i+1)<co.length-i;omega,?_⟩
   .simp;omega
   .simp;omega
   .rw[fT hc,List.map_append];exact MT
  .rw[if_pos ⟨hne,hg.all aC⟩]at hK;rw[List.take_of_length_le aC];exact aE (λd3=>hK.big (.refl _) rfl (by simp at d3⊢;omega)) (λd3 sl h' hle hi=>hK.ok hle rfl (by simp at d3⊢;omega) hi)
 .rw[beq_eq_false_iff_ne]at c1 c2 c3;have c4':=beq_iff_eq.1 c4;rw[if_neg c1,if_neg c2,if_neg c3,if_pos c4']at hK;refine⟨v.on,a,b,on,la,lb,rfl,x.on_,ha,hb,λr hr=>aB (λd1=>hK.err (.refl _) (if_neg λe=>?_)) (λd1=>aB (λ_=>⟨lb.map eI,wZ _,hb.row,by simp;omega,by simp;omega,?_⟩) (λd2=>?_))⟩
  .rw[hr.2 e]at d1;cases d1
  .rw[if_pos (hr.1 (by simpa using d1))]at hK;rw[<-List.map_append];exact aE (λd3=>hK.big (.refl _) rfl (by simp at d3⊢;omega)) (λd3 sl h' hle hi=>hK.ok hle rfl (by simp at d3⊢;omega) hi)
  .rw[c4]at d2;cases d2
 .rw[beq_eq_false_iff_ne]at c1 c2 c3;have c4':=beq_eq_false_iff_ne.1 c4;rw[beq_iff_eq]at c5;rw[if_neg c1,if_neg c2,if_neg c3,if_neg c4',if_pos c5]at hK;refine⟨v.on,a,b,on,la,lb,rfl,x.on_,ha,hb,λr hr=>aB (λd1=>hK.err (.refl _) (if_neg λe=>?_)) (λd1=>aB (λd2=>?_) (λd2=>?_))⟩
  .rw[hr.2 e]at d1;cases d1
  .rw[c4]at d2;cases d2
  .rw[if_pos (hr.1 (by simpa using d1))]at hK;exact aE (λd3=>hK.big (.refl _) rfl (by simp at d3;omega)) (λd3 sl h' hle hi=>hK.ok hle rfl aC hi)
 .rw[beq_eq_false_iff_ne]at c1 c2 c3 c4 c5;rw[beq_iff_eq]at c6;rw[if_neg c1,if_neg c2,if_neg c3,if_neg c4,if_neg c5,if_pos c6]at hK;refine⟨v,a,gr,od,la,rfl,x.group_,x.order_,ha,λr hr=>aB (λd1=>hK.err (.refl _) (if_neg λe=>?_)) (λd1=>?_)⟩
  .rw[hr.2 e]at d1;cases d1
  rw[if_pos (hr.1 (by simpa using d1))]at hK;exact aE (λd3=>hK.big (.refl _) rfl (by simp at d3;omega)) (λd3 sl h' hle hi=>hK.ok hle rfl aC hi)
 .rw[beq_eq_false_iff_ne]at c1 c2 c3 c4 c5 c6;rw[if_neg c1,if_neg c2,if_neg c3,if_neg c4,if_neg c5,if_neg c6]at hK;refine⟨a,b,la,lb,rfl,ha,hb,λr hr=>aB (λd1=>hK.err (.refl _) ?_) (λd1=>aB (λd2=>⟨v,a,gr,od,la,rfl,x.group_,x.order_,ha,λr2 hr2=>aB (λd4=>hK.err (.refl _) ?_) (λd4=>?_)⟩) (λd2=>?_))⟩
  .have hne:¬la=lb:=λe=>by rw[hr.2 e]at d1;cases d1
   by_cases h10:v.op=10
   .rw[if_pos h10,if_neg (λe=>hne e.1)]
   .rw[if_neg h10,if_neg hne]
  .rw[beq_iff_eq]at d2;rw[if_pos d2,if_neg λe=>by rw[hr2.2 e.2]at d4;cases d4]
  .rw[beq_iff_eq]at d2;rw[if_pos d2,if_pos ⟨hr.1 (by simpa using d1),hr2.1 (by simpa using d4)⟩]at hK;exact aE (λd3=>hK.big (.refl _) rfl (by simp at d3;omega)) (λd3 sl h' hle hi=>hK.ok hle rfl aC hi)
  .rw[beq_eq_false_iff_ne]at d2;rw[if_neg d2,if_pos (hr.1 (by simpa using d1))]at hK;exact aE (λd3=>hK.big (.refl _) rfl (by simp at d3;omega)) (λd3 sl h' hle hi=>hK.ok hle rfl aC hi)
theorem Ty:Sound Tryz.prog 95 X5:=by
 refine gZ Tryz.func95 ?_;rintro cvs m h K ⟨sc,p,v,a,b,s,ps,q,la,lb,rfl,hs,h8,hp,hq,ha,hb,h1,h2,hK⟩;refine⟨WM m,rfl,aD KE (aD Q8 (aD CT (aD F2 (aD DK (aD Q7 (aD Q6 (aD Q5 aF))))))),Jg sc p v a b m h K,by kernel_rfl,?_⟩;exact Yv hs h8 hp hq ha hb h1 h2 hK
mutual
noncomputable def bY(s:oF)(ps:List Int):Query->List Int×Int
 |.mk op ta w co on gr od li args=>
  match gC s ps args with
  |(ks,e)=>if e=0 then(if(ks.length:Int)=arity op then iS s ps (.mk op ta w co on gr od li args) (ks.getD 0 []) (ks.getD 1 [])else jT 100)else jT e
noncomputable def gC(s:oF)(ps:List Int):List Query->List (List Int)×Int
 |[]=>([],0)
 |q::qs=>
  match bY s ps q with
  |(k,e)=>if e=0 then(match gC s ps qs with|(ks,e')=>if e'=0 then(k::ks,0)else([],e'))else([],e)
end
theorem AX{s:oF}{ps:List Int}:∀{qs:List Query}{ks:List (List Int)},qs.map (bY s ps)=ks.map (λk=>(k,0))->gC s ps qs=(ks,0)
 |[],[],_=>by simp[gC]
 |q::qs,k::ks,h=>by
  simp only[List.map_cons,List.cons.injEq]at h;simp only[gC,h.1,AX h.2,if_true]
 |[],_::_,h=>by simp at h
 |_::_,[],h=>by simp at h
theorem BN{s:oF}{ps:List Int}{e:Int}(he:e≠0):∀{qs:List Query}{ks:List (List Int)}{i:Nat}{q:Query},(qs.take i).map (bY s ps)=ks.map (λk=>(k,0))->qs[i]? =some q->(bY s ps q).2=e->gC s ps qs=([],e)
 |[],_,_,_,_,h,_=>by simp at h
 |q::qs,_,0,q',_,h,h2=>by
  simp at h;subst h;simp only[gC,h2,if_neg he]
 |q::qs,[],i+1,_,h,_,_=>by simp at h
 |q::qs,k::ks,i+1,q',h,hq,h2=>by
  simp only[List.take_succ_cons,List.map_cons,List.cons.injEq]at h;have:=BN he h.2 (by simpa using hq) h2;simp only[gC,h.1,this,if_true,if_neg he]
theorem US(l:List Int):(yY l).1.length<=12:=by unfold yY;split<;>simp_all
theorem Tk(s:oF)(ps:List Int)(q:Query)(a b:List Int):(iS s ps q a b).1.length<=12:=by
 obtain⟨op,ta,w,co,on,gr,od,li,args⟩:=q;unfold iS;dsimp only
 repeat' split
 all_goals first|exact US _|(simp[jT];done)
theorem DF(s:oF)(ps:List Int)(q:Query):(bY s ps q).1.length<=12:=by
 obtain⟨op,ta,w,co,on,gr,od,li,args⟩:=q;simp only[bY]
 repeat' split
 all_goals first|exact Tk .. |simp[jT]
noncomputable def fB(s:oF)(ps:List Int)(q:Query):List Int×Int:=
 if eJ s=0 then(if ps.all dR=true then(if lF q=true then bY s ps q else jT 2)else jT 1)else jT (eJ s)
def Slices(h:PH)(ss:List Sl)(ks:List (List Int)):Prop:=ss.length=ks.length/\∀(j:Nat) s k,ss[j]? =some s->ks[j]? =some k->Ints h s k
theorem Slices.mono{ss:List Sl}(x:Slices h ss ks)(le:PH.le h h'):Slices h' ss ks:=⟨x.1,λj s k h1 h2=>(x.2 j s k h1 h2).mono le⟩
theorem Slices.snoc{ss:List Sl}{s:Sl}{k:List Int}(x:Slices h ss ks)(hi:Ints h s k):Slices h (ss++[s]) (ks++[k]):=by
 refine⟨by simp[x.1],λj s' k' h1 h2=>?_⟩;by_cases hj:j<ss.length
 .rw[List.getElem?_append_left hj]at h1;rw[List.getElem?_append_left (by rw[<-x.1];exact hj)]at h2;exact x.2 j s' k' h1 h2
 .rw[List.getElem?_append_right aC]at h1;rw[List.getElem?_append_right (by have:=x.1;omega), <-x.1]at h2;cases e:j-ss.length with
  |zero=>rw[e]at h1 h2;simp at h1 h2;subst h1 h2;exact hi
  |succ n=>rw[e]at h1;simp at h1
def Ba(N:Nat):Vc.Spec:=λcvs m h K=>∃sc p v s ps q,cvs=[aS sc,cS p,aQ v]/\gJ h s sc/\nD s/\Ints h p ps/\dC h q v/\SizeOf.sizeOf q<N/\KR K m h (bY s ps q)
def B7:Vc.Spec:=λcvs m h K=>∃sc p v s ps q,cvs=[aS sc,cS p,aQ v]/\gJ h s sc/\Ints h p ps/\dC h q v/\KR K m h (fB s ps q)
noncomputable def W5(N:Nat)(sc:cH)(p:Sl)(v:QV)(m:MH):Ctx:=
 dL [(65,Ba N),(94,RN),(95,X5)] [(3,{A:=Nat×List Sl×PH,st:=λ⟨i,ss,h⟩=>cD 58 61 [(1,sv p),(3,.at (.ptr 3 0)),(5,.at (.ptr 5 0)),(8,.at (.lst 35)),(14,iv v.args.len),(15,iv i)] [(3,.cells 43 (sc.enc.map .val)),(5,.cells 38 (v.enc.map .val)),(35,.lst 33 1 (ss.map eS))] m h})] [] [] false
noncomputable abbrev lM(a:List Sl):List (List Value):=List.map eS a
noncomputable abbrev oL(a:Nat×List Sl×PH):List (List Value):=lM a.2.1
noncomputable abbrev kB(a:Nat×List Sl×PH):Nat->Nat->Option Value:=a.2.2
abbrev DE(a:cH->Sl->Prop):Prop:=∃(x:cH)(x1:Sl),a x x1
abbrev Dk(a:oF->(List Int)->Prop):Prop:=∃(x:oF)(x1:List Int),a x x1
abbrev Et(a:cH)(b:Sl)(c:QV)(d:PH)(e:QV->oF->(List Int)->Query->Prop):Prop:=DE (λx x1=>∃(x2:QV),Dk (λx3 x4=>∃(x5:Query),aA (bP (dU a) (fF b (bJ c))=bP (dU x) (fF x1 (bJ x2))) (gJ d x3 x) (aA (nD x3) (Ints d x1 x4) (e x2 x3 x4 x5))))
abbrev j8(a:List (List Value)):Prop:=iA (kZ a 1*24)
noncomputable abbrev Ez(a:Nat×List Sl×PH):List (List Value):=oL a++hX::cQ hX
abbrev tP(a:List (List Value))(b:Nat)(c:List Value):Prop:=a[b]? =Option.some c
attribute [push_cast] lM oL kB DE Dk Et j8 Ez tP
def OD(N:Nat)(sc:cH)(p:Sl)(v:QV)(m:MH)(h:PH)(K:CV->MH->PH->Prop):Prop:=
  ∃(I:Nat×List Sl×PH->Prop)(m1:Nat×List Sl×PH->Nat),(∃(x:Nat×List Sl×PH),aA (I x) (aJ p) (aA (eP 3) eT (aA (eL 35) (uJ v) (aA (bA x.1) (bM sc) (aA (dP v) (Option.some (Own.lst 33 1 [])=Option.some (Own.lst 33 1 (oL x))) (aA (m=m) (h=kB x) True))))))/\∀(x:Nat×List Sl×PH),I x->aW (↑x.1:Int) (aG v.args) (bD (λb o=>aH (bE v.args.a b o) (0<=(↑x.1:Int)) ((↑x.1:Int)<aG v.args) (∃(y:QV),aM m (kB x) b (bI o x.1 21) y.enc/\Et sc p y (kB x) (λv1 s p1 q=>aA (dC (kB x) q v1) (oK q N) (∀(s1:Sl)(h1:PH),cY (kB x) h1 (Ints h1 s1 (bY s p1 q).1) (eE (bY s p1 q).2 0 (K (CV.tup (cR lN (CV.val (eH (bY s p1 q).2)))) m h1) (aA (j8 (oL x)) (eF (oL x)) (∃(x1:Nat×List Sl×PH),aA (I x1) (m1 x1<m1
 x) (aA (aJ p) (eP 3) (aA eT (eL 35) (aA (uJ v) (fU (bF x.1 1)=bT x1.1) (aA (bM sc) (dP v) (aA (Option.some (Own.lst 33 1 (oL x++cQ (aL s1)))=Option.some (Own.lst 33 1 (oL x1))) (m=m) (bN h1 (kB x1))))))))))))))) (∃(o:Int),gU (nJ v.op o) (jW (oL x) !=arity o) (K (CV.tup (aZ lN 100)) m (kB x)) (aA (iA (kZ (oL x) 2*24)) (iA (kZ (oL x) 2)) (aA (cF 0) (0<jW (Ez x)) (∃(e:List Value),tP (Ez x) 0 e/\∃(y:Sl),aH (List.take 1 (List.drop 0 e)=aL y) ((0:Int)<=1) (1<jW (Ez x)) (∃(e1:List Value),tP (Ez x) 1 e1/\∃(y1:Sl),List.take 1 (List.drop 0 e1)=aL y1/\DE (λs p1=>∃(v1:QV),jV (λa b=>Dk (λs1 p2=>∃(q:Query),uW (λl l1=>aA (bP (dU sc) (cK p (bP
 v.enc (fY y y1)))=bP (dU s) (cK p1 (bP v1.enc (fY a b)))) (gJ (kB x) s1 s) (aA (nD s1) (Ints (kB x) p1 p2) (aA (dC (kB x) q v1) (Ints (kB x) a l) (aA (Ints (kB x) b l1) (l.length<=12) (l1.length<=12/\∀(s2:Sl)(h1:PH),cY (kB x) h1 (Ints h1 s2 (iS s1 p2 q l l1).1) (K (CV.tup (fF s2 (CV.val (eH (iS s1 p2 q l l1).2)))) m h1))))))))))))))
def OT(N:Nat)(sc:cH)(p:Sl)(v:QV)(m:MH)(h:PH)(K:CV->MH->PH->Prop):Prop:=
  jM (λv1 s=>aA (eA (fX sc) (fX v1)) (gJ h s v1) (eE (eJ s) 0 (K (CV.tup (aZ lN (eJ s))) m h) (Az (λs1 l=>aA (tQ p s1) (Ints h s1 l) (branch (!(DC l)) (K (CV.tup (aZ lN 1)) m h) (kC (λv2 p1=>aA (eA (bJ v) (bJ v2)) (dC h p1 v2) (branch (!(lF p1)) (K (CV.tup (aZ lN 2)) m h) (Et sc p v h (λv3 s2 p2 q=>aA (dC h q v3) (oK q N) (∀(s3:Sl)(h1:PH),cY h h1 (Ints h1 s3 (bY s2 p2 q).1) (K (CV.tup (fF s3 (CV.val (eH (bY s2 p2 q).2)))) m h1))))))))))))
theorem FQ{qs:List Query}(h:qs.map (bY s ps)=ks.map (λk=>(k,0)))(j:Nat):(ks.getD j []).length<=12:=by
 rw[List.getD_eq_getElem?_getD];cases e:ks[j]? with
 |none=>simp
 |some k=>
  have h1:(qs.map (bY s ps))[j]? =some (k,0):=by rw[h];simp[e]
  rw[List.getElem?_map,Option.map_eq_some_iff]at h1;obtain⟨q,_,h2⟩:=h1;have:=DF s ps q;rw[h2]at this;simpa using this
theorem Slices.pick{ss:List Sl}(x:Slices h ss ks)(j:Nat)(hj:j<ss.length+2):∃y:Sl,(ss.map eS++[[.slice none 0 0],[.slice none 0 0]])[j]? =some [.slice y.a y.len y.cap]/\Ints h y (ks.getD j []):=by
 by_cases h1:j<ss.length
 .refine⟨ss[j],?_,?_⟩
  .rw[List.getElem?_append_left (by simpa using h1)];simp[h1,eS]
  .have h2:j<ks.length:=by rw[<-x.1];exact h1
   rw[List.getD_eq_getElem?_getD,List.getElem?_eq_getElem h2];exact x.2 j _ _ (List.getElem?_eq_getElem h1) (List.getElem?_eq_getElem h2)
 .refine⟨⟨none,0,0⟩,?_,?_⟩
  .rw[List.getElem?_append_right (by simpa using h1)];simp only[List.length_map];have:j-ss.length=0\/j-ss.length=1:=by omega
   rcases this with e|e<;>rw[e]<;>rfl
  .rw[List.getD_eq_getElem?_getD,List.getElem?_eq_none (by have:=x.1;omega)];exact⟨.nil _ _,by simp⟩
theorem Sn:∀N,Sound Tryz.prog 65 (Ba N)
 |0=>by
  refine eD (fn:=Tryz.f65) (c:=dM Tryz.f65) Tryz.func65 rfl (by decide) ?_;rintro cvs m h K ⟨sc,p,v,s,ps,q,rfl,_,_,_,_,hN,_⟩;omega
 |N+1=>by
  refine gZ Tryz.func65 ?_;rintro cvs m h K ⟨sc,p,v,s,ps,q,rfl,hs,h8,hp,hq,hN,hK⟩;refine⟨W5 N sc p v m,rfl,aD (Sn N) (aD KE (aD Ty aF)),OD N sc p v m h K,by kernel_rfl,?_⟩;dsimp only[OD,push_cast];have hlt:=@By q;have hqr:=hq;obtain⟨op,ta,w,co,on,gr,od,li,args⟩:=q;have x:=hq.parts;have e0:=x.op_;have hl:=x.args_.slen;have hlen:=x.args_.len;simp only[Query.args]at hlt;simp only[bY]at hK;refine⟨λ⟨i,ss,hx⟩=>i<=args.length/\PH.le h hx/\∃ks,Slices hx ss ks/\(args.take i).map (bY s ps)=ks.map (λk=>(k,0)),λ⟨i,_,_⟩=>args.length-i,⟨(0,[],h),⟨aC,.refl _,[],⟨rfl,λj s k h1=>by simp at h1⟩,by simp⟩,MT⟩,?_⟩;rintro⟨i,ss,hx⟩ ⟨hi,hle,ks,hS,hks⟩;have hkl:ks.length=i:=by have:=congrArg List.length hks;simp at this;omega
  have hsl:ss.length=i:=by rw[hS.1,hkl]
  dsimp only;refine aE (λhlt2=>?_) (λhge=>?_)
  .obtain⟨q',hq'⟩:=eW hl hlt2;obtain⟨b1,o1,u,ea1,r1,hru⟩:=(x.args_.mono hle).at hq';refine⟨b1,o1,ea1,aC,hlt2,u,.imm r1,sc,p,u,s,ps,q',rfl,hs.mono hle,h8,hp.mono hle,hru,?_,λsl h' hle' hi'=>aB (λh1=>?_) (λh1=>?_)⟩
   .have:=hlt (List.mem_of_getElem? hq');omega
   .have he:(bY s ps q').2≠0:=by simpa using h1
    rw[BN he hks hq' rfl]at hK;exact hK.err (hle.trans hle') (if_neg he)
   .have he:(bY s ps q').2=0:=by simpa using h1
    refine⟨by simp;omega,by simp;omega,(i+1,ss++[sl],h'),⟨aC,hle.trans hle',ks++[(bY s ps q').1],(hS.mono hle').snoc hi',?_⟩,by show args.length-(i+1)<args.length-i;omega,?_⟩
    .rw[fT hq',hks,List.map_append];simp only[List.map_cons,List.map_nil];rw[<-he]
    .rw[List.map_append];exact MT
  .rw[List.take_of_length_le aC]at hks;rw[AX hks]at hK;simp only[if_true]at hK;refine⟨v.op,rfl,aB (λh1=>hK.err hle (if_neg λe=>?_)) (λh1=>?_)⟩
   .rw[e0]at h1;simp at h1;omega
   have h1:(ss.length:Int)=arity op:=by rw[e0]at h1;simpa using h1
   rw[if_pos aC]at hK;obtain⟨y0,hy0,i0⟩:=hS.pick 0 aC;obtain⟨y1,hy1,i1⟩:=hS.pick 1 aC;exact⟨by simp;omega,by simp;omega,aC,by simp;omega,_,hy0,y0,rfl,aC,by simp;omega,_,hy1,y1,rfl,sc,p,v,y0,y1,s,ps,_,_,_,rfl,hs.mono hle,h8,hp.mono hle,hqr.mono hle,i0,i1,FQ hks 0,FQ hks 1,λsl h' hle' hi=>hK sl h' (hle.trans hle') hi⟩
theorem Td(h:eJ s=0):nD s:=by
 have hl:A9 s:=Classical.byContradiction λhn=>by rw[sB hn]at h;cases h
 intro t ht;obtain⟨j,hj⟩:=List.mem_iff_getElem?.1 ht;exact(hl.2 j t hj).1
theorem KO:Sound Tryz.prog 25 B7:=by
 refine gZ Tryz.func25 ?_;rintro cvs m h K ⟨sc,p,v,s,ps,q,rfl,hs,hp,hq,hK⟩;refine⟨dL [(63,zX),(64,JX),(28,M0),(65,Ba (SizeOf.sizeOf q+1))] [] [] [] false,rfl,aD TL (aD KI (aD KM (aD (Sn _) aF))),OT (SizeOf.sizeOf q+1) sc p v m h K,by kernel_rfl,?_⟩;dsimp only[OT,push_cast];unfold fB at hK;refine⟨sc,s,rfl,hs,aB (λh1=>hK.err (.refl _) (if_neg (by simpa using h1))) (λh1=>?_)⟩;have h1:eJ s=0:=by simpa using h1
 rw[if_pos h1]at hK;refine⟨p,ps,rfl,hp,aB (λh2=>hK.err (.refl _) (if_neg λe=>by rw[e]at h2;cases h2)) (λh2=>?_)⟩;rw[if_pos (by rw[Bool.not_eq_false']at h2;exact h2)]at hK;refine⟨v,q,rfl,hq,aB (λh3=>hK.err (.refl _) (if_neg λe=>by rw[e]at h3;cases h3)) (λh3=>?_)⟩;rw[if_pos (by rw[Bool.not_eq_false']at h3;exact h3)]at hK;exact⟨sc,p,v,s,ps,q,rfl,hs,Td h1,hp,hq,aC,hK⟩
def aN(n:NV):CV:=.val (.agg ⟨n.enc⟩)
structure uT(h:PH)(s:oF)(ps:List Int)(q:Query)(ks:List (List Int))(n:NV):Prop where
 s_:gJ h s n.s
 ps_:Ints h n.params ps
 q_:dC h q n.q
 ks_:bL h 1 eS (λk sl=>Ints h sl k) n.args ks
 len:∀k∈ks,k.length<=12
def Query.withOf(u q:Query):Query:=match u,q with|.mk _ ta w co on gr od li _,.mk op _ _ _ _ _ _ _ args=>.mk op ta w co on gr od li args
def yL:Vc.Spec:=λcvs m h K=>∃n k u s ps q ks uq,cvs=[aN n,cI k,aQ u]/\uT h s ps q ks n/\dC h uq u/\∀r:Bool,(r=true↔(ks.length:Int)=k/\q=uq.withOf q)->K (cB r) m h
def JQ:Vc.Spec:=λcvs m h K=>∃n s ps q ks,cvs=[aN n]/\uT h s ps q ks n/\K (aQ ⟨0,0,⟨0,0,dN,dN,⟨none,0,0⟩⟩,⟨none,0,0⟩,⟨none,0,0⟩,n.q.group,n.q.order,n.q.limit,⟨none,0,0⟩⟩) m h
def JR:Vc.Spec:=λcvs m h K=>∃n s ps q ks a,cvs=[aN n]/\uT h s ps q ks n/\ks[0]? =some a/\∀r:Bool,(r=true↔∃op ta w co on gr od li args,q= .mk op ta w co on gr od li args/\uU a gr od li)->K (cB r) m h
def Hv(ks:List (List Int)):Query->Prop
 |.mk op ta w co on gr od li _=>ks.length=2/\ta=0/\w=iB/\co=[]/\gr=[]/\od=[]/\li=0/\Good (zZ (ks.getD 0 []) (ks.getD 1 [])) on
def JU:Vc.Spec:=λcvs m h K=>∃n s ps q ks,cvs=[aN n]/\uT h s ps q ks n/\∀r:Bool,(r=true↔Hv ks q)->K (cB r) m h
noncomputable def Vl(n:NV)(h:PH):Ctx:=
 uF [] [(4,{A:=Nat×Nat×Nat×MH,st:=λ⟨i,wd,b,mx⟩=>cD 72 73 [(1,.at (.ptr 1 0)),(3,iv wd),(4,vv (.pointer (some ⟨b,0,none⟩))),(16,sv n.q.group),(17,iv n.q.group.len),(18,iv i)] [(1,.cells 152 (n.enc.map .val))] mx h}),
  (11,{A:=Nat×Nat×MH,st:=λ⟨i,wd,mx⟩=>cD 72 73 [(1,.at (.ptr 1 0)),(3,iv wd),(39,sv n.q.order),(40,iv n.q.order.len),(41,iv i)] [(1,.cells 152 (n.enc.map .val))] mx h})] [] [] [226] [] false
noncomputable def Vn(n:NV)(h:PH):Ctx:=
 uF [(177,yL)] [(6,{A:=Nat×Sl×Sl×Nat×Nat×MH,st:=λ⟨i,s,t,b,c,mx⟩=>cD 80 81 [(3,sv s),(4,sv t),(5,vv (.pointer (some ⟨b,0,none⟩))),(6,vv (.pointer (some ⟨c,0,none⟩))),(28,sv n.q.on),(29,iv n.q.on.len),(30,iv i)] [] mx h})] [] [] [226] [] false
noncomputable abbrev mF(a:QV):Value:=eH a.table
noncomputable abbrev mE(a:QV):Value:=eH a.where_.op
noncomputable abbrev mH(a:QV):Int:=a.where_.cmp
noncomputable abbrev kM(a:OV):Value:=eH a.kind
noncomputable abbrev iF(a:QV):OV:=a.where_.left
noncomputable abbrev wK(a:OV):Value:=eH a.index
noncomputable abbrev pX(a:OV):Value:=eH a.value.int
noncomputable abbrev Cv(a b:QV)(c:List Value):List Value:=aR (eH a.op) (mF b) (aR (mE b) (eH (mH b)) (aR (kM (iF b)) (wK (iF b)) (aR (eH (oV (iF b))) (pX (iF b)) c)))
noncomputable abbrev lA(a:OV):Value:=Value.string a.value.text
noncomputable abbrev fG(a:QV):OV:=a.where_.right
noncomputable abbrev mV(a:QV):Value:=dV a.where_.args
noncomputable abbrev mW(a:QV):Value:=dV a.columns
noncomputable abbrev pV(a:QV):Value:=dV a.group
noncomputable abbrev pW(a:QV):Value:=dV a.order
attribute [push_cast] mF mE mH kM iF wK pX Cv lA fG mV mW pV pW
def Le(n:NV)(k:Int)(u:QV)(m:MH)(h:PH)(K:CV->MH->PH->Prop):Prop:=
  dK (aG n.args) k (∃(v:QV),kC (λw p=>∃(q:Query),aH (cR (bJ n.q) (mM (Cv n.q u (aR (lA (iF u)) (kM (fG u)) (aR (wK (fG u)) (eH (oV (fG u))) (aR (pX (fG u)) (lA (fG u)) (aR (mV u) (mW u) (aR (dV u.on) (pV u) (aR (pW u) (eH u.limit) (aL n.q.args)))))))))=cR (bJ v) (bJ w)) (dC h p v) (dC h q w) (∀(r:Bool),(dT r↔p=q)->K (z7 r) m h))) (K aU m h)
noncomputable abbrev CC(a:List Value):List Value:=aR bU bU (aR bU bU (aR bU bU (aR bU bU a)))
noncomputable abbrev sE(a:Value)(b:List Value):List Value:=aR RQ bU (aR bU bU (aR bU RQ (aR tY a b)))
noncomputable abbrev HC(a:QV):List Value:=aR tY (pV a) (aR (pW a) (eH a.limit) hX)
attribute [push_cast] CC sE HC
def Lb(n:NV)(m:MH)(h:PH)(K:CV->MH->PH->Prop):Prop:=
  K (mM (CC (sE tY (HC n.q)))) m h
noncomputable abbrev sJ:Value:=Value.bool false
abbrev HB(a:MH)(b:PH)(c:Nat->MH->Prop):Prop:=∀(x:Nat)(x1:MH),aT (cG a b x) (bG a x1 x (aR sJ sJ (aR sJ sJ (aR sJ sJ (aR sJ sJ (aR sJ sJ (aR sJ sJ [])))))) 226) (c x x1)
noncomputable abbrev CN(a:QV)(b:At)(c:Sl)(d:List At):List At:=pQ a.where_ (lS b (tU c) (lS (tU a.group) (tU a.order) d))
noncomputable abbrev BG(a:QV):At:=tU a.columns
abbrev HR(a:cH)(b:At)(c:QV)(d:Sl)(e:List At):Prop:=eQ (oQ 152 (lS (lT a.version) (tU a.tables) (lS b (lT c.op) (lT c.table::CN c (BG c) d (lS (lT c.limit) (tU c.args) e)))))
abbrev Au(a:NV):Prop:=HR a.s (tU a.params) a.q a.q.on (jH (tU a.args))
abbrev nS(a:MH)(b c:Nat)(d:List Value)(e:MH->Prop):Prop:=gQ (λx x1=>aA (tX a b (fA x x1 0)) (fL c x) (∀(x2:MH),bG a x2 b (splice x.toList c d) x1->e x2))
attribute [push_cast] sJ HB CN BG HR Au nS
def CW(n:NV)(m:MH)(h:PH)(K:CV->MH->PH->Prop):Prop:=
  dG n.args.a 0 n.args (λb o y=>aM m h b (dJ o) (aL y)/\HB m h (λb1 m1=>∃(I:Nat×Nat×Nat×MH->Prop)(m2:Nat×Nat×Nat×MH->Nat),(∃(x:Nat×Nat×Nat×MH),aA (I x) dZ (aA (bT y.len=bT x.2.1) (dD b1 (iR x.2)) (aA (aJ n.q.group) (bK n.q.group) (aA (bA x.1) (Au n) (bW (m1=fZ x.2) h h)))))/\∀(x:Nat×Nat×Nat×MH),I x->aW (↑x.1:Int) (aG n.q.group) (bD (λb2 o1=>aH (bE n.q.group.a b2 o1) (0<=(↑x.1:Int)) ((↑x.1:Int)<aG n.q.group) (∃(y1:Int),aM (fZ x.2) h b2 (bI o1 x.1 1) (bV y1)/\aW y1 0 (mC K x.2 h) (gA y1 (↑x.2.1:Int) (mC K x.2 h) (aA (cF y1) (y1<12) (∃(y2:Bool),aM (fZ x.2) h (iR x.2) (fR 0 y1 1) (iE (Value.bool y2))/\branch y2 (mC K x.2 h) (aA (cF y1) (y1<12) (nS (fZ
 x.2) (iR x.2) (fR 0 y1 1) (iE yT) (λm3=>∃(x1:Nat×Nat×Nat×MH),aA (I x1) (m2 x1<m2 x) (aA dZ (cC x.2.1 x1.2.1) (aA (dD (iR x.2) (iR x1.2)) (aJ n.q.group) (aA (bK n.q.group) (fU (bF x.1 1)=bT x1.1) (aH (Au n) (m3=fZ x1.2) (h=h) True))))))))))))) (∃(I1:Nat×Nat×MH->Prop)(m3:Nat×Nat×MH->Nat),Mi (λx1=>aA (I1 x1) dZ (aA (cC x.2.1 (iR x1)) (aJ n.q.order) (aA (bK n.q.order) (bA x1.1) (aA (Au n) (fZ x.2=fZ x1) (bN h h))))) (λx1=>I1 x1->aW (↑x1.1:Int) (aG n.q.order) (bD (λb2 o1=>aH (bE n.q.order.a b2 o1) (0<=(↑x1.1:Int)) ((↑x1.1:Int)<aG n.q.order) (∃(y1:Int×Bool),aM (fZ x1) h b2 (bI o1 x1.1 2) (xL y1)/\aW y1.1 0 (mC K x1 h) (gA y1.1 (↑(iR x1):Int) (mC K x1
 h) (∃(x2:Nat×Nat×MH),aA (I1 x2) (m3 x2<m3 x1) (aA dZ (cC (iR x1) (iR x2)) (aA (aJ n.q.order) (bK n.q.order) (aA (fU (bF x1.1 1)=bT x2.1) (Au n) (bW (fZ x1=fZ x2) h h))))))))) (branch (decide (aG n.q.order<=12)) (gA n.q.limit 0 (K (z7 (decide (n.q.limit<=100))) (fZ x1) h) (mC K x1 h)) (mC K x1 h))))))
abbrev Ap(a:oF->(List Int)->Query->(List (List Int))->Prop):Prop:=Dk (λx x1=>∃(x2:Query)(x3:List (List Int)),a x x1 x2 x3)
abbrev xD(a:List CV)(b:NV->Int->QV->List CV)(c:PH)(d:Int->Query->(List (List Int))->Query->Bool->Prop):Prop:=∃(x:NV)(x1:Int)(x2:QV),Ap (λx3 x4 x5 x6=>∃(x7:Query),aH (a=b x x1 x2) (uT c x3 x4 x5 x6 x) (dC c x7 x2) (∀(x8:Bool),d x1 x5 x6 x7 x8))
noncomputable abbrev fJ(a:NV)(b:List Value):List Value:=aR (wK (iF a.q)) (eH (oV (iF a.q))) (aR (pX (iF a.q)) (lA (iF a.q)) (aR (kM (fG a.q)) (wK (fG a.q)) (aR (eH (oV (fG a.q))) (pX (fG a.q)) b)))
noncomputable abbrev sG(a:QV):Value:=dV a.args
noncomputable abbrev fH(a:NV):List Value:=aR (lA (fG a.q)) (mV a.q) (aR (mW a.q) (dV a.q.on) (aR (pV a.q) (pW a.q) (aR (eH a.q.limit) (sG a.q) (aL a.args))))
abbrev xJ(a:List (List Int))(b:Int)(c d:Query):Prop:=(↑a.length:Int)=b/\c=Query.withOf d c
noncomputable abbrev iO(a:Nat×Sl×Sl×Nat×Nat×MH):Nat×Nat×MH:=a.2.2.2
attribute [push_cast] Ap xD fJ sG fH xJ iO
def CX(n:NV)(m:MH)(h:PH)(K:CV->MH->PH->Prop):Prop:=
  xD (bP (aR (rV n.s) (rU n.s) (aR (dV n.params) (eH n.q.op) (aR (mF n.q) (mE n.q) (aR (eH (mH n.q)) (kM (iF n.q)) (fJ n (fH n)))))) (cR (eZ 2) (mM (CC (sE tY (aR (dV n.q.on) tY (aR tY bU hX))))))) (λn1 k u=>bP (aR (rV n1.s) (rU n1.s) (aR (dV n1.params) (eH n1.q.op) (aR (mF n1.q) (mE n1.q) (aR (eH (mH n1.q)) (kM (iF n1.q)) (fJ n1 (fH n1)))))) (cR (eZ k) (bJ u))) h (λk q k1 u r=>gG (dT r↔xJ k1 k q u) (!r) (K aU m h) (dG n.args.a 0 n.args (λb o y=>aM m h b (dJ o) (aL y)/\dG n.args.a 1 n.args (λb1 o1 y1=>aM m h b1 (o1+1) (aL y1)/\HB m h (λb2 m1=>HB m1 h (λb3 m2=>∃(I:Nat×Sl×Sl×Nat×Nat×MH->Prop)(m3:Nat×Sl×Sl×Nat×Nat×MH->Nat),(∃(x:Nat×Sl×Sl×
 Nat×Nat×MH),aA (I x) (bB y x.2.1) (aA (bB y1 x.2.2.1) (dD b2 (iO x).1) (aA (dD b3 (iR (iO x))) (aJ n.q.on) (aA (bK n.q.on) (bA x.1) (bW (m2=fZ (iO x)) h h)))))/\∀(x:Nat×Sl×Sl×Nat×Nat×MH),I x->aW (↑x.1:Int) (aG n.q.on) (bD (λb4 o2=>aH (bE n.q.on.a b4 o2) (0<=(↑x.1:Int)) ((↑x.1:Int)<aG n.q.on) (∃(y2:Int×Int),aA (aM (fZ (iO x)) h b4 (bI o2 x.1 2) (tF y2)) (cF 0) (aA ((0:Int)<2) (cF 1) ((1:Int)<2/\aW y2.1 0 (mC K (iO x) h) (gA y2.1 (aG x.2.1) (mC K (iO x) h) (aW y2.2 0 (mC K (iO x) h) (gA y2.2 (aG x.2.2.1) (mC K (iO x) h) (bD (λb5 o3=>aH (bE x.2.1.a b5 o3) (0<=y2.1) (y2.1<aG x.2.1) (∃(y3:Int),aM (fZ (iO x)) h b5 (fR o3 y2.1 1) (bV y3)/\
 bD (λb6 o4=>aH (bE x.2.2.1.a b6 o4) (0<=y2.2) (y2.2<aG x.2.2.1) (∃(y4:Int),aM (fZ (iO x)) h b6 (fR o4 y2.2 1) (bV y4)/\eE y3 y4 (mC K (iO x) h) (aA (cF y2.1) (y2.1<12) (∃(y5:Bool),aM (fZ (iO x)) h (iO x).1 (fR 0 y2.1 1) (iE (Value.bool y5))/\branch y5 (mC K (iO x) h) (aA (cF y2.2) (y2.2<12) (∃(y6:Bool),aM (fZ (iO x)) h (iR (iO x)) (fR 0 y2.2 1) (iE (Value.bool y6))/\branch y6 (mC K (iO x) h) (aA (cF y2.1) (y2.1<12) (nS (fZ (iO x)) (iO x).1 (fR 0 y2.1 1) (iE yT) (λm4=>aA (cF y2.2) (y2.2<12) (nS m4 (iR (iO x)) (fR 0 y2.2 1) (iE yT) (λm5=>∃(x1:Nat×Sl×Sl×Nat×Nat×MH),aA (I x1) (m3 x1<m3 x) (aA (bB x.2.1 x1.2.1) (bB x.2.2.1 x1.2.2.1) (aA (dD
 (iO x).1 (iO x1).1) (dD (iR (iO x)) (iR (iO x1))) (aA (aJ n.q.on) (bK n.q.on) (aH (fU (bF x.1 1)=bT x1.1) (m5=fZ (iO x1)) (h=h) True)))))))))))))))))))))))))) (K fN (fZ (iO x)) h)))))))
structure S6(m:MH)(b:Nat)(seen:List Int):Prop where
 ex:∃bs:List Bool,m b=some (.cells ⟨bs.map Value.bool⟩ 226 (0,0))/\bs.length=12/\∀k:Nat,k<12->(bs[k]? =some true↔(k:Int)∈seen)
theorem S6.zero(h:m b=some (.cells ⟨[.bool false,.bool false,.bool false,.bool false,.bool false,.bool false,.bool false,.bool false,.bool false,.bool false,.bool false,.bool false]⟩ 226 (0,0))):S6 m b []:=
 ⟨⟨List.replicate 12 false,h,rfl,λk hk=>by rw[List.getElem?_replicate];simp[hk]⟩⟩
theorem S6.look{seen:List Int}(x:S6 m b seen){n:Int}(h0:0<=n)(h1:n<12):∃y:Bool,aM m h b (0+n.toNat*1) [.bool y]/\(y=true↔n∈seen):=by
 obtain⟨bs,e,hl,hs⟩:=x.ex;have hk:n.toNat<bs.length:=by omega
 refine⟨bs[n.toNat],.lent _ _ _ e ?_,?_⟩
 .simp only[Nat.zero_add,Nat.mul_one,List.length_cons,List.length_nil];rw[List.drop_eq_getElem_cons (by simpa using hk)];simp
 .have:=hs n.toNat aC;rw[List.getElem?_eq_getElem hk]at this;rw[show((n.toNat:Nat):Int)=n by omega]at this;simpa using this
theorem S6.store{seen:List Int}(x:S6 m b seen){n:Int}(h0:0<=n)(h1:n<12):∃(cs:Array Value)(E:TypeId),tX m b (.cells cs E (0,0))/\0+n.toNat*1<cs.size/\∀m',jG m m' b (.cells ⟨splice cs.toList (0+n.toNat*1) [.bool true]⟩ E (0,0))->S6 m' b (seen++[n]):=by
 obtain⟨bs,e,hl,hs⟩:=x.ex;have hk:n.toNat<bs.length:=by omega
 refine⟨_,_,⟨e⟩,by simpa using hk,λm' hu=>⟨bs.set n.toNat true,?_,by simpa using hl,λk hk'=>?_⟩⟩
 .rw[hu.at_];congr 3;simp only[splice,Nat.zero_add,Nat.mul_one,List.length_cons,List.length_nil];rw[List.set_eq_take_append_cons_drop,if_pos hk];simp[List.map_take,List.map_drop]
 .rw[List.getElem?_set,List.mem_append,List.mem_singleton];by_cases e':n.toNat=k
  .subst e';rw[if_pos rfl,if_pos hk];exact⟨λ_=>.inr aC,λ_=>rfl⟩
  .rw[if_neg e',hs k hk'];exact⟨.inl,λh=>h.elim id λe=>by omega⟩
theorem S6.other{b':Nat}{seen:List Int}(x:S6 m b seen)(hne:b≠b')(ho:∀c,c≠b'->m' c=m c):S6 m' b seen:=by
 obtain⟨bs,e,hl,hs⟩:=x.ex;exact⟨bs,by rw[ho b hne,e],hl,hs⟩
theorem uT.arg{n:NV}(x:uT h s ps q ks n){j:Nat}{k:List Int}(hk:ks[j]? =some k):∃b o sl,n.args.a=some ⟨b,o,none⟩/\aX h b (o+j*1) [.slice sl.a sl.len sl.cap]/\Ints h sl k/\k.length<=12/\j<n.args.len:=by
 obtain⟨b,o,sl,e,r,hi⟩:=x.ks_.at hk;have:=(List.getElem?_eq_some_iff.1 hk).1;exact⟨b,o,sl,e,r,hi,x.len k (List.mem_of_getElem? hk),by rw[x.ks_.slen];exact this⟩
theorem Xp{n:NV}(hK:K (aQ ⟨0,0,⟨0,0,dN,dN,⟨none,0,0⟩⟩,⟨none,0,0⟩,⟨none,0,0⟩,n.q.group,n.q.order,n.q.limit,⟨none,0,0⟩⟩) m h):Lb n m h K:=hK
theorem pY:Sound Tryz.prog 177 yL:=by
 refine gZ Tryz.func177 ?_;rintro cvs m h K ⟨n,k,u,s,ps,q,ks,uq,rfl,hn,hu,hK⟩;refine⟨dL [(204,Y2)] [] [] [] false,rfl,aD Qr aF,Le n k u m h K,by kernel_rfl,?_⟩;dsimp only[Le,push_cast];have hl:=hn.ks_.slen;have hq:=hn.q_;have hq2:=hn.q_;obtain⟨op,ta,w,co,on,gr,od,li,args⟩:=q;obtain⟨op',ta',w',co',on',gr',od',li',args'⟩:=uq;have x:=hu.parts;have y:=hq.parts;refine aB (λh1=>⟨n.q,⟨n.q.op,u.table,u.where_,u.columns,u.on,u.group,u.order,u.limit,n.q.args⟩,_,.mk op ta' w' co' on' gr' od' li' args,rfl,hq2,oS.rep ⟨y.op_,x.table_,x.where_,x.columns_,x.on_,x.group_,x.order_,x.limit_,y.args_⟩,λr hr=>hK r (hr.trans ⟨λe=>⟨?_,e⟩,λe=>e.2⟩)⟩) (λh1=>hK false ⟨λe=>(by cases e),λe=>?_⟩)
 .have:(n.args.len:Int)=k:=by simpa using h1
  omega
 .have:(n.args.len:Int)≠k:=by simpa using h1
  have:=e.1;omega
theorem Jt:Sound Tryz.prog 181 JQ:=by
 refine gZ Tryz.func181 ?_;rintro cvs m h K ⟨n,s,ps,q,ks,rfl,hn,hK⟩;refine⟨dL [] [] [] [] false,rfl,aF,Lb n m h K,by kernel_rfl,?_⟩;exact Xp hK
theorem Xo{n:NV}{op:Int}{on:List (Int×Int)}{args:List Query}(hn:uT h s ps (.mk op ta w co on gr od li args) ks n)(ha:ks[0]? =some a)(hK:∀r:Bool,(r=true↔uU a gr od li)->K (cB r) m h):CW n m h (j4 h K):=by
 dsimp only[CW,push_cast];have x:=hn.q_.parts;have gl:=x.group_.slen;have glen:=x.group_.len;have ol:=x.order_.slen;have olen:=x.order_.len;have el:=x.limit_;obtain⟨b0,o0,sl,e0,r0,hi0,hl12,hlen⟩:=hn.arg ha;have sla:=hi0.slen;have bad:∀mx,Sub m mx->¬uU a gr od li->j4 h K (.val (.bool false)) mx h:=λmx hm hn=>.sub hm (hK false ⟨λe=>(by cases e),λe=>(hn e).elim⟩);refine⟨b0,o0,e0,aC,aC,sl,.imm (by simpa using r0),λb m1 hb hm1=>?_⟩;refine⟨λ⟨i,wd,b',mx⟩=>wd=a.length/\b'=b/\i<=gr.length/\Sub m mx/\S6 mx b (gr.take i)/\eO (GH a) gr i,λ⟨i,_,_,_⟩=>gr.length-i,⟨(0,sl.len,b,m1),⟨sla,rfl,aC,(Sub.refl m).upd hb.m_ hm1.other,.zero hm1.at_,.zero⟩,MT⟩,?_⟩;rintro⟨i,wd,b,mx⟩ ⟨rfl,rfl,hi,hsub,harr,hg⟩;dsimp only;refine aE (λhlt=>?_) (λhge=>?_)
 .obtain⟨c,hc⟩:=eW gl hlt;obtain⟨b1,o1,e1,r1⟩:=x.group_.at' hc;have gbad:¬GH a (gr.take i) c->j4 h K (.val (.bool false)) mx h:=λhn=>bad mx hsub λhh=>Good.not hc hn hh.group_;refine⟨b1,o1,e1,aC,hlt,c,.imm r1,aE (λh1=>gbad λhh=>?_) (λh1=>aE (λh2=>gbad λhh=>?_) (λh2=>?_))⟩
  .have:=j2.1 hh.1;omega
  .have:=j2.1 hh.1;omega
  obtain⟨y,hy,hys⟩:=harr.look (h:=h) (n:=c) aC aC;refine⟨aC,aC,y,hy,aB (λh3=>gbad λhh=>hh.2 (hys.1 h3)) (λh3=>?_)⟩;obtain⟨cs,E,hat,hsz,hst⟩:=harr.store (n:=c) aC aC;refine⟨aC,aC,cs,E,hat,hsz,λm2 hm2=>⟨(i+1,a.length,b,m2),⟨rfl,rfl,aC,hsub.upd hb.m_ hm2.other,?_,hg.succ hc ⟨j2.2 ⟨aC,aC⟩,λe=>?_⟩⟩,by show gr.length-(i+1)<gr.length-i;omega,MT⟩⟩
  .have:=hst m2 hm2
   rwa [List.take_add_one,hc]
  .rw[hys.2 e]at h3;cases h3
 have gg:=hg.all aC;refine⟨λ⟨i,wd,mx⟩=>wd=a.length/\i<=od.length/\Sub m mx/\eO (JV a) od i,λ⟨i,_,_⟩=>od.length-i,⟨(0,a.length,mx),⟨rfl,aC,hsub,.zero⟩,MT⟩,?_⟩;clear hi hg hge hsub harr mx;rintro⟨i,wd,mx⟩ ⟨rfl,hi,hsub,hoi⟩;dsimp only;refine aE (λhlt=>?_) (λhge=>?_)
 .obtain⟨c,hc⟩:=eW ol hlt;obtain⟨b1,o1,e1,r1⟩:=x.order_.at hc;have obad:¬JV a (od.take i) c->j4 h K (.val (.bool false)) mx h:=λhn=>bad mx hsub λhh=>Good.not hc hn hh.order_;refine⟨b1,o1,e1,aC,hlt,c,.imm r1,aE (λh1=>obad λhh=>?_) (λh1=>aE (λh2=>obad λhh=>?_) (λh2=>⟨(i+1,a.length,mx),⟨rfl,aC,hsub,hoi.succ hc (j2.2 ⟨aC,aC⟩)⟩,by show od.length-(i+1)<od.length-i;omega,MT⟩))⟩
  .have:=j2.1 (show Fq a c.1=true from hh);omega
  .have:=j2.1 (show Fq a c.1=true from hh);omega
 have oo:=hoi.all aC;rw[el];refine aE (λh1=>aE (λh2=>?_) (λh2=>bad mx hsub λhh=>?_)) (λh1=>bad mx hsub λhh=>?_)
 .exact .sub hsub (hK (decide (li<=100)) ⟨λe=>⟨gg,oo,aC,h2,by simpa using e⟩,λe=>decide_eq_true e.high⟩)
 .have:=hh.low;omega
 .have:=hh.len_;omega
theorem Js:Sound Tryz.prog 182 JR:=by
 refine EX Tryz.func182 ?_;rintro cvs m h K ⟨n,s,ps,q,ks,a,rfl,hn,ha,hK⟩;refine⟨Vl n h,rfl,aF,CW n m h (j4 h K),by kernel_rfl,?_⟩;dsimp only[CW,push_cast];obtain⟨op,ta,w,co,on,gr,od,li,args⟩:=q;refine Xo hn ha (λr hr=>hK r (hr.trans ⟨λe=>⟨_,_,_,_,_,_,_,_,_,rfl,e⟩,?_⟩));rintro⟨_,_,_,_,_,_,_,_,_,e,hr⟩;cases e;exact hr
theorem PE{on:List (Int×Int)}{sl:Sl}(hon:lB h sl on):dC h (.mk 0 0 iB [] on [] [] 0 []) ⟨0,0,⟨0,0,dN,dN,⟨none,0,0⟩⟩,⟨none,0,0⟩,sl,⟨none,0,0⟩,⟨none,0,0⟩,0,⟨none,0,0⟩⟩:=
 oS.rep ⟨rfl,rfl,Ae h,⟨.nil _ _,by simp⟩,hon,⟨.nil _ _,by simp⟩,⟨.nil _ _,by simp⟩,rfl,.nil _ _ _ _⟩
theorem Ju:Sound Tryz.prog 178 JU:=by
 refine EX Tryz.func178 ?_;rintro cvs m h K ⟨n,s,ps,q,ks,rfl,hn,hK⟩;refine⟨Vn n h,rfl,aD pY aF,CX n m h (j4 h K),by kernel_rfl,?_⟩;dsimp only[CX,push_cast];obtain⟨op,ta,w,co,on,gr,od,li,args⟩:=q;show CX n m h (j4 h K);dsimp only[CX,push_cast];have x:=hn.q_.parts;have ol:=x.on_.slen;have olen:=x.on_.len;have bad:∀mx,Sub m mx->¬Hv ks (.mk op ta w co on gr od li args)->j4 h K (.val (.bool false)) mx h:=λmx hm hn=>.sub hm (hK false ⟨λe=>(by cases e),λe=>(hn e).elim⟩);refine⟨n,2,⟨0,0,⟨0,0,dN,dN,⟨none,0,0⟩⟩,⟨none,0,0⟩,n.q.on,⟨none,0,0⟩,⟨none,0,0⟩,0,⟨none,0,0⟩⟩,s,ps,_,ks,.mk 0 0 iB [] on [] [] 0 [],rfl,hn,PE x.on_,λr hr=>aB (λh1=>bad m (Sub.refl m) λhh=>?_) (λh1=>?_)⟩
 .have:r=true:=hr.2 ⟨by have:=hh.1;omega,by obtain⟨_,rfl,rfl,rfl,rfl,rfl,rfl,_⟩:=hh;rfl⟩;rw[this]at h1;cases h1
 obtain⟨hk2,heq⟩:=hr.1 (by simpa using h1);simp only[Query.withOf,Query.mk.injEq]at heq;obtain⟨_,rfl,rfl,rfl,_,rfl,rfl,rfl,_⟩:=heq
 obtain⟨a0,a1,rfl⟩:∃a0 a1,ks=[a0,a1]:=by
  match ks,hk2 with
  |[a0,a1],_=>exact⟨a0,a1,rfl⟩
  |[],h=>simp at h
  |[_],h=>simp at h
  |_::_::_::_,h=>simp at h;omega
 obtain⟨b0,o0,s0,e0,r0,i0,l0,j0⟩:=hn.arg (j:=0) rfl;obtain⟨b1,o1,s1,e1,r1,i1,l1,j1⟩:=hn.arg (j:=1) rfl;have sl0:=i0.slen;have sl1:=i1.slen;have bad:∀mx,Sub m mx->¬Good (zZ a0 a1) on->j4 h K (.val (.bool false)) mx h:=λmx hm hn=>bad mx hm λhh=>hn hh.2.2.2.2.2.2.2;refine⟨b0,o0,e0,aC,aC,s0,.imm (by simpa using r0),b1,o1,e1,aC,aC,s1,.imm (by simpa using r1),λb m1 hb hm1 c m2 hc hm2=>?_⟩;have hne:b≠c:=λe=>by have:=hc.m_;rw[<-e,hm1.at_]at this;cases this
 have hs1:Sub m m1:=(Sub.refl m).upd hb.m_ hm1.other;have hcm:m c=none:=hs1.free hc.m_
 refine⟨λ⟨i,s',t',b',c',mx⟩=>s'=s0/\t'=s1/\b'=b/\c'=c/\i<=on.length/\Sub m mx/\S6 mx b ((on.take i).map Prod.fst)/\S6 mx c ((on.take i).map Prod.snd)/\eO (zZ a0 a1) on i,λ⟨i,_,_,_,_,_⟩=>on.length-i,
  ⟨(0,s0,s1,b,c,m2),⟨rfl,rfl,rfl,rfl,aC,hs1.upd hcm hm2.other,(S6.zero hm1.at_).other hne hm2.other,.zero hm2.at_,.zero⟩,MT⟩,?_⟩
 rintro⟨i,s0,s1,b,c,mx⟩ ⟨rfl,rfl,rfl,rfl,hi,hsub,hA,hB,hg⟩;dsimp only;refine aE (λhlt=>?_) (λhge=>.sub hsub (hK true ⟨λ_=>⟨rfl,rfl,rfl,rfl,rfl,rfl,rfl,hg.all aC⟩,λ_=>rfl⟩));obtain⟨p,hp⟩:=eW ol hlt;obtain⟨bp,op',ep,rp⟩:=x.on_.at hp;have pbad:¬zZ a0 a1 (on.take i) p->j4 h K (.val (.bool false)) mx h:=λhn=>bad mx hsub (Good.not hp hn);refine⟨bp,op',ep,aC,hlt,p,.imm rp,aC,aC,aC,aC,aE (λd1=>pbad λhh=>?_) (λd1=>aE (λd2=>pbad λhh=>?_) (λd2=>aE (λd3=>pbad λhh=>?_) (λd3=>aE (λd4=>pbad λhh=>?_) (λd4=>?_))))⟩
 .have:=j2.1 hh.1;omega
 .have:=j2.1 hh.1;omega
 .have:=j2.1 hh.2.1;omega
 .have:=j2.1 hh.2.1;omega
 obtain⟨b2,o2,e2,r2⟩:=i0.inb (n:=p.1) aC aC;obtain⟨b3,o3,e3,r3⟩:=i1.inb (n:=p.2) aC aC;obtain⟨y,hy,hys⟩:=hA.look (h:=h) (n:=p.1) aC aC;obtain⟨z,hz,hzs⟩:=hB.look (h:=h) (n:=p.2) aC aC;obtain⟨cs,E,hat,hsz,hst⟩:=hA.store (n:=p.1) aC aC;refine⟨b2,o2,e2,aC,aC,_,.imm r2,b3,o3,e3,aC,aC,_,.imm r3,aB (λd5=>pbad λhh=>?_) (λd5=>⟨aC,aC,y,hy,aB (λd6=>pbad λhh=>?_) (λd6=>⟨aC,aC,z,hz,aB (λd7=>pbad λhh=>?_) (λd7=>⟨aC,aC,cs,E,hat,hsz,λm3 hm3=>?_⟩)⟩)⟩)⟩
 .rw[hh.2.2.1]at d5;simp at d5
 .obtain⟨q,hq,e⟩:=List.mem_map.1 (hys.1 d6);exact(hh.2.2.2 q hq).1 e
 .obtain⟨q,hq,e⟩:=List.mem_map.1 (hzs.1 d7);exact(hh.2.2.2 q hq).2 e
 have hA3:=hst m3 hm3;have hB3:=hB.other hne.symm hm3.other;obtain⟨cs2,E2,hat2,hsz2,hst2⟩:=hB3.store (n:=p.2) aC aC;refine⟨aC,aC,cs2,E2,hat2,hsz2,λm4 hm4=>⟨(i+1,s0,s1,b,c,m4),⟨rfl,rfl,rfl,rfl,aC,(hsub.upd hb.m_ hm3.other).upd hcm hm4.other,?_,?_,hg.succ hp ⟨j2.2 ⟨aC,aC⟩,j2.2 ⟨aC,aC⟩,by simpa using d5,λq hq=>⟨λe=>?_,λe=>?_⟩⟩⟩,by show on.length-(i+1)<on.length-i;omega,MT⟩⟩
 .rw[fT hp];exact hA3.other hne hm4.other
 .rw[fT hp];exact hst2 m4 hm4
 .rw[hys.2 (List.mem_map.2 ⟨q,hq,e⟩)]at d6;cases d6
 .rw[hzs.2 (List.mem_map.2 ⟨q,hq,e⟩)]at d7;cases d7
def fin(r:List Int×Int):List Int×Int:=if r.2=0 then yY r.1 else jT r.2
def Query.op:Query->Int
 |.mk op .. =>op
noncomputable def uZ(s:oF)(ps:List Int)(q:Query)(ks:List (List Int)):List Int×Int:=if(ks.length:Int)=arity q.op then iS s ps q (ks.getD 0 []) (ks.getD 1 [])else jT 100
def u0(P:Int->Prop):Vc.Spec:=λcvs m h K=>∃n s ps q ks,cvs=[aN n]/\uT h s ps q ks n/\nD s/\P q.op/\∀r,fin r=uZ s ps q ks->KR K m h r
def YW(h:PH)(ss:Sl)(ks:List (List Int)):Prop:=bL h 1 eS (λk sl=>Ints h sl k) ss ks
def Ic:Vc.Spec:=λcvs m h K=>∃ss ks,cvs=[cS ss]/\YW h ss ks/\ks.length<=10/\(∀k∈ks,k.length<=12)/\∀sl h',PH.le h h'->Ints h' sl ks.flatten->K (cS sl) m h'
noncomputable def Vu(n:NV)(m:MH)(h:PH):Ctx:=
 dL [(177,yL)] [(5,{A:=Nat×List Int,st:=λ⟨i,l⟩=>cD 57 58 [(1,.at (.ptr 1 0)),(4,.at (.lst 25)),(28,sv n.q.columns),(29,iv n.q.columns.len),(30,iv i)] [(1,.cells 152 (n.enc.map .val)),(25,.lst 3 1 (l.map eI))] m h})] [] [] false
noncomputable abbrev yR(a:List Value):List Value:=aR tY tY (aR tY bU a)
noncomputable abbrev vP(a b:Value):List Value:=aR a b (aR bU bU (aR bU bU (aR bU bU (sE tY (yR hX)))))
attribute [push_cast] yR vP
def C4(n:NV)(m:MH)(h:PH)(K:CV->MH->PH->Prop):Prop:=
  xD (bP (aR (rV n.s) (rU n.s) (aR (dV n.params) (eH n.q.op) (aR (mF n.q) (mE n.q) (aR (eH (mH n.q)) (kM (iF n.q)) (fJ n (fH n)))))) (cR (eZ 0) (mM (vP bU (mF n.q))))) (λn1 k u=>bP (aR (rV n1.s) (rU n1.s) (aR (dV n1.params) (eH n1.q.op) (aR (mF n1.q) (mE n1.q) (aR (eH (mH n1.q)) (kM (iF n1.q)) (fJ n1 (fH n1)))))) (cR (eZ k) (bJ u))) h (λk q k1 u r=>gG (dT r↔xJ k1 k q u) (!r) (K (CV.tup (aZ lN 100)) m h) (aW n.q.table 0 (K (CV.tup (aZ lN 100)) m h) (gA n.q.table (gS n.s) (K (CV.tup (aZ lN 100)) m h) (xG (aZ (fX n.s) n.q.table) h (λs h1=>K (CV.tup (aZ (lR s) 0)) m h1)))))
def C3(n:NV)(m:MH)(h:PH)(K:CV->MH->PH->Prop):Prop:=
  xD (bP (aR (rV n.s) (rU n.s) (aR (dV n.params) (eH n.q.op) (aR (mF n.q) (mE n.q) (aR (eH (mH n.q)) (kM (iF n.q)) (fJ n (fH n)))))) (cR (eZ 1) (mM (aR bU bU (aR (mE n.q) (eH (mH n.q)) (aR (kM (iF n.q)) (wK (iF n.q)) (aR (eH (oV (iF n.q))) (pX (iF n.q)) (aR (lA (iF n.q)) (kM (fG n.q)) (aR (wK (fG n.q)) (eH (oV (fG n.q))) (aR (pX (fG n.q)) (lA (fG n.q)) (aR (mV n.q) tY (yR hX)))))))))))) (λn1 k u=>bP (aR (rV n1.s) (rU n1.s) (aR (dV n1.params) (eH n1.q.op) (aR (mF n1.q) (mE n1.q) (aR (eH (mH n1.q)) (kM (iF n1.q)) (fJ n1 (fH n1)))))) (cR (eZ k) (bJ u))) h (λk q k1 u r=>gG (dT r↔xJ k1 k q u) (!r) (K (CV.tup (aZ lN 100)) m h) (dG n.args.a 0 n.args
 (λb o y=>aM m h b (dJ o) (aL y)/\Cq (cK y (fF n.params (dO n.q.where_))) h (λc p p1=>eE (iC c p p1) 0 (K (CV.tup (aZ lN (iC c p p1))) m h) (dG n.args.a 0 n.args (λb1 o1 y1=>aM m h b1 (dJ o1) (aL y1)/\K (CV.tup (aZ (lR y1) 0)) m h))))))
def C2(n:NV)(m:MH)(h:PH)(K:CV->MH->PH->Prop):Prop:=
  xD (bP (aR (rV n.s) (rU n.s) (aR (dV n.params) (eH n.q.op) (aR (mF n.q) (mE n.q) (aR (eH (mH n.q)) (kM (iF n.q)) (fJ n (fH n)))))) (cR (eZ 1) (mM (CC (sE (mW n.q) (yR hX)))))) (λn1 k u=>bP (aR (rV n1.s) (rU n1.s) (aR (dV n1.params) (eH n1.q.op) (aR (mF n1.q) (mE n1.q) (aR (eH (mH n1.q)) (kM (iF n1.q)) (fJ n1 (fH n1)))))) (cR (eZ k) (bJ u))) h (λk q k1 u r=>(dT r↔xJ k1 k q u)->cV (!r) (K (CV.tup (aZ lN 100)) m h) (aG n.q.columns==0) (K (CV.tup (aZ lN 100)) m h) (aA (cF 0) (cF (aG n.q.columns)) (aA (sH (aG n.q.columns*8)) (sH (aG n.q.columns)) (∃(I:Nat×List Int->Prop)(m1:Nat×List Int->Nat),(∃(x:Nat×List Int),aA (I x) dZ (aA (eL 25) (aJ n.q.columns) (aA (bK
 n.q.columns) (bA x.1) (aA (Au n) (pD x.2) (bW (m=m) h h)))))/\∀(x:Nat×List Int),I x->aW (↑x.1:Int) (aG n.q.columns) (bD (λb o=>aH (bE n.q.columns.a b o) (0<=(↑x.1:Int)) ((↑x.1:Int)<aG n.q.columns) (∃(y:Int),aM m h b (bI o x.1 1) (bV y)/\aW y 0 (K (CV.tup (aZ lN 100)) m h) (dG n.args.a 0 n.args (λb1 o1 y1=>aM m h b1 (dJ o1) (aL y1)/\gA y (aG y1) (K (CV.tup (aZ lN 100)) m h) (dG n.args.a 0 n.args (λb2 o2 y2=>aM m h b2 (dJ o2) (aL y2)/\bD (λb3 o3=>aH (bE y2.a b3 o3) (0<=y) (y<aG y2) (∃(y3:Int),aH (aM m h b3 (fR o3 y 1) (bV y3)) (xC x.2) (eF (fK x.2)) (∃(x1:Nat×List Int),aA (I x1) (m1 x1<m1 x) (aA dZ (eL 25) (aA (aJ n.q.columns) (bK n.q.columns) (aA (fU (bF x.1 1)=bT x1.1)
 (Au n) (aH (qZ x.2 y3 x1.2) (m=m) (h=h) True)))))))))))))) (bX h 1 (fK x.2) (λs h1=>K (CV.tup (aZ (lR s) 0)) m h1))))))
noncomputable abbrev iG(a:NV)(b:List Value):CV:=mM (aR (rV a.s) (rU a.s) (aR (dV a.params) (eH a.q.op) (aR (mF a.q) (mE a.q) (aR (eH (mH a.q)) (kM (iF a.q)) b))))
attribute [push_cast] iG
def C1(n:NV)(m:MH)(h:PH)(K:CV->MH->PH->Prop):Prop:=
  ∃(n1:NV),Ap (λs p q k=>aA (eA (iG n (fJ n (fH n))) (iG n1 (fJ n1 (fH n1)))) (uT h s p q k n1) (∀(r:Bool),gG (dT r↔Hv k q) (!r) (K (CV.tup (aZ lN 100)) m h) (dG n.args.a 0 n.args (λb o y=>aM m h b (dJ o) (aL y)/\dG n.args.a 1 n.args (λb1 o1 y1=>aH (aM m h b1 (o1+1) (aL y1)) (aX h b (dJ o) (aL y)) (aX h b1 (o1+1) (aL y1)) (bX h 1 (aL y::cQ (aL y1)) (λs1 h1=>∃(s2:Sl)(k1:List (List Int)),aA (vC (lR s1)=vC (lR s2)) (YW h1 s2 k1) (aA (k1.length<=10) (∀(k2:List Int),List.Mem k2 k1->k2.length<=12) (∀(s3:Sl)(h2:PH),cY h1 h2 (Ints h2 s3 k1.flatten) (K (CV.tup (aZ (lR s3) 0)) m h2))))))))))
def C0(n:NV)(m:MH)(h:PH)(K:CV->MH->PH->Prop):Prop:=
  ∃(n1:NV),Ap (λs p q k=>aA (eA (iG n (fJ n (fH n))) (iG n1 (fJ n1 (fH n1)))) (uT h s p q k n1) (∀(r:Bool),gG (dT r↔Hv k q) (!r) (K (CV.tup (aZ lN 100)) m h) (dG n.args.a 0 n.args (λb o y=>aM m h b (dJ o) (aL y)/\K (CV.tup (aZ (lR y) 0)) m h))))
def Gl(n:NV)(m:MH)(h:PH)(K:CV->MH->PH->Prop):Prop:=
  xD (bP (aR (rV n.s) (rU n.s) (aR (dV n.params) (eH n.q.op) (aR (mF n.q) (mE n.q) (aR (eH (mH n.q)) (kM (iF n.q)) (fJ n (fH n)))))) (cR (eZ 2) (mM zV))) (λn1 k u=>bP (aR (rV n1.s) (rU n1.s) (aR (dV n1.params) (eH n1.q.op) (aR (mF n1.q) (mE n1.q) (aR (eH (mH n1.q)) (kM (iF n1.q)) (fJ n1 (fH n1)))))) (cR (eZ k) (bJ u))) h (λk q k1 u r=>gG (dT r↔xJ k1 k q u) (!r) (K (CV.tup (aZ lN 100)) m h) (dG n.args.a 0 n.args (λb o y=>aM m h b (dJ o) (aL y)/\dG n.args.a 1 n.args (λb1 o1 y1=>aM m h b1 (o1+1) (aL y1)/\Cp y y1 h (λa b2 r1=>gG (dT r1↔a=b2) (!r1) (K (CV.tup (aZ lN 100)) m h) (dG n.args.a 0 n.args (λb3 o2 y2=>aM m h b3 (dJ o2) (aL y2)/\K (CV.tup (aZ (lR y2) 0)) m h)))))))
abbrev FJ(a:(List Int)->(List (Int×Bool))->Prop):Prop:=∃(x:List Int)(x1:List (Int×Bool)),a x x1
attribute [push_cast] FJ
def CZ(n:NV)(m:MH)(h:PH)(K:CV->MH->PH->Prop):Prop:=
  ∃(n1:NV),Ap (λs p q k=>aA (eA (iG n (fJ n (fH n))) (iG n1 (fJ n1 (fH n1)))) (uT h s p q k n1) (xD (bP (aR (rV n.s) (rU n.s) (aR (dV n.params) (eH n.q.op) (aR (mF n.q) (mE n.q) (aR (eH (mH n.q)) (kM (iF n.q)) (fJ n (fH n)))))) (cR (eZ 1) (mM (CC (sE tY (HC n1.q)))))) (λn2 k1 u=>bP (aR (rV n2.s) (rU n2.s) (aR (dV n2.params) (eH n2.q.op) (aR (mF n2.q) (mE n2.q) (aR (eH (mH n2.q)) (kM (iF n2.q)) (fJ n2 (fH n2)))))) (cR (eZ k1) (bJ u))) h (λk1 q1 k2 u r=>gG (dT r↔xJ k2 k1 q1 u) (!r) (K (CV.tup (aZ lN 100)) m h) (∃(n2:NV),Ap (λs1 p1 q2 k3=>∃(a:List Int),aH (eA (iG n (fJ n (fH n))) (iG n2 (fJ n2 (fH n2)))) (uT h s1 p1 q2 k3 n2) (k3[0]? =
 Option.some a) (∀(r1:Bool),gG (dT r1↔(∃(o t:Int)(w:Pred)(c:List Int)(o1:List (Int×Int)),FJ (λg o2=>∃(l:Int)(a1:List Query),q2=Query.mk o t w c o1 g o2 l a1/\uU a g o2 l))) (!r1) (K (CV.tup (aZ lN 100)) m h) (dG n.args.a 0 n.args (λb o y=>aM m h b (dJ o) (aL y)/\K (CV.tup (aZ (lR y) 0)) m h))))))))
def CY(n:NV)(m:MH)(h:PH)(K:CV->MH->PH->Prop):Prop:=
  ∃(n1:NV),Ap (λs p q k=>aA (eA (iG n (fJ n (fH n))) (iG n1 (fJ n1 (fH n1)))) (uT h s p q k n1) (xD (bP (aR (rV n.s) (rU n.s) (aR (dV n.params) (eH n.q.op) (aR (mF n.q) (mE n.q) (aR (eH (mH n.q)) (kM (iF n.q)) (fJ n (fH n)))))) (cR (eZ 2) (mM (CC (sE tY (HC n1.q)))))) (λn2 k1 u=>bP (aR (rV n2.s) (rU n2.s) (aR (dV n2.params) (eH n2.q.op) (aR (mF n2.q) (mE n2.q) (aR (eH (mH n2.q)) (kM (iF n2.q)) (fJ n2 (fH n2)))))) (cR (eZ k1) (bJ u))) h (λk1 q1 k2 u r=>gG (dT r↔xJ k2 k1 q1 u) (!r) (K (CV.tup (aZ lN 100)) m h) (dG n.args.a 0 n.args (λb o y=>aM m h b (dJ o) (aL y)/\dG n.args.a 1 n.args (λb1 o1 y1=>aM m h b1 (o1+1) (aL y1)/\Cp y y1 h (λa b2 r1=>
 gG (dT r1↔a=b2) (!r1) (aA (aX h b (dJ o) (aL y)) (aX h b1 (o1+1) (aL y1)) (K (CV.tup (aZ lN 100)) m h)) (aA (aX h b (dJ o) (aL y)) (aX h b1 (o1+1) (aL y1)) (∃(n2:NV),Ap (λs1 p1 q2 k3=>∃(a1:List Int),aH (eA (iG n (fJ n (fH n))) (iG n2 (fJ n2 (fH n2)))) (uT h s1 p1 q2 k3 n2) (k3[0]? =Option.some a1) (∀(r2:Bool),gG (dT r2↔(∃(o2 t:Int)(w:Pred)(c:List Int)(o3:List (Int×Int)),FJ (λg o4=>∃(l:Int)(a2:List Query),q2=Query.mk o2 t w c o3 g o4 l a2/\uU a1 g o4 l))) (!r2) (K (CV.tup (aZ lN 100)) m h) (dG n.args.a 0 n.args (λb3 o2 y2=>aM m h b3 (dJ o2) (aL y2)/\K (CV.tup (aZ (lR y2) 0)) m h)))))))))))))
theorem WH{e:Int}(h:e≠0):fin (jT e)=jT e:=by unfold fin;rw[if_neg (by simpa[jT]using h)];rfl
theorem WG(l:List Int):fin (l,0)=yY l:=by unfold fin;rw[if_pos rfl]
structure Uz(K:CV->MH->PH->Prop)(m:MH)(h:PH)(full:List Int×Int):Prop where
 all:∀r,fin r=full->KR K m h r
theorem Uz.err{f:List Int×Int}{e:Int}(x:Uz K m h f)(he:f=jT e)(h0:e≠0)(hle:PH.le h h'):K (.tup [.val (.slice none 0 0),.val (.int .i64 e)]) m h':=
 (x.all (jT e) (by rw[he,WH h0])).err hle rfl
theorem Uz.ok{f:List Int×Int}{sl:Sl}(x:Uz K m h f)(he:f=yY l)(hle:PH.le h h')(hi:Ints h' sl l):K (.tup [.val (.slice sl.a sl.len sl.cap),.val (.int .i64 0)]) m h':=
 x.all (l,0) (by rw[he,WG]) sl h' hle hi
theorem rL(h:¬((ks.length:Int)=arity q.op/\dQ q)):uZ s ps q ks=jT 100:=by
 unfold uZ;by_cases h1:(ks.length:Int)=arity q.op
 .rw[if_pos h1];unfold iS;rw[if_pos (.inr λe=>h ⟨h1,e⟩)]
 .rw[if_neg h1]
theorem mQ{s:oF}{ps:List Int}{op ta:Int}{w:Pred}{co:List Int}{on:List (Int×Int)}{gr:List Int}{od:List (Int×Bool)}{li:Int}{args:List Query}{ks:List (List Int)}(h1:(ks.length:Int)=arity op)(h2:dQ (.mk op ta w co on gr od li args))(h0:0<=arity op):
 uZ s ps (.mk op ta w co on gr od li args) ks=iS s ps (.mk op ta w co on gr od li args) (ks.getD 0 []) (ks.getD 1 [])/\¬(arity op<0\/¬dQ (.mk op ta w co on gr od li args)):=by
 unfold uZ;rw[if_pos (show(ks.length:Int)=arity (Query.op (.mk op ta w co on gr od li args))from h1)];exact⟨rfl,λe=>e.elim (λe=>by omega) λe=>e h2⟩
section
variable{n:NV}{s:oF}{ps:List Int}{ta:Int}{w:Pred}{co:List Int}{on:List (Int×Int)}{gr:List Int}{od:List (Int×Bool)}{li:Int}{args:List Query}{ks:List (List Int)}{m:MH}{h:PH}{K:CV->MH->PH->Prop}
theorem PR(hk:(ks.length:Int)=1):∃a,ks=[a]:=by
 match ks,hk with
 |[a],_=>exact⟨a,rfl⟩
 |[],h=>simp at h
 |_::_::_,h=>simp at h;omega
theorem LZ(hk:(ks.length:Int)=2):∃a b,ks=[a,b]:=by
 match ks,hk with
 |[a,b],_=>exact⟨a,b,rfl⟩
 |[],h=>simp at h
 |[_],h=>simp at h
 |_::_::_::_,h=>simp at h;omega
theorem XB(hn:uT h s ps (.mk 1 ta w co on gr od li args) ks n)(h8:nD s)(hT:Uz K m h (uZ s ps (.mk 1 ta w co on gr od li args) ks)):C4 n m h K:=by
 dsimp only[C4,push_cast];have x:=hn.q_.parts;have et:=x.table_;have sl:=hn.s_.tables.slen;refine⟨n,0,⟨0,n.q.table,⟨0,0,dN,dN,⟨none,0,0⟩⟩,⟨none,0,0⟩,⟨none,0,0⟩,⟨none,0,0⟩,⟨none,0,0⟩,0,⟨none,0,0⟩⟩,s,ps,_,ks,.mk 0 ta iB [] [] [] [] 0 [],rfl,hn,oS.rep ⟨rfl,et,Ae h,⟨.nil _ _,by simp⟩,⟨.nil _ _,by simp⟩,⟨.nil _ _,by simp⟩,⟨.nil _ _,by simp⟩,rfl,.nil _ _ _ _⟩,λr hr=>aB (λh1=>hT.err (rL λe=>?_) aC (.refl _)) (λh1=>?_)⟩
 .have:r=true:=hr.2 ⟨e.1,by have:=e.2;simp[dQ]at this;obtain⟨rfl,rfl,rfl,rfl,rfl,rfl⟩:=this;rfl⟩;rw[this]at h1;cases h1
 obtain⟨hk,heq⟩:=hr.1 (by simpa using h1);simp only[Query.withOf,Query.mk.injEq]at heq;obtain⟨_,_,rfl,rfl,rfl,rfl,rfl,rfl,_⟩:=heq;obtain⟨hf,hg⟩:=mQ (s:=s) (ps:=ps) (op:=1) (ta:=ta) (w:=iB) (co:=[]) (on:=[]) (gr:=[]) (od:=[]) (li:=0) (args:=args) (ks:=ks) hk (by simp[dQ]) (by decide);rw[hf]at hT;unfold iS at hT;rw[if_neg hg]at hT;dsimp only at hT;rw[if_pos rfl]at hT;refine aE (λd1=>hT.err (if_neg aC) aC (.refl _)) (λd1=>aE (λd2=>hT.err (if_neg aC) aC (.refl _)) (λd2=>⟨n.s,s,n.q.table,rfl,hn.s_,h8,λsl h' hle hi=>?_⟩));rw[et]at hi;exact hT.ok (if_pos aC) hle hi
theorem Xz(hn:uT h s ps (.mk 2 ta w co on gr od li args) ks n)(hT:Uz K m h (uZ s ps (.mk 2 ta w co on gr od li args) ks)):C3 n m h K:=by
 dsimp only[C3,push_cast];have x:=hn.q_.parts;refine⟨n,1,⟨0,0,n.q.where_,⟨none,0,0⟩,⟨none,0,0⟩,⟨none,0,0⟩,⟨none,0,0⟩,0,⟨none,0,0⟩⟩,s,ps,_,ks,.mk 0 0 w [] [] [] [] 0 [],rfl,hn,oS.rep ⟨rfl,rfl,x.where_,⟨.nil _ _,by simp⟩,⟨.nil _ _,by simp⟩,⟨.nil _ _,by simp⟩,⟨.nil _ _,by simp⟩,rfl,.nil _ _ _ _⟩,λr hr=>aB (λh1=>hT.err (rL λe=>?_) aC (.refl _)) (λh1=>?_)⟩
 .have:r=true:=hr.2 ⟨e.1,by have:=e.2;simp[dQ]at this;obtain⟨rfl,rfl,rfl,rfl,rfl,rfl⟩:=this;rfl⟩;rw[this]at h1;cases h1
 obtain⟨hk,heq⟩:=hr.1 (by simpa using h1);simp only[Query.withOf,Query.mk.injEq]at heq;obtain⟨_,rfl,_,rfl,rfl,rfl,rfl,rfl,_⟩:=heq;obtain⟨hf,hg⟩:=mQ (s:=s) (ps:=ps) (op:=2) (ta:=0) (w:=w) (co:=[]) (on:=[]) (gr:=[]) (od:=[]) (li:=0) (args:=args) (ks:=ks) hk (by simp[dQ]) (by decide);rw[hf]at hT;unfold iS at hT;rw[if_neg hg]at hT;dsimp only at hT;rw[if_neg (by decide),if_pos rfl]at hT;obtain⟨a,rfl⟩:=PR hk;obtain⟨b0,o0,s0,e0,r0,i0,l0,j0⟩:=hn.arg (j:=0) rfl;simp only[List.getD_cons_zero]at hT;refine⟨b0,o0,e0,aC,aC,s0,.imm (by simpa using r0),s0,n.params,n.q.where_,a,ps,w,rfl,i0,hn.ps_,x.where_,aB (λd1=>hT.err (if_neg (by simpa using d1)) (by simpa using d1) (.refl _)) (λd1=>⟨b0,o0,e0,aC,aC,s0,.imm (by simpa using r0),hT.ok (if_pos (by simpa using d1)) (.refl _) i0⟩)⟩
theorem Xw(hn:uT h s ps (.mk 5 ta w co on gr od li args) ks n)(hT:Uz K m h (uZ s ps (.mk 5 ta w co on gr od li args) ks)):C0 n m h K:=by
 dsimp only[C0,push_cast];refine⟨n,s,ps,_,ks,rfl,hn,λr hr=>aB (λh1=>hT.err ?_ aC (.refl _)) (λh1=>?_)⟩
 .by_cases hb:((ks.length:Int)=arity 5/\dQ (.mk 5 ta w co on gr od li args))
  .obtain⟨hf,hg⟩:=mQ (s:=s) (ps:=ps) hb.1 hb.2 (by decide);rw[hf];unfold iS;rw[if_neg hg];dsimp only;rw[if_neg (by decide),if_neg (by decide),if_neg (by decide),if_neg (by decide),if_pos rfl,if_neg];intro hgood;have h2:=hb.2;simp[dQ]at h2;have:r=true:=hr.2 ⟨by have:=hb.1;simp[arity]at this;omega,h2.1,h2.2.1,h2.2.2.1,h2.2.2.2.1,h2.2.2.2.2.1,h2.2.2.2.2.2,hgood⟩;rw[this]at h1;cases h1
  .exact rL hb
 obtain⟨hk,rfl,rfl,rfl,rfl,rfl,rfl,hgood⟩:=hr.1 (by simpa using h1);obtain⟨hf,hg⟩:=mQ (s:=s) (ps:=ps) (op:=5) (ta:=0) (w:=iB) (co:=[]) (on:=on) (gr:=[]) (od:=[]) (li:=0) (args:=args) (ks:=ks) (by rw[hk];rfl) (by simp[dQ]) (by decide);rw[hf]at hT;unfold iS at hT;rw[if_neg hg]at hT;dsimp only at hT;rw[if_neg (by decide),if_neg (by decide),if_neg (by decide),if_neg (by decide),if_pos rfl,if_pos hgood]at hT;obtain⟨a,b,rfl⟩:=LZ (ks:=ks) aC;obtain⟨b0,o0,s0,e0,r0,i0,l0,j0⟩:=hn.arg (j:=0) rfl;exact⟨b0,o0,e0,aC,aC,s0,.imm (by simpa using r0),hT.ok rfl (.refl _) i0⟩
theorem Xx(hn:uT h s ps (.mk 4 ta w co on gr od li args) ks n)(hT:Uz K m h (uZ s ps (.mk 4 ta w co on gr od li args) ks)):C1 n m h K:=by
 dsimp only[C1,push_cast];refine⟨n,s,ps,_,ks,rfl,hn,λr hr=>aB (λh1=>hT.err ?_ aC (.refl _)) (λh1=>?_)⟩
 .by_cases hb:((ks.length:Int)=arity 4/\dQ (.mk 4 ta w co on gr od li args))
  .obtain⟨hf,hg⟩:=mQ (s:=s) (ps:=ps) hb.1 hb.2 (by decide);rw[hf];unfold iS;rw[if_neg hg];dsimp only;rw[if_neg (by decide),if_neg (by decide),if_neg (by decide),if_pos rfl,if_neg];intro hgood;have h2:=hb.2;simp[dQ]at h2;have:r=true:=hr.2 ⟨by have:=hb.1;simp[arity]at this;omega,h2.1,h2.2.1,h2.2.2.1,h2.2.2.2.1,h2.2.2.2.2.1,h2.2.2.2.2.2,hgood⟩;rw[this]at h1;cases h1
  .exact rL hb
 obtain⟨hk,rfl,rfl,rfl,rfl,rfl,rfl,hgood⟩:=hr.1 (by simpa using h1);obtain⟨hf,hg⟩:=mQ (s:=s) (ps:=ps) (op:=4) (ta:=0) (w:=iB) (co:=[]) (on:=on) (gr:=[]) (od:=[]) (li:=0) (args:=args) (ks:=ks) (by rw[hk];rfl) (by simp[dQ]) (by decide);rw[hf]at hT;unfold iS at hT;rw[if_neg hg]at hT;dsimp only at hT;rw[if_neg (by decide),if_neg (by decide),if_neg (by decide),if_pos rfl,if_pos hgood]at hT;obtain⟨a,b,rfl⟩:=LZ (ks:=ks) aC;obtain⟨b0,o0,s0,e0,r0,i0,l0,j0⟩:=hn.arg (j:=0) rfl;obtain⟨b1,o1,s1,e1,r1,i1,l1,j1⟩:=hn.arg (j:=1) rfl;refine⟨b0,o0,e0,aC,aC,s0,.imm (by simpa using r0),b1,o1,e1,aC,aC,s1,.imm (by simpa using r1),by simpa using r0,by simpa using r1,λsl h' hle hrow=>⟨sl,[a,b],rfl,⟨⟨[s0,s1],hrow,rfl,λj k hk=>?_⟩,by simp⟩,by simp,λk hk=>hn.len k hk,λsl2 h2 hle2 hi2=>hT.ok (l:=a++b) (by simp) (hle.trans hle2) (by simpa using hi2)⟩⟩
 match j,hk with
 |0,hk=>simp at hk;subst hk;exact⟨s0,rfl,i0.mono hle⟩
 |1,hk=>simp at hk;subst hk;exact⟨s1,rfl,i1.mono hle⟩
 |_+2,hk=>simp at hk
theorem Xv{op:Int}(hop:op=6\/op=7\/op=8)(hn:uT h s ps (.mk op ta w co on gr od li args) ks n)(hT:Uz K m h (uZ s ps (.mk op ta w co on gr od li args) ks)):Gl n m h K:=by
 dsimp only[Gl,push_cast];have x:=hn.q_.parts;have ha:arity op=2:=by rcases hop with rfl|rfl|rfl<;>rfl
 have hne:op≠1/\op≠2/\op≠3/\op≠4/\op≠5/\op≠9/\op≠10:=by omega
 refine⟨n,2,⟨0,0,⟨0,0,dN,dN,⟨none,0,0⟩⟩,⟨none,0,0⟩,⟨none,0,0⟩,⟨none,0,0⟩,⟨none,0,0⟩,0,⟨none,0,0⟩⟩,s,ps,_,ks,.mk 0 0 iB [] [] [] [] 0 [],rfl,hn,oS.rep ⟨rfl,rfl,Ae h,⟨.nil _ _,by simp⟩,⟨.nil _ _,by simp⟩,⟨.nil _ _,by simp⟩,⟨.nil _ _,by simp⟩,rfl,.nil _ _ _ _⟩,λr hr=>aB (λh1=>hT.err (rL λe=>?_) aC (.refl _)) (λh1=>?_)⟩
 .have e1:(ks.length:Int)=arity op:=e.1;have:r=true:=hr.2 ⟨aC,by have:=e.2;simp[dQ,hne]at this;obtain⟨rfl,rfl,rfl,rfl,rfl,rfl,rfl⟩:=this;rfl⟩;rw[this]at h1;cases h1
 obtain⟨hk,heq⟩:=hr.1 (by simpa using h1);simp only[Query.withOf,Query.mk.injEq]at heq;obtain⟨_,rfl,rfl,rfl,rfl,rfl,rfl,rfl,_⟩:=heq;obtain⟨hf,hg⟩:=mQ (s:=s) (ps:=ps) (op:=op) (ta:=0) (w:=iB) (co:=[]) (on:=[]) (gr:=[]) (od:=[]) (li:=0) (args:=args) (ks:=ks) aC (by simp[dQ]) aC;rw[hf]at hT;unfold iS at hT;rw[if_neg hg]at hT;dsimp only at hT;rw[if_neg hne.1,if_neg hne.2.1,if_neg hne.2.2.1,if_neg hne.2.2.2.1,if_neg hne.2.2.2.2.1,if_neg hne.2.2.2.2.2.1,if_neg hne.2.2.2.2.2.2]at hT;obtain⟨a,b,rfl⟩:=LZ hk;obtain⟨b0,o0,s0,e0,r0,i0,l0,j0⟩:=hn.arg (j:=0) rfl;obtain⟨b1,o1,s1,e1,r1,i1,l1,j1⟩:=hn.arg (j:=1) rfl;refine⟨b0,o0,e0,aC,aC,s0,.imm (by simpa using r0),b1,o1,e1,aC,aC,s1,.imm (by simpa using r1),s0,s1,a,b,rfl,i0,i1,λr2 hr2=>aB (λd1=>hT.err (if_neg λe=>?_) aC (.refl _)) (λd1=>⟨b0,o0,e0,aC,aC,s0,.imm (by simpa using r0),hT.ok (if_pos (hr2.1 (by simpa using d1))) (.refl _) i0⟩)⟩;have e:a=b:=e;rw[hr2.2 e]at d1;cases d1
theorem Xy(hn:uT h s ps (.mk 3 ta w co on gr od li args) ks n)(hT:Uz K m h (uZ s ps (.mk 3 ta w co on gr od li args) ks)):C2 n m h K:=by
 dsimp only[C2,push_cast];have x:=hn.q_.parts;have cl:=x.columns_.slen;have clen:=x.columns_.len;refine⟨n,1,⟨0,0,⟨0,0,dN,dN,⟨none,0,0⟩⟩,n.q.columns,⟨none,0,0⟩,⟨none,0,0⟩,⟨none,0,0⟩,0,⟨none,0,0⟩⟩,s,ps,_,ks,.mk 0 0 iB co [] [] [] 0 [],rfl,hn,oS.rep ⟨rfl,rfl,Ae h,x.columns_,⟨.nil _ _,by simp⟩,⟨.nil _ _,by simp⟩,⟨.nil _ _,by simp⟩,rfl,.nil _ _ _ _⟩,λr hr=>aB (λh1=>hT.err (rL λe=>?_) aC (.refl _)) (λh1=>?_)⟩
 .have:r=true:=hr.2 ⟨e.1,by have:=e.2;simp[dQ]at this;obtain⟨rfl,rfl,rfl,rfl,rfl,rfl⟩:=this;rfl⟩;rw[this]at h1;cases h1
 obtain⟨hk,heq⟩:=hr.1 (by simpa using h1);simp only[Query.withOf,Query.mk.injEq]at heq;obtain⟨_,rfl,rfl,_,rfl,rfl,rfl,rfl,_⟩:=heq;obtain⟨hf,hg⟩:=mQ (s:=s) (ps:=ps) (op:=3) (ta:=0) (w:=iB) (co:=co) (on:=[]) (gr:=[]) (od:=[]) (li:=0) (args:=args) (ks:=ks) hk (by simp[dQ]) (by decide);rw[hf]at hT;unfold iS at hT;rw[if_neg hg]at hT;dsimp only at hT;rw[if_neg (by decide),if_neg (by decide),if_pos rfl]at hT;obtain⟨a,rfl⟩:=PR hk;obtain⟨b0,o0,s0,e0,r0,i0,l0,j0⟩:=hn.arg (j:=0) rfl;have sl0:=i0.slen;simp only[List.getD_cons_zero]at hT;refine aB (λd1=>hT.err (if_neg λe=>e.1 ((De cl).1 d1)) aC (.refl _)) (λd1=>?_);have hne:co≠[]:=λe=>by rw[(De cl).2 e]at d1;cases d1
 refine⟨aC,aC,aC,aC,λ⟨i,l⟩=>i<=co.length/\l=(co.take i).map (λc=>a.getD c.toNat 0)/\eO (λ_ c=>Fq a c=true) co i,λ⟨i,_⟩=>co.length-i,⟨(0,[]),⟨aC,by simp,.zero⟩,MT⟩,?_⟩;rintro⟨i,_⟩ ⟨hi,rfl,hgo⟩;dsimp only;refine aE (λhlt=>?_) (λhge sl h' hle hrow=>?_)
 .obtain⟨c,hc⟩:=eW cl hlt;obtain⟨b1,o1,ea1,r1⟩:=x.columns_.at' hc;have cbad:¬Fq a c=true->K (.tup [.val (.slice none 0 0),.val (.int .i64 100)]) m h:=λhx=>hT.err (if_neg λe=>hx (e.2 i c hc)) aC (.refl _);refine⟨b1,o1,ea1,aC,hlt,c,.imm r1,aE (λd2=>cbad λe=>?_) (λd2=>⟨b0,o0,e0,aC,aC,s0,.imm (by simpa using r0),aE (λd3=>cbad λe=>?_) (λd3=>?_)⟩)⟩
  .have:=j2.1 e;omega
  .have:=j2.1 e;omega
  obtain⟨b2,o2,ea2,r2⟩:=i0.inb (n:=c) aC aC;refine⟨b0,o0,e0,aC,aC,s0,.imm (by simpa using r0),b2,o2,ea2,aC,aC,_,.imm r2,?_,?_,(i+1,(co.take (i+1)).map (λc=>a.getD c.toNat 0)),⟨aC,rfl,hgo.succ hc (j2.2 ⟨aC,aC⟩)⟩,by show co.length-(i+1)<co.length-i;omega,?_⟩
  .simp;omega
  .simp;omega
  .rw[fT hc,List.map_append];exact MT
 .rw[List.take_of_length_le aC]at hrow;exact hT.ok (if_pos ⟨hne,hgo.all aC⟩) hle ⟨hrow,by simp;omega⟩
theorem Xu(hn:uT h s ps (.mk 9 ta w co on gr od li args) ks n)(hT:Uz K m h (uZ s ps (.mk 9 ta w co on gr od li args) ks)):CZ n m h K:=by
 dsimp only[CZ,push_cast];have x:=hn.q_.parts;refine⟨n,s,ps,_,ks,rfl,hn,n,1,⟨0,0,⟨0,0,dN,dN,⟨none,0,0⟩⟩,⟨none,0,0⟩,⟨none,0,0⟩,n.q.group,n.q.order,n.q.limit,⟨none,0,0⟩⟩,s,ps,_,ks,.mk 0 0 iB [] [] gr od li [],rfl,hn,oS.rep ⟨rfl,rfl,Ae h,⟨.nil _ _,by simp⟩,⟨.nil _ _,by simp⟩,x.group_,x.order_,x.limit_,.nil _ _ _ _⟩,λr hr=>aB (λh1=>hT.err (rL λe=>?_) aC (.refl _)) (λh1=>?_)⟩
 .have:r=true:=hr.2 ⟨e.1,by have:=e.2;simp[dQ]at this;obtain⟨rfl,rfl,rfl,rfl⟩:=this;rfl⟩;rw[this]at h1;cases h1
 obtain⟨hk,heq⟩:=hr.1 (by simpa using h1);simp only[Query.withOf,Query.mk.injEq]at heq;obtain⟨_,rfl,rfl,rfl,rfl,_,_,_,_⟩:=heq;obtain⟨hf,hg⟩:=mQ (s:=s) (ps:=ps) (op:=9) (ta:=0) (w:=iB) (co:=[]) (on:=[]) (gr:=gr) (od:=od) (li:=li) (args:=args) (ks:=ks) hk (by simp[dQ]) (by decide);rw[hf]at hT;unfold iS at hT;rw[if_neg hg]at hT;dsimp only at hT;rw[if_neg (by decide),if_neg (by decide),if_neg (by decide),if_neg (by decide),if_neg (by decide),if_pos rfl]at hT;obtain⟨a,rfl⟩:=PR hk;obtain⟨b0,o0,s0,e0,r0,i0,l0,j0⟩:=hn.arg (j:=0) rfl;refine⟨n,s,ps,_,[a],a,rfl,hn,rfl,λr2 hr2=>aB (λd1=>hT.err (if_neg λe=>?_) aC (.refl _)) (λd1=>⟨b0,o0,e0,aC,aC,s0,.imm (by simpa using r0),hT.ok (if_pos ?_) (.refl _) i0⟩)⟩
 .rw[hr2.2 ⟨_,_,_,_,_,_,_,_,_,rfl,e⟩]at d1;cases d1
 .obtain⟨_,_,_,_,_,_,_,_,_,e,hh⟩:=hr2.1 (by simpa using d1);cases e;exact hh
theorem Xt(hn:uT h s ps (.mk 10 ta w co on gr od li args) ks n)(hT:Uz K m h (uZ s ps (.mk 10 ta w co on gr od li args) ks)):CY n m h K:=by
 dsimp only[CY,push_cast];have x:=hn.q_.parts;refine⟨n,s,ps,_,ks,rfl,hn,n,2,⟨0,0,⟨0,0,dN,dN,⟨none,0,0⟩⟩,⟨none,0,0⟩,⟨none,0,0⟩,n.q.group,n.q.order,n.q.limit,⟨none,0,0⟩⟩,s,ps,_,ks,.mk 0 0 iB [] [] gr od li [],rfl,hn,oS.rep ⟨rfl,rfl,Ae h,⟨.nil _ _,by simp⟩,⟨.nil _ _,by simp⟩,x.group_,x.order_,x.limit_,.nil _ _ _ _⟩,λr hr=>aB (λh1=>hT.err (rL λe=>?_) aC (.refl _)) (λh1=>?_)⟩
 .have:r=true:=hr.2 ⟨e.1,by have:=e.2;simp[dQ]at this;obtain⟨rfl,rfl,rfl,rfl⟩:=this;rfl⟩;rw[this]at h1;cases h1
 obtain⟨hk,heq⟩:=hr.1 (by simpa using h1);simp only[Query.withOf,Query.mk.injEq]at heq;obtain⟨_,rfl,rfl,rfl,rfl,_,_,_,_⟩:=heq;obtain⟨hf,hg⟩:=mQ (s:=s) (ps:=ps) (op:=10) (ta:=0) (w:=iB) (co:=[]) (on:=[]) (gr:=gr) (od:=od) (li:=li) (args:=args) (ks:=ks) hk (by simp[dQ]) (by decide);rw[hf]at hT;unfold iS at hT;rw[if_neg hg]at hT;dsimp only at hT;rw[if_neg (by decide),if_neg (by decide),if_neg (by decide),if_neg (by decide),if_neg (by decide),if_neg (by decide),if_pos rfl]at hT;obtain⟨a,b,rfl⟩:=LZ hk;obtain⟨b0,o0,s0,e0,r0,i0,l0,j0⟩:=hn.arg (j:=0) rfl;obtain⟨b1,o1,s1,e1,r1,i1,l1,j1⟩:=hn.arg (j:=1) rfl;refine⟨b0,o0,e0,aC,aC,s0,.imm (by simpa using r0),b1,o1,e1,aC,aC,s1,.imm (by simpa using r1),s0,s1,a,b,rfl,i0,i1,λr3 hr3=>aB (λd2=>⟨by simpa using r0,by simpa using r1,hT.err (if_neg λe=>?_) aC (.refl _)⟩) (λd2=>⟨by simpa using r0,by simpa using r1,n,s,ps,_,[a,b],a,rfl,hn,rfl,λr2 hr2=>aB (λd1=>hT.err (if_neg λe=>?_) aC (.refl _)) (λd1=>⟨b0,o0,e0,aC,aC,s0,.imm (by simpa using r0),hT.ok (if_pos ⟨hr3.1 (by simpa using d2),?_⟩) (.refl _) i0⟩)⟩)⟩
 .have e:a=b:=e.1;rw[hr3.2 e]at d2;cases d2
 .rw[hr2.2 ⟨_,_,_,_,_,_,_,_,_,rfl,e.2⟩]at d1;cases d1
 .obtain⟨_,_,_,_,_,_,_,_,_,e,hh⟩:=hr2.1 (by simpa using d1);cases e;exact hh
end
end Go.Ps
