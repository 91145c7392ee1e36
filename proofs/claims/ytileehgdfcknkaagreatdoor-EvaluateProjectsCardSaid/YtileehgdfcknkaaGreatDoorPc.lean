/-
  Part 3 of a proof that a law of the given program returns true: a condition generator that is proved sound, and contracts of functions. No condition of its own. Own work, joined by a program (pack2.py).
-/
import Derived.Test.YtileehgdfcknkaaGreatDoorPb
set_option linter.unusedVariables false
set_option linter.unusedSimpArgs false
namespace Go.Ps
open Go Go.Vc Go.Proofs
variable{K:CV->MH->PH->Prop}{m:MH}{h:PH}{ps:List Int}{cb:Nat}{sc:bX}{v:QV}{q:Query}{p:Pred}{l:List Int}{i:Nat}{N:Nat}{m':MH}{h':PH}{co:List Int}{gr:List Int}{od:List (Int×Bool)}{w:Pred}{ta:Int}{li:Int}{xs:List (List Value)}{sz:Nat}{k:Nat}{ks:List (List Int)}{rs:List Int}{r:Sl}{a:List Int}{b:Nat}
structure Ref where
 columns:List Int
 table:Int
structure uK where
 name:ByteArray
 columns:List lS
 key:Int
 refs:List Ref
 checks:List Pred
structure nY where
 version:Int
 tables:List uK
variable{s:nY}
structure Nk(h:PH)(r:Ref)(v:BC):Prop where
 columns:Ints h v.columns r.columns
 table:v.table=r.table
def BE(h:PH)(s:Sl)(l:List lS):Prop:=bY h 2 lS.enc Eq s l
structure GR(h:PH)(t:uK)(v:bP):Prop where
 name:v.name=t.name
 columns:BE h v.columns t.columns
 key:v.key=t.key
 refs:bY h 2 BC.enc (Nk h) v.references t.refs
 checks:Cr h v.checks t.checks
structure fQ(h:PH)(s:nY)(v:bX):Prop where
 version:v.version=s.version
 tables:bY h 5 bP.enc (GR h) v.tables s.tables
theorem Nk.mono{r:Ref}{v:BC}(x:Nk h r v)(le:PH.le h h'):Nk h' r v:=⟨x.columns.mono le,x.table⟩
theorem GR.mono{t:uK}{v:bP}(x:GR h t v)(le:PH.le h h'):GR h' t v:=
 ⟨x.name,bY.mono x.columns le λ_ _ e=>e,x.key,x.refs.mono le λ_ _ e=>e.mono le,x.checks.mono le⟩
theorem fQ.mono{v:bX}(x:fQ h s v)(le:PH.le h h'):fQ h' s v:=⟨x.version,x.tables.mono le λ_ _ e=>e.mono le⟩
def lower(c:Nat):Bool:=97<=c&&c<=122
def rX(c:Nat):Bool:=lower c||(48<=c&&c<=57)||c==95
def lX(s:ByteArray):List Nat:=s.data.toList.map UInt8.toNat
def lL(s:ByteArray):Bool:=1<=s.size&&s.size<=32&&lower ((lX s).headD 0)&&(lX s).all rX
theorem LP(s:ByteArray):(lX s).length=s.size:=by simp[lX]
theorem UC{s:ByteArray}{c:Nat}(h:(lX s)[i]? =some c):(s.get! i).toNat=c/\c<256:=by
 simp only[lX,List.getElem?_map,Option.map_eq_some_iff]at h;obtain⟨b,hb,rfl⟩:=h;refine⟨?_,b.toNat_lt⟩
 have hi:i<s.data.size:=by
  have:=(List.getElem?_eq_some_iff.1 hb).1;simpa using this
 have:s.data[i]? =some b:=by simpa using hb
 cases s with
 |mk bs=>
  show(bs[i]!).toNat=b.toNat;rw[getElem!_def,this]
theorem GK{s:ByteArray}(h:(s.get! i).toNat<128):Utf8.decode s i=((s.get! i).toNat,1):=by
 simp only[Utf8.decode,Nat.add_zero];rw[if_pos h]
theorem UB{s:ByteArray}(h:¬(s.get! i).toNat<128):128<=(Utf8.decode s i).1:=by
 simp only[Utf8.decode,Nat.add_zero];rw[if_neg h]
 repeat' split
 all_goals simp_all [Utf8.runeError]
 all_goals omega
def M5(s:ByteArray):CV:=.val (.string s)
def Td:Vc.Spec:=λcvs m h K=>∃s,cvs=[M5 s]/\K (cB (lL s)) m h
noncomputable def VS(s:ByteArray)(m:MH)(h:PH):Ctx:=
 ctx [] [(4,{A:=Nat×Nat×MH,st:=λx=>cJ 44 45 [(15,vv (.pointer (some ⟨x.2.1,0,none⟩)))] [] x.2.2 h,inv:=λx=>x.1<=s.size/\cE m h x.2.1/\jH m x.2.2 x.2.1 (.stringIter s x.1)/\(x.1=0\/lower ((lX s).headD 0)=true)/\((lX s).take x.1).all rX=true,mu:=λx=>s.size-x.1})] [] [] false
noncomputable def VX(s:ByteArray)(m:MH)(h:PH):Ctx:=
 ctx [] [B6 4 (λi=>cJ 50 51 [(0,vv (.string s)),(3,iv i)] [] m h) (λi=>i<=s.size/\((lX s).take i).all rX=true) (λi=>s.size-i)] [] [] false
abbrev MA(a b:(Nat×Nat×MH)->Prop):Prop:=(∃(x:Nat×Nat×MH),a x)/\∀(x:Nat×Nat×MH),b x
abbrev pJ(a b c:Prop)(d e:Nat->Nat->Option Value):Prop:=aA a b (aA c (d=e) True)
noncomputable abbrev iQ(a:Nat×Nat×MH):Nat:=a.2.1
noncomputable abbrev fV(a:Nat×Nat×MH):Nat->Option Obj:=a.2.2
abbrev xP(a:Nat×Nat×MH)(b:ByteArray)(c:MH)(d:PH):Prop:=aA (a.1<=b.size) (cE c d (iQ a)) (aA (jH c (fV a) (iQ a) (Obj.stringIter b a.1)) (a.1=0\/dX (lower (List.headD (lX b) 0))) (dX (List.all (List.take a.1 (lX b)) rX)))
abbrev cV(a b:Nat):Prop:=UZ a 0=UZ b 0
noncomputable abbrev AA(a:ByteArray)(b:Nat):Nat:=(Utf8.decode a b).1
abbrev wB(a:ByteArray)(b c:Nat):Prop:=a.size-b<a.size-c
abbrev CG(a:(Nat×Nat×MH)->Prop)(b:ByteArray)(c:Nat×Nat×MH)(d:MH)(e:PH):Prop:=∃(x:Nat×Nat×MH),aA (a x) (wB b x.1 c.1) (aA (cV (iQ c) (iQ x)) (d=fV x) (bT e e))
attribute [push_cast] MA pJ iQ fV xP cV AA wB CG
def GC(s:ByteArray)(m:MH)(h:PH)(K:CV->MH->PH->Prop):Prop:=
  bA (↑s.size:Int) 1 (K aY m h) (dV (↑s.size:Int) 32 (K aY m h) (∀(b:Nat)(m1:MH),aU (cE m h b) (jH m m1 b (Obj.stringIter s 0)) (MA (λx=>pJ (xP x s m h) (cV b (iQ x)) (m1=fV x) h h) (λx=>xP x s m h->∃(s1:ByteArray)(p:Nat),aA (tY (fV x) (iQ x) (Obj.stringIter s1 p)) (s1.size<=p->K fO (fV x) h) (p<s1.size->∀(m2:MH),jH (fV x) m2 (iQ x) (Obj.stringIter s1 (p+(Utf8.decode s1 p).2))->cW (decide ((↑(AA s1 p):Int)>=97)) (gM (decide ((↑(AA s1 p):Int)<=122)) (cW ((↑p:Int)==0) (K aY m2 h) ((↑(AA s1 p):Int) !=95) (bA (↑(AA s1 p):Int) 48 (K aY m2 h) (dV (↑(AA s1 p):Int) 57 (K aY m2 h) (CG (λy=>xP y s m h) s x m2 h))) (CG (λy=>xP y s m h) s x m2 h)) (CG (λy=>xP y s m
 h) s x m2 h)) ((↑p:Int)==0) (K aY m2 h) (eA (↑(AA s1 p):Int) 95 (bA (↑(AA s1 p):Int) 48 (K aY m2 h) (dV (↑(AA s1 p):Int) 57 (K aY m2 h) (CG (λy=>xP y s m h) s x m2 h))) (CG (λy=>xP y s m h) s x m2 h)))))))
abbrev HM(a:Prop)(b:ByteArray)(c:Nat)(d:UInt8->UInt8)(e:UInt8->Prop):Prop:=a/\∃(x:UInt8),b.data.toList[c]? =Option.some (d x)/\e x
noncomputable abbrev wU(a:UInt8):Int:=(↑a.toNat:Int)
abbrev tE(a:Nat)(b:ByteArray):Prop:=a<=b.size/\dX (List.all (List.take a (lX b)) rX)
noncomputable abbrev sJ(a:Nat):Nat:=(↑a:Int).toNat
attribute [push_cast] HM wU tE sJ
def LF(s:ByteArray)(m:MH)(h:PH)(K:CV->MH->PH->Prop):Prop:=
  cW ((↑s.size:Int)==0) (K aY m h) (decide ((↑s.size:Int)>32)) (K aY m h) (HM (cD 0) s 0 (λb=>b) (λb=>bA (↑b.toNat:Int) 97 (K aY m h) (HM (cD 0) s 0 (λb1=>b1) (λb1=>dV (wU b1) 122 (K aY m h) (jT (∃(x:Nat),aA (tE x s) (eQ (SV.at (Nb s))) (aA (bE x) (m=m) (bT h h))) (λx=>tE x s->bA (↑x:Int) (↑s.size:Int) (HM (cD (↑x:Int)) s (sJ x) (λb2=>b2) (λb2=>bA (↑b2.toNat:Int) 97 (bA (↑b2.toNat:Int) 48 (iF (wU b2 !=95) (K aY m h) (λy=>aA (tE y s) (wB s y x) (aA (eQ (SV.at (Nb s))) (fY (aT ((↑x:Int)+1))=bZ y) (cA (m=m) h h)))) (dV (wU b2) 57 (iF (wU b2 !=95) (K aY m h) (λy=>aA (tE y s) (wB s y x) (aA (eQ (SV.at (Nb s))) (fY (aT ((↑x:Int)+1))=bZ y)
 (cA (m=m) h h)))) (∃(y:Nat),aA (tE y s) (wB s y x) (aA (eQ (SV.at (Nb s))) (fY (aT ((↑x:Int)+1))=bZ y) (cA (m=m) h h))))) (dV (wU b2) 122 (bA (↑b2.toNat:Int) 48 (iF (wU b2 !=95) (K aY m h) (λy=>aA (tE y s) (wB s y x) (aA (eQ (SV.at (Nb s))) (fY (aT ((↑x:Int)+1))=bZ y) (cA (m=m) h h)))) (dV (wU b2) 57 (iF (wU b2 !=95) (K aY m h) (λy=>aA (tE y s) (wB s y x) (aA (eQ (SV.at (Nb s))) (fY (aT ((↑x:Int)+1))=bZ y) (cA (m=m) h h)))) (∃(y:Nat),aA (tE y s) (wB s y x) (aA (eQ (SV.at (Nb s))) (fY (aT ((↑x:Int)+1))=bZ y) (cA (m=m) h h))))) (∃(y:Nat),aA (tE y s) (wB s y x) (aA (eQ (SV.at (Nb s))) (fY (aT ((↑x:Int)+1))=bZ y) (cA (m=m) h h)))))) (K fO m h)))))))
def j9(h:PH)(K:CV->MH->PH->Prop):CV->MH->PH->Prop:=λr m' h'=>∃m2 h2,(∀b o,m2 b=some o->m' b=some o)/\PH.le h h2/\PH.le h2 h'/\K r m2 h2
theorem j9.here{r:CV}(hK:K r m h):j9 h K r m h:=⟨m,h,λ_ _ e=>e,.refl _,.refl _,hK⟩
theorem j9.sub{r:CV}(hm:∀b o,m b=some o->m' b=some o)(hK:K r m h):j9 h K r m' h:=⟨m,h,hm,.refl _,.refl _,hK⟩
theorem jH.keeps{o:Obj}(hb:cE m h b)(hu:jH m m' b o):∀b o,m b=some o->m' b=some o:=λb' o' e=>by
 have hne:b'≠b:=λe'=>by rw[e',hb.m_]at e;cases e
 rw[hu.other b' hne,e]
theorem Rk:Sound Tryz.prog 135 Td:=by
 refine Fg Tryz.func135 ?_;rintro cvs m h K ⟨s,rfl,hK⟩;refine⟨VS s m h,rfl,aF,GC s m h (j9 h K),by kernel_rfl,?_⟩;show GC s m h (j9 h K);dsimp only[GC,push_cast];have hl:=LP s;refine aE (λh1=>?_) (λh1=>aE (λh2=>?_) (λh2 b m1 hb hm1=>?_))
 .refine .here (gL hK ?_);have:¬1<=s.size:=by omega
  simp[lL,this]
 .refine .here (gL hK ?_);have:¬s.size<=32:=by omega
  simp[lL,this]
 refine⟨⟨(0,b,m1),⟨by simp,hb,hm1,.inl rfl,by simp⟩,MT⟩,?_⟩;rintro⟨pos,b,mx⟩ ⟨hp,hb,hmx,hhead,hall⟩;simp only at hp hb hmx hhead hall;refine⟨s,pos,⟨hmx.at_⟩,λhge=>?_,λhlt m2 hm2=>?_⟩
 .refine .sub (jH.keeps hb hmx) (gL hK ?_);rw[List.take_of_length_le aC]at hall
  have h3:lower ((lX s).headD 0)=true:=by
   rcases hhead with e|e
   .omega
   .exact e
  have h1':1<=s.size:=by omega
  have h2':s.size<=32:=by omega
  simp only[lL,hall,h3,decide_eq_true h1',decide_eq_true h2'];rfl
 .have hm3:=hmx.trans hm2;obtain⟨c,hc⟩:∃c,(lX s)[pos]? =some c:=⟨(lX s)[pos]'(by omega),List.getElem?_eq_getElem _⟩
  obtain⟨hg,hc256⟩:=UC hc
  have hhd:pos=0->(lX s).headD 0=c:=λe=>by
   subst e;cases hcs:lX s with
   |nil=>rw[hcs]at hc;simp at hc
   |cons x l=>rw[hcs]at hc;simp at hc;simpa using hc
  have stop:¬((97<=(Utf8.decode s pos).1/\(Utf8.decode s pos).1<=122)\/(pos≠0/\((Utf8.decode s pos).1=95\/(48<=(Utf8.decode s pos).1/\(Utf8.decode s pos).1<=57))))->j9 h K (.val (.bool false)) m2 h:=by
   intro hn;refine .sub (jH.keeps hb hm3) (gL hK ?_);by_cases hlo:(s.get! pos).toNat<128
   .rw[GK hlo,hg]at hn;by_cases hp0:pos=0
    .have:lower c=false:=by
      simp only[lower,Bool.and_eq_false_iff,decide_eq_false_iff_not];simp only at hn;omega
     simp only[lL,hhd hp0,this,Bool.and_false,Bool.false_and]
    .have:rX c=false:=by
      simp only[rX,lower,Bool.or_eq_false_iff,Bool.and_eq_false_iff,decide_eq_false_iff_not,beq_eq_false_iff_ne];simp only at hn;omega
     simp[lL,yS hc this]
   .have:rX c=false:=by
     simp only[rX,lower,Bool.or_eq_false_iff,Bool.and_eq_false_iff,decide_eq_false_iff_not,beq_eq_false_iff_ne];omega
    simp[lL,yS hc this]
  have go:((97<=(Utf8.decode s pos).1/\(Utf8.decode s pos).1<=122)\/(pos≠0/\((Utf8.decode s pos).1=95\/(48<=(Utf8.decode s pos).1/\(Utf8.decode s pos).1<=57))))->pos+1<=s.size/\jH m m2 b (.stringIter s (pos+1))/\lower ((lX s).headD 0)=true/\((lX s).take (pos+1)).all rX=true:=by
   intro hy
   have hlo:(s.get! pos).toNat<128:=by
    refine Decidable.byContradiction λhlo=>?_;have:=UB hlo;omega
   rw[GK hlo]at hm3;rw[GK hlo,hg]at hy;simp only at hy;refine⟨aC,hm3,?_,?_⟩
   .rcases hhead with e|e
    .rw[hhd e];simp only[lower,Bool.and_eq_true,decide_eq_true_eq];omega
    .exact e
   .rw[xG hc,hall];simp only[rX,lower,Bool.true_and,Bool.or_eq_true,Bool.and_eq_true,decide_eq_true_eq,beq_iff_eq];omega
  have next:((97<=(Utf8.decode s pos).1/\(Utf8.decode s pos).1<=122)\/(pos≠0/\((Utf8.decode s pos).1=95\/(48<=(Utf8.decode s pos).1/\(Utf8.decode s pos).1<=57))))->_:=λhy=>(⟨(pos+1,b,m2),⟨(go hy).1,hb,(go hy).2.1,.inr (go hy).2.2.1,(go hy).2.2.2⟩,by show s.size-(pos+1)<s.size-pos;omega,MT⟩:∃(y:Nat×Nat×MH),(y.fst<=s.size/\cE m h y.snd.fst/\jH m y.snd.2 y.snd.fst (Obj.stringIter s y.fst)/\(y.fst=0\/lower ((lX s).headD 0)=true)/\(List.take y.fst (lX s)).all rX=true)/\s.size-y.fst<s.size-pos/\SV.at (At.val (Value.pointer (some (Addr.mk b 0 none))))=SV.at (At.val (Value.pointer (some (Addr.mk y.snd.fst 0 none))))/\m2=y.snd.2/\h=h/\True)
  clear go hm3 hm2 hall hhead hhd hmx hm1 hK
  repeat' (first|(refine aB (λ_=>?_) (λ_=>?_))|exact stop (by simp only[decide_eq_true_eq,decide_eq_false_iff_not,bne_iff_ne,ne_eq,beq_iff_eq,beq_eq_false_iff_ne,bne_eq_false_iff_eq,Bool.not_eq_true',Bool.not_eq_false']at*;omega)|exact next (by simp only[decide_eq_true_eq,decide_eq_false_iff_not,bne_iff_ne,ne_eq,beq_iff_eq,beq_eq_false_iff_ne,bne_eq_false_iff_eq,Bool.not_eq_true',Bool.not_eq_false']at*;omega))
theorem Rt:Sound Tryz.prog 122 Td:=by
 refine hX Tryz.func122 ?_;rintro cvs m h K ⟨s,rfl,hK⟩;refine⟨VX s m h,rfl,aF,LF s m h K,by kernel_rfl,?_⟩;dsimp only[LF,push_cast];have hl:=LP s;refine aB (λh1=>gL hK ?_) (λh1=>aE (λh2=>gL hK ?_) (λh2=>?_))
 .have:¬1<=s.size:=by have:(s.size:Int)=0:=(by simpa using h1);omega
  simp[lL,this]
 .have:¬s.size<=32:=by omega
  simp[lL,this]
 have h1:s.size≠0:=by intro e;rw[e]at h1;simp at h1
 obtain⟨c0,hc0⟩:∃c,s.data.toList[0]? =some c:=⟨s.data.toList[0]'(by simpa using(by omega:0<s.size)),List.getElem?_eq_getElem _⟩
 have hhd:(lX s).headD 0=c0.toNat:=by
  unfold lX;cases hcs:s.data.toList with
  |nil=>rw[hcs]at hc0;simp at hc0
  |cons x l=>rw[hcs]at hc0;simp at hc0;simp[hc0]
 refine⟨aC,c0,hc0,aE (λh3=>gL hK ?_) (λh3=>⟨aC,c0,hc0,aE (λh4=>gL hK ?_) (λh4=>?_)⟩)⟩
 .have:lower c0.toNat=false:=by simp only[lower,Bool.and_eq_false_iff,decide_eq_false_iff_not];omega
  simp only[lL,hhd,this,Bool.and_false,Bool.false_and]
 .have:lower c0.toNat=false:=by simp only[lower,Bool.and_eq_false_iff,decide_eq_false_iff_not];omega
  simp only[lL,hhd,this,Bool.and_false,Bool.false_and]
 refine⟨⟨0,⟨aC,by simp⟩,MT⟩,λi hi=>aE (λhlt=>?_) (λhge=>gL hK ?_)⟩
 .obtain⟨c,hc⟩:∃c,s.data.toList[i]? =some c:=⟨s.data.toList[i]'(by simpa using(by omega:i<s.size)),List.getElem?_eq_getElem _⟩
  have hcc:(lX s)[i]? =some c.toNat:=by simp[lX,hc]
  have stop:rX c.toNat=false->K (.val (.bool false)) m h:=λe=>gL hK (by simp[lL,yS hcc e]);have next:rX c.toNat=true->∃(y:Nat),(y<=s.size/\(List.take y (lX s)).all rX=true)/\s.size-y<s.size-i/\SV.at (At.val (Value.string s))=SV.at (At.val (Value.string s))/\SV.at (At.val (Value.int IntKind.i64 (IntKind.i64.wrap ((i:Int)+1))))=SV.at (At.val (Value.int IntKind.i64 (y:Int)))/\m=m/\h=h/\True:=λe=>⟨i+1,⟨aC,by rw[xG hcc,hi.2,e];rfl⟩,aC,MT⟩
  have hn:rX c.toNat=true↔(97<=c.toNat/\c.toNat<=122)\/(48<=c.toNat/\c.toNat<=57)\/c.toNat=95:=by
   simp only[rX,lower,Bool.or_eq_true,Bool.and_eq_true,decide_eq_true_eq,beq_iff_eq];omega
  have hn':rX c.toNat=false↔¬((97<=c.toNat/\c.toNat<=122)\/(48<=c.toNat/\c.toNat<=57)\/c.toNat=95):=by
   rw[<-hn];simp
  refine⟨aC,c,by simpa using hc,?_⟩;clear hK hi hhd hcc hn';rw[hn]at next
  have stop:=λe=>stop (by rw[<-Bool.not_eq_true,hn];exact e);clear hn
  repeat' (first|(refine aB (λ_=>?_) (λ_=>?_))|exact stop (by simp only[decide_eq_true_eq,decide_eq_false_iff_not,bne_iff_ne,ne_eq,beq_iff_eq,beq_eq_false_iff_ne,bne_eq_false_iff_eq,Bool.not_eq_true',Bool.not_eq_false']at*;omega)|exact next (by simp only[decide_eq_true_eq,decide_eq_false_iff_not,bne_iff_ne,ne_eq,beq_iff_eq,beq_eq_false_iff_ne,bne_eq_false_iff_eq,Bool.not_eq_true',Bool.not_eq_false']at*;omega))
 .have:=hi.2;rw[List.take_of_length_le aC]at this;have h5:lower c0.toNat=true:=by simp only[lower,Bool.and_eq_true,decide_eq_true_eq];omega
  have h1':1<=s.size:=by omega
  have h2':s.size<=32:=by omega
  simp only[lL,this,hhd,h5,decide_eq_true h1',decide_eq_true h2'];rfl
theorem Mg:Tryz.prog.underlying 9=some .string:=by kernel_rfl
theorem Al:KeyLaw Tryz.prog 9 (λv=>∃s,v= .string s):=by
 refine⟨⟨_,Mg⟩,?_,?_,?_⟩
 .rintro _ w b ⟨s,rfl⟩
  have e:∀n:Nat,(Instr.checkKey b (n+1) 9 (.string s)).run Tryz.prog w= .ok () w:=λn=>by
   unfold Instr.checkKey;simp only[Sem.run_bind,run_underlying Mg,Result.andThen];simp
  exact e 9999
 .rintro _ _ w ⟨s,rfl⟩ ⟨t,rfl⟩;refine⟨_,run_equalIn_string w 9999 9 s t Mg,?_⟩;rw[beq_iff_eq];exact⟨λe=>by rw[wN e],λe=>by injection e with e;rw[e]⟩
 .rintro d _ _ r hd ⟨s,rfl⟩ ⟨t,rfl⟩ h;rw[Mg]at hd;cases hd;simp only[Instr.sameNow,Option.some.injEq]at h;subst h;rw[beq_toListBytes,beq_iff_eq];exact⟨λe=>by rw[wN e],λe=>by injection e with e;rw[e]⟩
def eJ{α:Type}(T:List α->α->Prop)(l:List α)(i:Nat):Prop:=∀j x,j<i->l[j]? =some x->T (l.take j) x
def Good{α:Type}(T:List α->α->Prop)(l:List α):Prop:=∀(j:Nat) x,l[j]? =some x->T (l.take j) x
theorem eJ.zero{α:Type}{T:List α->α->Prop}{l:List α}:eJ T l 0:=λ_ _ h=>by omega
theorem eJ.succ{α:Type}{T:List α->α->Prop}{l:List α}{x:α}(h:eJ T l i)(hx:l[i]? =some x)(t:T (l.take i) x):eJ T l (i+1):=by
 intro j y hj hy;by_cases e:j=i
 .subst e;rw[hx]at hy;cases hy;exact t
 .exact h j y aC hy
theorem eJ.all{α:Type}{T:List α->α->Prop}{l:List α}(h:eJ T l i)(hi:l.length<=i):Good T l:=λj x hx=>h j x (by have:=(List.getElem?_eq_some_iff.1 hx).1;omega) hx
theorem Good.not{α:Type}{T:List α->α->Prop}{l:List α}{x:α}(hx:l[i]? =some x)(t:¬T (l.take i) x):¬Good T l:=λh=>t (h i x hx)
def PU(pre:List lS)(c:lS):Prop:=lL c.name=true/\dO c.kind=true/\c.name∉pre.map lS.name
def Aa(pre:List uK)(t:uK):Prop:=lL t.name=true/\1<=t.key/\t.key<=t.columns.length/\t.name∉pre.map uK.name/\Good PU t.columns
def gT(s:nY)(t:Int):List Int:=if t<0 then[]else match s.tables[t.toNat]? with|none=>[]|some t=>t.columns.map lS.kind
def sR(s:nY)(t:Int):Bool:=decide (0<=t)&&decide (t<s.tables.length)
def aS(v:bX):CV:=.val (.agg ⟨v.enc⟩)
def mS(s:nY):Prop:=∀t∈s.tables,t.columns.length<=8
def Y3:Vc.Spec:=λcvs m h K=>∃v s t,cvs=[aS v,cI t]/\fQ h s v/\K (cB (sR s t)) m h
def uM:Vc.Spec:=λcvs m h K=>∃v s t,cvs=[aS v,cI t]/\fQ h s v/\mS s/\∀sl h',PH.le h h'->Ints h' sl (gT s t)->K (cS sl) m h'
noncomputable def MX(m:MH)(h:PH):Ctx:=
 dN [] [(5,{A:=Nat×Sl×List Int,st:=λx=>cJ 35 37 [(5,.at (.lst 32)),(22,sv x.2.1),(23,iv x.2.1.len),(24,iv x.1)] [(32,.lst 3 1 (x.2.2.map eI))] m h})] [] [] false
noncomputable def Xm(m:MH)(h:PH):Ctx:=
 dN [(104,Y3)] [(5,{A:=Nat×Sl×List Int,st:=λx=>cJ 38 40 [(5,.at (.lst 19)),(25,sv x.2.1),(26,iv x.2.1.len),(27,iv x.1)] [(19,.lst 3 1 (x.2.2.map eI))] m h})] [] [] false
noncomputable abbrev gO(a:bX):Int:=aG a.tables
attribute [push_cast] gO
def LK(v:bX)(t:Int)(m:MH)(h:PH)(K:CV->MH->PH->Prop):Prop:=
  fW t 0 (K (Ag (decide (t<gO v))) m h) (K aY m h)
noncomputable abbrev oU(a:bX):Option Addr:=a.tables.a
noncomputable abbrev aR(a:Sl):List Value:=iC (dT a)
abbrev HU(a:bX)(b c:Int)(d:MH)(e:PH)(g i:Nat->Nat)(j:Nat)(k:Sl->Sl)(l:Sl->(Nat×Sl×List Int->Prop)->(Nat×Sl×List Int)->Prop)(n:(Nat×Sl×List Int->Prop)->(Nat×Sl×List Int->Nat)->(Nat×Sl×List Int)->Prop):Prop:=aW (λx x1=>aH (aX (oU a) x x1) (b<=c) (c<aG a.tables) (∃(x2:Sl),aM d e (g x) (fR (i x1) c j+1) (aR (k x2))/\∃(x3:Nat×Sl×List Int->Prop)(x4:Nat×Sl×List Int->Nat),(∃(x5:Nat×Sl×List Int),l x2 x3 x5)/\∀(x5:Nat×Sl×List Int),n x3 x4 x5))
abbrev bF(a b:Sl):Prop:=WQ a=WQ b
noncomputable abbrev kD(a:Nat×Sl×List Int):Sl:=a.2.1
abbrev cO(a b:Sl):Prop:=bZ a.len=bZ b.len
noncomputable abbrev cR(a b:Nat)(c:List (List Value)):Option Own:=Option.some (Own.lst a b c)
abbrev qW(a b:Nat)(c:Option Own):Prop:=cR a b []=c
noncomputable abbrev mY(a:List Int):Option Own:=cR 3 1 (List.map eI a)
abbrev nG(a:List Int):Prop:=qW 3 1 (mY a)
noncomputable abbrev pT(a:Nat×Sl×List Int):List Int:=a.2.2
abbrev gK(a:Nat):Prop:=a<=140737488355328
noncomputable abbrev eF(a:List Int):List (List Value):=List.map eI a
abbrev xQ(a:List Int):Prop:=gK (((eF a).length+1)*8)
abbrev gS(a:List (List Value)):Prop:=a.length<140737488355328
abbrev HT(a:Prop)(b:Nat×Sl×List Int)(c:Int)(d:Nat->Nat->lS->Prop)(e:lS->(Nat×Sl×List Int)->Prop)(g:Prop):Prop:=a->bA (↑b.1:Int) (aG (kD b)) (aW (λx x1=>aH (aX (kD b).a x x1) (c<=(↑b.1:Int)) ((↑b.1:Int)<aG (kD b)) (∃(x2:lS),aH (d x x1 x2) (xQ (pT b)) (gS (eF (pT b))) (∃(x3:Nat×Sl×List Int),e x2 x3)))) g
noncomputable abbrev nP(a:ByteArray)(b:Int):List Value:=jJ (Value.string a) (dY b)
noncomputable abbrev eX(a:List Value):List (List Value):=[a]
noncomputable abbrev eB(a:List (List Value))(b:List Value):List (List Value):=a++eX b
abbrev nH(a:List Int)(b:Int)(c:List Int):Prop:=cR 3 1 (eB (eF a) (bN b))=mY c
abbrev lC(a:Sl->PH->Prop):Prop:=∀(x:Sl)(x1:PH),a x x1
abbrev dK(a b:PH)(c d:Prop):Prop:=aU (PH.le a b) c d
abbrev bM(a:PH)(b:Nat)(c:List (List Value))(d:Sl->PH->Prop):Prop:=lC (λx x1=>dK a x1 (cN x1 x b c) (d x x1))
attribute [push_cast] oU aR HU bF kD cO cR qW mY nG pT gK eF xQ gS HT nP eX eB nH lC dK bM
def O1(v:bX)(t:Int)(m:MH)(h:PH)(K:CV->MH->PH->Prop):Prop:=
  bA t 0 (K lU m h) (fW t (gO v) (K lU m h) (HU v 0 t m h (λb=>b) (λo=>o) 5 (λy=>y) (λy I x=>aA (I x) (eL 32) (aA (bF y (kD x)) (cO y (kD x)) (aA (bE x.1) (nG (pT x)) (aA (m=m) (h=h) True)))) (λI m1 x=>HT (I x) x 0 (λb o y=>aM m h b (bL o x.1 2) (nP y.name y.kind)) (λy x1=>aA (I x1) (m1 x1<m1 x) (aA (eL 32) (bF (kD x) (kD x1)) (aA (cO (kD x) (kD x1)) (fY (aT ((↑x.1:Int)+1))=bZ x1.1) (aA (nH (pT x) y.kind (pT x1)) (m=m) (bT h h))))) (bM h 1 (eF (pT x)) (λs h1=>K (pD s) m h1)))))
abbrev iU(a:bX->nY->Prop):Prop:=∃(x:bX)(x1:nY),a x x1
noncomputable abbrev rZ(a:bX):Value:=dY a.version
noncomputable abbrev rY(a:bX):Value:=dT a.tables
noncomputable abbrev bI(a:bX):List Value:=jJ (rZ a) (rY a)
abbrev p5(a:Int):Prop:=a<=281474976710656
attribute [push_cast] iU rZ rY bI p5
def OP(v:bX)(t:Int)(m:MH)(h:PH)(K:CV->MH->PH->Prop):Prop:=
  iU (λv1 s=>∃(t1:Int),aA (bD (jI (bI v)) t=bD (jI (bI v1)) t1) (fQ h s v1) (gM (sR s t1) (K lU m h) (aW (λb o=>aH (aX (oU v) b o) (0<=t) (t<aG v.tables) (∃(y:Sl),aA (aM m h b (fR o t 5+1) (aR y)) (cD 0) (aA (cD (aG y)) (p5 (aG y*8)) (p5 (aG y)/\HU v 0 t m h (λb1=>b1) (λo1=>o1) 5 (λy1=>y1) (λy1 I x=>aA (I x) (eL 19) (aA (bF y1 (kD x)) (cO y1 (kD x)) (aA (bE x.1) (nG (pT x)) (aA (m=m) (h=h) True)))) (λI m1 x=>HT (I x) x 0 (λb1 o1 y1=>aM m h b1 (bL o1 x.1 2) (nP y1.name y1.kind)) (λy1 x1=>aA (I x1) (m1 x1<m1 x) (aA (eL 19) (bF (kD x) (kD x1)) (aA (cO (kD x) (kD x1)) (fY (aT ((↑x.1:Int)+1))=bZ x1.1) (aA (nH (pT x) y1.kind (pT
 x1)) (m=m) (bT h h))))) (bM h 1 (eF (pT x)) (λs1 h1=>K (pD s1) m h1))))))))))
theorem aZ.part{o:Nat}{l:List Value}(r:aZ h b o l)(k n:Nat):aZ h b (o+k) ((l.drop k).take n):=
 ⟨λi v e=>by
  have:l[k+i]? =some v:=by
   rw[List.getElem?_take]at e;split at e
   .rwa [List.getElem?_drop]at e
   .cases e
  have:=r.rd (k+i) v this
  rwa [<-Nat.add_assoc]at this⟩
theorem BE.at{s:Sl}{l:List lS}(r:BE h s l){x:lS}(hi:l[i]? =some x):∃b o,s.a=some ⟨b,o,none⟩/\aZ h b (o+i*2) (lS.enc x):=by
 obtain⟨b,o,v,e,k,rfl⟩:=bY.at r hi;exact⟨b,o,e,k⟩
theorem B8{t:Int}(h:¬(0<=t/\t<s.tables.length)):gT s t=[]:=by
 unfold gT;split
 .rfl
 .rw[List.getElem?_eq_none aC]
theorem Hc{t:Int}{x:uK}(h:0<=t)(hx:s.tables[t.toNat]? =some x):gT s t=x.columns.map lS.kind:=by
 unfold gT;rw[if_neg aC,hx]
theorem fQ.table{v:bX}(hs:fQ h s v){t:Int}(h0:0<=t)(h1:t<(v.tables.len:Int)):∃x b o w,s.tables[t.toNat]? =some x/\v.tables.a=some ⟨b,o,none⟩/\aZ h b (o+t.toNat*5) (bP.enc w)/\GR h x w:=by
 have hl:=hs.tables.slen;have hx:s.tables[t.toNat]? =some (s.tables[t.toNat]'(by omega)):=List.getElem?_eq_getElem _;obtain⟨b,o,w,e,r,k⟩:=hs.tables.at hx;exact⟨_,b,o,w,hx,e,r,k⟩
theorem fP{α β:Type}{f:α->β}{l:List α}{x:α}(hx:l[i]? =some x):(l.take (i+1)).map f=(l.take i).map f++[f x]:=by
 rw[List.take_add_one,hx];simp
theorem JL:Sound Tryz.prog 104 Y3:=by
 refine hX Tryz.func104 ?_;rintro cvs m h K ⟨v,s,t,rfl,hs,hK⟩;refine⟨dN [] [] [] [] false,rfl,aF,LK v t m h K,by kernel_rfl,?_⟩;dsimp only[LK,push_cast];have hl:=hs.tables.slen;refine aE (λh1=>gL hK ?_) (λh1=>gL hK ?_)
 .have h1:0<=t:=h1;simp only[sR,hl,decide_eq_true h1,Bool.true_and]
 .have h1:¬0<=t:=by omega
  simp only[sR,decide_eq_false h1,Bool.false_and]
theorem Da:Sound Tryz.prog 44 uM:=by
 refine hX Tryz.func44 ?_;rintro cvs m h K ⟨v,s,t,rfl,hs,h8,hK⟩;refine⟨MX m h,rfl,aF,O1 v t m h K,by kernel_rfl,?_⟩;dsimp only[O1,push_cast];have hl:=hs.tables.slen;have hnil:gT s t=[]->K (.val (.slice none 0 0)) m h:=λe=>hK ⟨none,0,0⟩ h (.refl _) (by rw[e];exact⟨.nil _ _,by simp⟩);refine aE (λh1=>hnil (B8 aC)) (λh1=>aE (λh2=>hnil (B8 aC)) (λh2=>?_));obtain⟨x,b,o,w,hx,ea,hr,hrep⟩:=hs.table (t:=t) aC aC;have hx8:=h8 x (List.mem_of_getElem? hx);have hcl:=bY.slen hrep.columns;rw[Hc aC hx]at hK;refine⟨b,o,ea,aC,aC,w.columns,.imm (aZ.part hr 1 1),λ⟨i,sl,l⟩=>sl=w.columns/\i<=x.columns.length/\l=(x.columns.take i).map lS.kind,λ⟨i,_,_⟩=>x.columns.length-i,⟨(0,w.columns,[]),⟨rfl,by simp,by simp⟩,MT⟩,?_⟩;rintro⟨i,_,_⟩ ⟨rfl,hi,rfl⟩;dsimp only;refine aE (λhlt=>?_) (λhge sl h' hle hrow=>?_)
 .obtain⟨c,hc⟩:=fJ hcl hlt;obtain⟨b,o,e,r⟩:=BE.at hrep.columns hc;refine⟨b,o,e,aC,hlt,c,.imm r,?_,?_,(i+1,w.columns,(x.columns.take (i+1)).map lS.kind),⟨rfl,aC,rfl⟩,by show x.columns.length-(i+1)<x.columns.length-i;omega,?_⟩
  .simp;omega
  .simp;omega
  .rw[fP hc,List.map_append];exact MT
 .rw[List.take_of_length_le aC]at hrow;exact hK sl h' hle ⟨hrow,by simp;omega⟩
theorem KY:Sound Tryz.prog 72 uM:=by
 refine hX Tryz.func72 ?_;rintro cvs m h K ⟨v,s,t,rfl,hs,h8,hK⟩;refine⟨Xm m h,rfl,aD JL aF,OP v t m h K,by kernel_rfl,?_⟩;dsimp only[OP,push_cast];have hl:=hs.tables.slen;have hnil:gT s t=[]->K (.val (.slice none 0 0)) m h:=λe=>hK ⟨none,0,0⟩ h (.refl _) (by rw[e];exact⟨.nil _ _,by simp⟩);refine⟨v,s,t,rfl,hs,aB (λh1=>hnil (B8 ?_)) (λh1=>?_)⟩
 .simp only[sR,Bool.not_eq_true',Bool.and_eq_false_iff,decide_eq_false_iff_not]at h1;omega
 simp only[sR,Bool.not_eq_false',Bool.and_eq_true,decide_eq_true_eq]at h1;obtain⟨x,b,o,w,hx,ea,hr,hrep⟩:=hs.table (t:=t) aC aC;have hx8:=h8 x (List.mem_of_getElem? hx);have hcl:=bY.slen hrep.columns;rw[Hc aC hx]at hK;refine⟨b,o,ea,aC,aC,w.columns,.imm (aZ.part hr 1 1),aC,aC,aC,aC,b,o,ea,aC,aC,w.columns,.imm (aZ.part hr 1 1),λ⟨i,sl,l⟩=>sl=w.columns/\i<=x.columns.length/\l=(x.columns.take i).map lS.kind,λ⟨i,_,_⟩=>x.columns.length-i,⟨(0,w.columns,[]),⟨rfl,by simp,by simp⟩,MT⟩,?_⟩;rintro⟨i,_,_⟩ ⟨rfl,hi,rfl⟩;dsimp only;refine aE (λhlt=>?_) (λhge sl h' hle hrow=>?_)
 .obtain⟨c,hc⟩:=fJ hcl hlt;obtain⟨b,o,e,r⟩:=BE.at hrep.columns hc;refine⟨b,o,e,aC,hlt,c,.imm r,?_,?_,(i+1,w.columns,(x.columns.take (i+1)).map lS.kind),⟨rfl,aC,rfl⟩,by show x.columns.length-(i+1)<x.columns.length-i;omega,?_⟩
  .simp;omega
  .simp;omega
  .rw[fP hc,List.map_append];exact MT
 .rw[List.take_of_length_le aC]at hrow;exact hK sl h' hle ⟨hrow,by simp;omega⟩
def Sub(m m':MH):Prop:=∀b o,m b=some o->m' b=some o
theorem Sub.refl(m:MH):Sub m m:=λ_ _ e=>e
theorem Sub.free(h:Sub m m')(hb:m' b=none):m b=none:=by
 cases e:m b with
 |none=>rfl
 |some o=>rw[h b o e]at hb;cases hb
theorem Sub.upd{mx:MH}(h:Sub m mx)(hb:m b=none)(ho:∀b',b'≠b->m' b'=mx b'):Sub m m':=λb' o e=>by
 have hne:b'≠b:=λe'=>by rw[e',hb]at e;cases e
 rw[ho b' hne,h b' o e]
def GS(m:MH)(b:Nat)(ns:List ByteArray):Prop:=yW m b (ns.map λn=>(.string n,.bool true))
theorem GS.other{b':Nat}{ns:List ByteArray}(h:GS m b ns)(hne:b≠b')(ho:∀c,c≠b'->m' c=m c):GS m' b ns:=by
 obtain⟨es,cl,h1,h2⟩:=h.ex;exact⟨es,cl,by rw[ho b hne,h1],h2⟩
def Ww:Vc.Spec:=λcvs m h K=>∃v s,cvs=[aS v]/\fQ h s v/\∀r:Bool,(r=true↔Good Aa s.tables)->K (cB r) m h
def Wi:Vc.Spec:=λcvs m h K=>∃v s t,∃i:Nat,cvs=[aS v,cI i]/\fQ h s v/\s.tables[i]? =some t/\∀r:Bool,(r=true↔Aa (s.tables.take i) t)->K (cB r) m h
noncomputable def V0(v:bX)(h:PH):Ctx:=
 dN [(135,Td)] [(3,{A:=Nat×Nat×MH,st:=λ⟨i,b1,mx⟩=>cJ 79 80 [(3,vv (.map (some b1))),(11,sv v.tables),(12,iv v.tables.len),(13,iv i)] [] mx h}),
  (10,{A:=Nat×Nat×Nat×Nat×Sl×MH,st:=λ⟨i,k,b1,b2,sl,mx⟩=>cJ 79 80 [(3,vv (.map (some b1))),(6,vv (.map (some b2))),(11,sv v.tables),(12,iv v.tables.len),(13,iv i),(45,sv sl),(46,iv sl.len),(47,iv k)] [] mx h})] [] [] false
noncomputable def Xe(v:bX)(i:Nat)(m:MH)(h:PH):Ctx:=
 dN [(122,Td),(93,Wy)] [(5,{A:=Nat×bP,st:=λ⟨k,w⟩=>cJ 94 96 [(1,iv i),(2,.at (.ptr 2 0)),(5,.at (.ptr 5 0)),(6,iv k)] [(2,.cells 43 (v.enc.map .val)),(5,.cells 86 (w.enc.map .val))] m h}),
  (10,{A:=Nat×bP,st:=λ⟨k,w⟩=>cJ 94 96 [(5,.at (.ptr 5 0)),(53,iv w.columns.len),(54,iv k)] [(5,.cells 86 (w.enc.map .val))] m h}),
  (15,{A:=Nat×Nat×bP,st:=λ⟨k,j,w⟩=>cJ 94 96 [(5,.at (.ptr 5 0)),(7,iv k),(8,iv j),(53,iv w.columns.len),(54,iv k)] [(5,.cells 86 (w.enc.map .val))] m h})] [] [] false
abbrev AR(a:MH)(b:PH)(c:Nat)(d:Nat->MH->Prop):Prop:=∀(x:Nat)(x1:MH),aU (cE a b x) (jH a x1 x (Obj.map (Array.mk []) c)) (d x x1)
noncomputable abbrev Bt(a:Nat):Value:=Value.map (Option.some a)
abbrev DY(a b:Nat):Prop:=SV.at (At.val (Bt a))=SV.at (At.val (Bt b))
abbrev kZ(a:bX):Prop:=aJ a.tables
abbrev gE(a:bX):Prop:=bJ a.tables
abbrev CD(a:Prop)(b:Nat)(c:bX)(d:Nat->Nat->bP->Prop)(e:Prop):Prop:=a->bA (↑b:Int) (aG c.tables) (aW (λx x1=>aH (aX (oU c) x x1) (0<=(↑b:Int)) ((↑b:Int)<aG c.tables) (∃(x2:bP),d x x1 x2))) e
noncomputable abbrev tS(a:bP):List Value:=aL (Value.string a.name) (dT a.columns) (aL (dY a.key) (dT a.references) (aR a.checks))
noncomputable abbrev iT(a:ByteArray):CV:=CV.val (Value.string a)
abbrev mC(a:CV->MH->PH->Prop)(b:Nat×Nat×MH)(c:PH):Prop:=a aY (fV b) c
abbrev pS(a:Value->Prop):Prop:=KeyLaw Proofs.Tryz.prog 9 a
abbrev HZ(a:MH)(b:Nat)(c:(Value->Prop)->Prop)(d:(List (Value×Bool))->(Value×Bool)->Prop)(e:Prop)(g:Value)(i:Prop):Prop:=∃(x:List (Value×Bool))(x1:Value->Prop),aA (yW a b (List.map (fun(x2:Value×Bool)=>(x2.1,Value.bool x2.2)) x)) (pS x1) (aA (c x1) (∀(x2:Value×Bool),List.Mem x2 x->x1 x2.1) (((∀(x2:Value×Bool),d x x2)->e)/\∀(x2:Bool),gQ (List.Mem (g,x2) x) x2 i e))
noncomputable abbrev C3(a:bP):Value:=Value.string a.name
abbrev nQ(a b:Prop):Prop:=aU a b False
noncomputable abbrev Av(a:bP):Int:=aG a.columns
abbrev uV(a:(List (Value×Value))->(Value->Prop)->Prop):Prop:=∃(x:List (Value×Value))(x1:Value->Prop),a x x1
abbrev uQ(a:Value×Value)(b:List (Value×Value))(c:Value->Prop):Prop:=List.Mem a b->c a.1
noncomputable abbrev kG(a b:Value)(c:List (Value×Value)):List (Value×Value):=(a,b)::c
noncomputable abbrev uT(a b:Value):List (Value×Value):=kG a b []
noncomputable abbrev zB:Value:=Value.bool true
abbrev MC(a:Nat->Option Obj)(b:Nat)(c:(Value->Prop)->Prop)(d:Value)(e:MH->Prop):Prop:=uV (λx x1=>aA (yW a b x) (pS x1) (aA (c x1) (∀(x2:Value×Value),uQ x2 x x1) ((∀(x2:Value×Value),nQ (List.Mem x2 x) (x2.1=d))/\∀(x2:MH),aU (iJ a x2 b) (yW x2 b (x++uT d zB)) (e x2))))
noncomputable abbrev F2(a:Nat×Nat×Nat×Nat×Sl×MH):Nat:=a.2.2.2.1
abbrev cF(a b:Nat):Prop:=bZ a=bZ b
noncomputable abbrev zD(a:Nat×Nat×Nat×Nat×Sl×MH):Sl:=a.2.2.2.2.1
noncomputable abbrev wZ(a:Nat×Nat×Nat×Nat×Sl×MH):Nat->Option Obj:=a.2.2.2.2.2
noncomputable abbrev F0(a:lS):Value:=Value.string a.name
abbrev Mz(a:lS)(b:Int)(c:Prop)(d:(Nat×Nat×Nat×Nat×Sl×MH)->Prop):Prop:=branch (a.kind !=b) c (∃(x:Nat×Nat×Nat×Nat×Sl×MH),d x)
abbrev H7(a b:Nat×Nat×Nat×Nat×Sl×MH):Prop:=DY a.2.2.1 b.2.2.1
abbrev H8(a b:Nat×Nat×Nat×Nat×Sl×MH):Prop:=DY (F2 a) (F2 b)
abbrev H9(a b:Nat×Nat×Nat×Nat×Sl×MH):Prop:=cF a.1 b.1
abbrev Ia(a b:Nat×Nat×Nat×Nat×Sl×MH):Prop:=bF (zD a) (zD b)
abbrev Ib(a b:Nat×Nat×Nat×Nat×Sl×MH):Prop:=cO (zD a) (zD b)
abbrev Ic(a b:Nat×Nat×Nat×Nat×Sl×MH):Prop:=fY (aT ((↑a.2.1:Int)+1))=bZ b.2.1
attribute [push_cast] AR Bt DY kZ gE CD tS iT mC pS HZ C3 nQ Av uV uQ kG uT zB MC F2 cF zD wZ F0 Mz H7 H8 H9 Ia Ib Ic
def GH(v:bX)(m:MH)(h:PH)(K:CV->MH->PH->Prop):Prop:=
  AR m h 0 (λb m1=>∃(I:Nat×Nat×MH->Prop)(m2:Nat×Nat×MH->Nat),MA (λx=>aA (I x) (DY b (iQ x)) (aA (kZ v) (gE v) (aH (bE x.1) (m1=fV x) (h=h) True))) (λx=>CD (I x) x.1 v (λb1 o y=>aM (fV x) h b1 (bL o x.1 5) (tS y)/\∃(s:ByteArray),oB (iT y.name)=oB (iT s)/\gM (lL s) (mC K x h) (HZ (fV x) (iQ x) (λO=>O (C3 y)) (λk e=>nQ (List.Mem e k) (e.1=C3 y)) (bA y.key 1 (mC K x h) (dV y.key (Av y) (mC K x h) (MC (fV x) (iQ x) (λO=>O (C3 y)) (C3 y) (λm3=>AR m3 h 0 (λb2 m4=>∃(I1:Nat×Nat×Nat×Nat×Sl×MH->Prop)(m5:Nat×Nat×Nat×Nat×Sl×MH->Nat),(∃(x1:Nat×Nat×Nat×Nat×Sl×MH),aA (I1 x1) (DY (iQ x) x1.2.2.1) (aA (DY b2 (F2
 x1)) (kZ v) (aA (gE v) (cF x.1 x1.1) (aA (bF y.columns (zD x1)) (cO y.columns (zD x1)) (aH (bE x1.2.1) (m4=wZ x1) (h=h) True)))))/\∀(x1:Nat×Nat×Nat×Nat×Sl×MH),I1 x1->bA (↑x1.2.1:Int) (aG (zD x1)) (aW (λb3 o1=>aH (aX (zD x1).a b3 o1) (0<=(↑x1.2.1:Int)) ((↑x1.2.1:Int)<aG (zD x1)) (∃(y1:lS),aM (wZ x1) h b3 (bL o1 x1.2.1 2) (nP y1.name y1.kind)/\∃(s1:ByteArray),oB (iT y1.name)=oB (iT s1)/\gM (lL s1) (K aY (wZ x1) h) (HZ (wZ x1) (F2 x1) (λO=>O (F0 y1)) (λk e=>nQ (List.Mem e k) (e.1=F0 y1)) (MC (wZ x1) (F2 x1) (λO=>O (F0 y1)) (F0 y1) (λm6=>Mz y1 3 (Mz y1 4 (Mz y1 5 (K aY m6 h) (λx2=>aA (I1 x2) (m5 x2<m5 x1) (aA (H7 x1 x2) (H8 x1
 x2) (aA (kZ v) (gE v) (aA (H9 x1 x2) (Ia x1 x2) (aA (Ib x1 x2) (Ic x1 x2) (aA (m6=wZ x2) (h=h) True))))))) (λx2=>aA (I1 x2) (m5 x2<m5 x1) (aA (H7 x1 x2) (H8 x1 x2) (aA (kZ v) (gE v) (aA (H9 x1 x2) (Ia x1 x2) (aA (Ib x1 x2) (Ic x1 x2) (aA (m6=wZ x2) (h=h) True))))))) (λx2=>aA (I1 x2) (m5 x2<m5 x1) (aA (H7 x1 x2) (H8 x1 x2) (aA (kZ v) (gE v) (aA (H9 x1 x2) (Ia x1 x2) (aA (Ib x1 x2) (Ic x1 x2) (aA (m6=wZ x2) (h=h) True)))))))) (F0 y1) (K aY (wZ x1) h))))) (∃(x2:Nat×Nat×MH),aA (I x2) (m2 x2<m2 x) (aA (DY x1.2.2.1 (iQ x2)) (kZ v) (aA (gE v) (fY (aT ((↑x1.1:Int)+1))=bZ x2.1) (aA (wZ x1=fV x2) (h=h) True))))))))) (C3 y) (mC K x h))) (K fO
 (fV x) h)))
abbrev HN(a:(Nat×bP->Prop)->(Nat×bP)->Prop)(b:(Nat×bP->Prop)->(Nat×bP->Nat)->(Nat×bP)->Prop):Prop:=∃(x:Nat×bP->Prop)(x1:Nat×bP->Nat),(∃(x2:Nat×bP),a x x2)/\∀(x2:Nat×bP),b x x1 x2
noncomputable abbrev F3(a:bX):List At:=uD (mO a.version) (Bl a.tables)
abbrev bR(a:bX):Prop:=eQ (oQ 43 (F3 a))
noncomputable abbrev oK(a:At):List At:=[a]
noncomputable abbrev eT(a:bP):List At:=lT (Nb a.name) (Bl a.columns) (lT (mO a.key) (Bl a.references) (oK (Bl a.checks)))
abbrev AU(a:bP)(b:Nat×bP):Prop:=oQ 86 (eT a)=oQ 86 (eT b.2)
abbrev Ie(a:Option Addr)(b:Int)(c:Nat)(d:Sl)(e:Nat->Nat->ByteArray->Prop):Prop:=aW (λx x1=>aH (aX a x x1) (b<=(↑c:Int)) ((↑c:Int)<aG d) (∃(x2:ByteArray),e x x1 x2))
noncomputable abbrev qN(a:Nat×Nat×bP):Nat:=a.2.1
noncomputable abbrev jF(a:Nat×Nat×bP):bP:=a.2.2
attribute [push_cast] HN F3 bR oK eT AU Ie qN jF
def OE(v:bX)(i:Nat)(m:MH)(h:PH)(K:CV->MH->PH->Prop):Prop:=
  aW (λb o=>aH (aX (oU v) b o) (0<=(↑i:Int)) ((↑i:Int)<aG v.tables) (∃(y:bP),aM m h b (bL o i 5) (tS y)/\∃(s:ByteArray),oB (iT y.name)=oB (iT s)/\cW (!(lL s)) (K aY m h) (Av y==0) (K aY m h) (bA y.key 1 (K aY m h) (dV y.key (Av y) (K aY m h) (HN (λI x=>aA (I x) (eQ (bZ i)) (aA (eP 2) eM (aA (bE x.1) (bR v) (aA (AU y x) (m=m) (bT h h))))) (λI m1 x=>I x->bA (↑x.1:Int) (↑i:Int) (Ie (oU v) 0 x.1 v.tables (λb1 o1 y1=>aM m h b1 (bL o1 x.1 5+0) (iC (Value.string y1))/\branch (y1.toList==x.2.name.toList) (K aY m h) (∃(x1:Nat×bP),aA (I x1) (m1 x1<m1 x) (aA (eQ (bZ i)) gA (aA eM (fY (aT ((↑x.1:Int)+1))=bZ x1.1) (aA (bR v) (AU x.2 x1) (cA (m=m) h h)))))))
 (HN (λI1 x1=>aA (I1 x1) eM (aA (cO x.2.columns x1.2.columns) (bE x1.1) (aH (AU x.2 x1) (m=m) (h=h) True))) (λI1 m2 x1=>I1 x1->bA (↑x1.1:Int) (aG x1.2.columns) (aW (λb1 o1=>aH (aX x1.2.columns.a b1 o1) (0<=(↑x1.1:Int)) ((↑x1.1:Int)<aG x1.2.columns) (∃(y1:ByteArray),aM m h b1 (bL o1 x1.1 2+0) (iC (Value.string y1))/\∃(s1:ByteArray),oB (iT y1)=oB (iT s1)/\gM (lL s1) (K aY m h) (aW (λb2 o2=>aH (aX x1.2.columns.a b2 o2) (0<=(↑x1.1:Int)) ((↑x1.1:Int)<aG x1.2.columns) (∃(y2:Int),aM m h b2 (bL o2 x1.1 2+1) (bN y2)/\jM y2 (λk=>gM (dO k) (K aY m h) (∃(I2:Nat×Nat×bP->Prop)(m3:Nat×Nat×bP->Nat),(∃(x2:Nat×Nat×bP),aA (I2 x2) eM (aA (cF x1.1 x2.1) (bE (qN x2)) (aA
 (cO x1.2.columns (jF x2).columns) (cF x1.1 x2.1) (aA (oQ 86 (eT x1.2)=oQ 86 (eT (jF x2))) (m=m) (bT h h)))))/\∀(x2:Nat×Nat×bP),I2 x2->bA (↑(qN x2):Int) (↑x2.1:Int) (Ie (jF x2).columns.a 0 (qN x2) (jF x2).columns (λb3 o3 y3=>aM m h b3 (bL o3 (qN x2) 2+0) (iC (Value.string y3))/\Ie (jF x2).columns.a 0 x2.1 (jF x2).columns (λb4 o4 y4=>aM m h b4 (bL o4 x2.1 2+0) (iC (Value.string y4))/\branch (y3.toList==y4.toList) (K aY m h) (∃(x3:Nat×Nat×bP),aA (I2 x3) (m3 x3<m3 x2) (aA eM (cF x2.1 x3.1) (aA (fY (aT ((↑(qN x2):Int)+1))=bZ (qN x3)) (cO (jF x2).columns (jF x3).columns) (aA (cF x2.1 x3.1) (oQ 86 (eT (jF x2))=oQ 86 (eT (jF x3))) (cA (m=m) h h)))))))) (∃(x3:Nat×bP),aA
 (I1 x3) (m2 x3<m2 x1) (aA eM (cO (jF x2).columns x3.2.columns) (aA (fY (aT ((↑x2.1:Int)+1))=bZ x3.1) (AU (jF x2) x3) (aA (m=m) (h=h) True)))))))))))) (K fO m h)))))))))
theorem GS.snoc{ns:List ByteArray}{n:ByteArray}(h:yW m b ((ns.map λn=>(Value.string n,Value.bool true))++[(.string n,.bool true)])):GS m b (ns++[n]):=by
 unfold GS;rw[List.map_append];exact h
theorem GS.look{ns:List ByteArray}(h:GS m b ns):yW m b (List.map (λp:Value×Bool=>(p.fst,Value.bool p.snd)) (ns.map λn=>(Value.string n,true))):=by
 rw[List.map_map];exact h
theorem Ez{β:Type}{ns:List ByteArray}{x:β}:∀e:Value×β,e∈(ns.map λn=>(Value.string n,x))->∃s,e.fst= .string s:=λe he=>by
 obtain⟨n,_,rfl⟩:=List.mem_map.1 he;exact⟨n,rfl⟩
theorem Oe{β:Type}{ns:List ByteArray}{x:β}{n:ByteArray}(h:n∉ns):∀e:Value×β,e∈(ns.map λn=>(Value.string n,x))->e.fst= .string n->False:=λe he h'=>by
 obtain⟨n',hn,rfl⟩:=List.mem_map.1 he;exact h (by have:n'=n:=(by injection h');rwa [<-this])
theorem CC{β:Type}{ns:List ByteArray}{x:β}{n:ByteArray}(h:∀e:Value×β,e∈(ns.map λn=>(Value.string n,x))->e.fst= .string n->False):n∉ns:=λhn=>h (.string n,x) (List.mem_map.2 ⟨n,hn,rfl⟩) rfl
theorem Of{β:Type}{ns:List ByteArray}{x y:β}{n:ByteArray}(h:(Value.string n,y)∈(ns.map λn=>(Value.string n,x))):n∈ns/\y=x:=by
 obtain⟨n',hn,e⟩:=List.mem_map.1 h;injection e with e1 e2;injection e1 with e1;exact⟨by rwa [<-e1],e2.symm⟩
theorem RA:Sound Tryz.prog 111 Ww:=by
 refine Fg Tryz.func111 ?_;rintro cvs m h K ⟨v,s,rfl,hs,hK⟩;refine⟨V0 v h,rfl,aD Rk aF,GH v m h (j9 h K),by kernel_rfl,?_⟩;show GH v m h (j9 h K);dsimp only[GH,push_cast];have hl:=hs.tables.slen;have hlen:=hs.tables.len;have hf:¬Good Aa s.tables->K (cB false) m h:=λh=>hK false ⟨λe=>(by cases e),λe=>(h e).elim⟩;intro b m1 hb hm1;refine⟨λ⟨i,b1,mx⟩=>i<=s.tables.length/\Sub m mx/\m b1=none/\GS mx b1 ((s.tables.take i).map uK.name)/\eJ Aa s.tables i,λ⟨i,_,_⟩=>s.tables.length-i,⟨(0,b,m1),⟨aC,(Sub.refl m).upd hb.m_ hm1.other,hb.m_,⟨_,_,hm1.at_,rfl⟩,.zero⟩,MT⟩,?_⟩;rintro⟨i,b1,mx⟩ ⟨hi,hsub,hb1,hmap,hgood⟩;dsimp only;refine aE (λhlt=>?_) (λhge=>.sub hsub (hK true ⟨λ_=>hgood.all aC,λ_=>rfl⟩));obtain⟨t,hx⟩:=fJ hl hlt;obtain⟨bb,o,w,ea,hr,hrep⟩:=hs.tables.at hx;have hcl:=bY.slen hrep.columns;have hcb:=bY.len hrep.columns;have hnm:=hrep.name;have hky:=hrep.key;have bad:¬Aa (s.tables.take i) t->j9 h K (.val (.bool false)) mx h:=λhn=>.sub hsub (hf (Good.not hx hn));have rest:t.name∉(s.tables.take i).map uK.name->lL w.name=true->1<=w.key->w.key<=w.columns.len->Good PU t.columns->Aa (s.tables.take i) t:=λh1 h2 h3 h4 h5=>⟨by rw[<-hnm];exact h2,by rw[<-hky];exact h3,by rw[<-hky];omega,h1,h5⟩
 refine⟨bb,o,ea,aC,hlt,w,.imm hr,w.name,rfl,aB (λh1=>bad λht=>?_) (λh1=>⟨_,_,hmap.look,Al,⟨_,rfl⟩,Ez,λhno=>aE (λh2=>bad λht=>?_) (λh2=>aE (λh3=>bad λht=>?_) (λh3=>⟨_,_,hmap,Al,⟨_,rfl⟩,Ez,Oe (CC hno),λm2 hs2 hm2 b2 m3 hb2 hm3=>?_⟩)),λy hy=>?_⟩)⟩
 .have:=ht.1;rw[<-hnm]at this;rw[this]at h1;cases h1
 .have:=ht.2.1;omega
 .have:=ht.2.2.1;omega
 .have hm2:=GS.snoc hm2;have hsub2:Sub m m2:=hsub.upd hb1 hs2.other;have hsub3:Sub m m3:=hsub2.upd (hsub2.free hb2.m_) hm3.other
  have hne:b1≠b2:=λe=>by
   obtain⟨es,cl,e1,_⟩:=hm2.ex;rw[e,hb2.m_]at e1;cases e1
  have hno':t.name∉(s.tables.take i).map uK.name:=by rw[<-hnm];exact CC hno
  rw[hnm, <-fP hx]at hm2
  refine⟨λ⟨i',k,b1',b2',sl,my⟩=>i'=i/\b1'=b1/\b2'=b2/\sl=w.columns/\k<=t.columns.length/\Sub m my/\GS my b1 ((s.tables.take (i+1)).map uK.name)/\GS my b2 ((t.columns.take k).map lS.name)/\eJ PU t.columns k,λ⟨_,k,_,_,_,_⟩=>t.columns.length-k,
   ⟨(i,0,b1,b2,w.columns,m3),⟨rfl,rfl,rfl,rfl,aC,hsub3,hm2.other hne hm3.other,⟨_,_,hm3.at_,rfl⟩,.zero⟩,MT⟩,?_⟩
  rintro⟨i,k,b1,b2,_,my⟩ ⟨rfl,rfl,rfl,rfl,hk,hsuby,hmy1,hmy2,hg2⟩;dsimp only;refine aE (λhlt2=>?_) (λhge2=>?_)
  .obtain⟨c,hc⟩:=fJ hcl hlt2;obtain⟨bc,oc,ec,rc⟩:=BE.at hrep.columns hc;have cbad:∀mz,Sub m mz->¬PU (t.columns.take k) c->j9 h K (.val (.bool false)) mz h:=λmz hz hn=>.sub hz (hf (Good.not hx (λht=>Good.not hc hn ht.2.2.2.2)));refine⟨bc,oc,ec,aC,hlt2,c,.imm rc,c.name,rfl,aB (λh4=>cbad my hsuby λht=>?_) (λh4=>⟨_,_,hmy2.look,Al,⟨_,rfl⟩,Ez,λhno2=>⟨_,_,hmy2,Al,⟨_,rfl⟩,Ez,Oe (CC hno2),λm4 hs4 hm4=>?_⟩,λy hy=>?_⟩)⟩
   .rw[ht.1]at h4;cases h4
   .have hm4:=GS.snoc hm4;rw[<-fP hc]at hm4;have hsub4:Sub m m4:=hsuby.upd (hsub2.free hb2.m_) hs4.other;have cgood:dO c.kind=true->PU (t.columns.take k) c:=λe=>⟨by simpa using h4,e,CC hno2⟩
    have ckind:dO c.kind=false->¬PU (t.columns.take k) c:=λe ht=>by rw[ht.2.1]at e;cases e
    have m1':=hmy1.other hne hs4.other
    repeat' (first|(refine aB (λ_=>?_) (λ_=>?_))|(refine cbad m4 hsub4 (ckind ?_);simp_all [dO];done)|exact⟨(i,k+1,b1,b2,w.columns,m4),⟨rfl,rfl,rfl,rfl,by show k+1<=t.columns.length;omega,hsub4,m1',hm4,hg2.succ hc (cgood (by simp_all [dO]))⟩,by show t.columns.length-(k+1)<t.columns.length-k;omega,MT⟩)
   .obtain⟨hin,rfl⟩:=Of hy;exact aB (λ_=>cbad my hsuby λht=>ht.2.2 hin) (λe=>by cases e)
  .refine⟨(i+1,b1,my),⟨aC,hsuby,hb1,hmy1,hgood.succ hx (rest hno' (by simpa using h1) aC aC (hg2.all aC))⟩,?_,MT⟩;show s.tables.length-(i+1)<s.tables.length-i;omega
 .obtain⟨hin,rfl⟩:=Of hy;exact aB (λ_=>bad λht=>ht.2.2.2.1 (by rw[<-hnm];exact hin)) (λe=>by cases e)
theorem IT{α:Type}{f:α->ByteArray}{l:List α}{x:α}{n:ByteArray}(hx:l[i]? =some x)(h:n∉(l.take i).map f)(hn:f x≠n):n∉(l.take (i+1)).map f:=by
 rw[fP hx,List.mem_append];rintro(e|e)
 .exact h e
 .simp at e;exact hn e.symm
theorem Yg{α:Type}{f:α->ByteArray}{l:List α}{x:α}{n:ByteArray}(hx:l[i]? =some x)(hi:i<k)(hn:f x=n):n∈(l.take k).map f:=
 List.mem_map.2 ⟨x,List.mem_of_getElem? (i:=i) (by rw[List.getElem?_take,if_pos hi,hx]),hn⟩
theorem TU:Sound Tryz.prog 91 Wi:=by
 refine hX Tryz.func91 ?_;rintro cvs m h K ⟨v,s,t,i,rfl,hs,hx,hK⟩;refine⟨Xe v i m h,rfl,aD Rt (aD KV aF),OE v i m h K,by kernel_rfl,?_⟩;dsimp only[OE,push_cast];have hl:=hs.tables.slen;have hlen:=hs.tables.len;have hil:i<s.tables.length:=(List.getElem?_eq_some_iff.1 hx).1;have bad:¬Aa (s.tables.take i) t->K (.val (.bool false)) m h:=λh=>hK false ⟨λe=>(by cases e),λe=>(h e).elim⟩;obtain⟨bb,o,w,ea,hr,hrep⟩:=hs.tables.at hx;have hcl:=bY.slen hrep.columns;have hcb:=bY.len hrep.columns;have hnm:=hrep.name;have hky:=hrep.key;refine⟨bb,o,ea,aC,aC,w,.imm hr,w.name,rfl,aB (λh1=>bad λht=>?_) (λh1=>aB (λh2=>bad λht=>?_) (λh2=>aE (λh3=>bad λht=>?_) (λh3=>aE (λh4=>bad λht=>?_) (λh4=>?_))))⟩
 .have:=ht.1;rw[<-hnm]at this;rw[this]at h1;cases h1
 .have:=ht.2.1;have:=ht.2.2.1;have:(w.columns.len:Int)=0:=(by simpa using h2);omega
 .have:=ht.2.1;omega
 .have:=ht.2.2.1;omega
 refine⟨λ⟨k,w'⟩=>w'=w/\k<=i/\t.name∉(s.tables.take k).map uK.name,λ⟨k,_⟩=>i-k,⟨(0,w),⟨rfl,aC,by simp⟩,MT⟩,?_⟩;rintro⟨k,w⟩ ⟨rfl,hk,hno⟩;dsimp only;refine aE (λhlt=>?_) (λhge=>?_)
 .obtain⟨t',hx'⟩:∃t',s.tables[k]? =some t':=⟨s.tables[k]'(by omega),List.getElem?_eq_getElem _⟩
  obtain⟨b',o',w',ea',hr',hrep'⟩:=hs.tables.at hx';refine⟨b',o',ea',aC,aC,w'.name,.imm (aZ.part hr' 0 1),aB (λe=>bad λht=>?_) (λe=>?_)⟩
  .refine ht.2.2.2.1 (Yg hx' aC ?_);rw[<-hrep'.name, <-hnm];exact wN (by simpa using e)
  .refine⟨(k+1,w),⟨rfl,aC,IT hx' hno λe'=>?_⟩,by show i-(k+1)<i-k;omega,MT⟩;rw[<-hrep'.name, <-hnm]at e';rw[e']at e;simp at e
 .have hki:k=i:=by omega
  subst hki;refine⟨λ⟨k,w'⟩=>w'=w/\k<=t.columns.length/\eJ PU t.columns k,λ⟨k,_⟩=>t.columns.length-k,⟨(0,w),⟨rfl,aC,.zero⟩,MT⟩,?_⟩;rintro⟨c,w⟩ ⟨rfl,hc,hg⟩;dsimp only;refine aE (λhlt=>?_) (λhge2=>hK true ⟨λ_=>⟨by rw[<-hnm];simpa using h1,aC,aC,hno,hg.all aC⟩,λ_=>rfl⟩);obtain⟨x,hxc⟩:=fJ hcl hlt;obtain⟨bc,oc,ec,rc⟩:=BE.at hrep.columns hxc;have cbad:¬PU (t.columns.take c) x->K (.val (.bool false)) m h:=λhn=>bad λht=>Good.not hxc hn ht.2.2.2.2;refine⟨bc,oc,ec,aC,hlt,x.name,.imm (aZ.part rc 0 1),x.name,rfl,aB (λe1=>cbad λht=>?_) (λe1=>⟨bc,oc,ec,aC,hlt,x.kind,.imm (aZ.part rc 1 1),x.kind,rfl,aB (λe2=>cbad λht=>?_) (λe2=>?_)⟩)⟩
  .rw[ht.1]at e1;cases e1
  .rw[ht.2.1]at e2;cases e2
  refine⟨λ⟨c',j,w'⟩=>w'=w/\c'=c/\j<=c/\x.name∉(t.columns.take j).map lS.name,λ⟨_,j,_⟩=>c-j,⟨(c,0,w),⟨rfl,rfl,aC,by simp⟩,MT⟩,?_⟩;rintro⟨c,j,w⟩ ⟨rfl,rfl,hj,hnoj⟩;dsimp only;refine aE (λhlt3=>?_) (λhge3=>?_)
  .obtain⟨y,hy⟩:∃y,t.columns[j]? =some y:=⟨t.columns[j]'(by omega),List.getElem?_eq_getElem _⟩
   obtain⟨by',oy,ey,ry⟩:=BE.at hrep.columns hy;refine⟨by',oy,ey,aC,aC,y.name,.imm (aZ.part ry 0 1),bc,oc,ec,aC,hlt,x.name,.imm (aZ.part rc 0 1),aB (λe=>cbad λht=>?_) (λe=>?_)⟩
   .exact ht.2.2 (Yg hy aC (wN (by simpa using e)))
   .refine⟨(c,j+1,w),⟨rfl,rfl,by show j+1<=c;omega,IT hy hnoj λe'=>?_⟩,by show c-(j+1)<c-j;omega,MT⟩;rw[e']at e;simp at e
  .have:j=c:=by omega
   subst this;exact⟨(j+1,w),⟨rfl,aC,hg.succ hxc ⟨by simpa using e1,by simpa using e2,hnoj⟩⟩,by show t.columns.length-(j+1)<t.columns.length-j;omega,MT⟩
def D9(t g:uK)(k:Nat)(c:Int):Prop:=0<=c/\c<t.columns.length/\∃x y,t.columns[c.toNat]? =some x/\g.columns[k]? =some y/\x.kind=y.kind
def Ws(tabs:List uK)(t:uK)(_:List Ref)(r:Ref):Prop:=0<=r.table/\r.table<tabs.length/\∃g,tabs[r.table.toNat]? =some g/\(r.columns.length:Int)=g.key/\Good (λpre c=>D9 t g pre.length c) r.columns
def By(tabs:List uK)(_:List uK)(t:uK):Prop:=Good (Ws tabs t) t.refs
def Wr:Vc.Spec:=λcvs m h K=>∃v s,cvs=[aS v]/\fQ h s v/\Good Aa s.tables/\∀r:Bool,(r=true↔Good (By s.tables) s.tables)->K (cB r) m h
def S6:Vc.Spec:=λcvs m h K=>∃v s t,∃i:Nat,cvs=[aS v,cI i]/\fQ h s v/\Good Aa s.tables/\s.tables[i]? =some t/\∀r:Bool,(r=true↔By s.tables [] t)->K (cB r) m h
noncomputable def VZ(v:bX)(m:MH)(h:PH):Ctx:=
 dN [] [(2,{A:=Nat,st:=λi=>cJ 82 83 [(1,.at (.ptr 1 0)),(11,sv v.tables),(12,iv v.tables.len),(13,iv i)] [(1,.cells 43 (v.enc.map .val))] m h}),
  (5,{A:=Nat×Nat×bP,st:=λ⟨i,k,w⟩=>cJ 82 83 [(1,.at (.ptr 1 0)),(4,.at (.ptr 4 0)),(11,sv v.tables),(12,iv v.tables.len),(13,iv i),(18,sv w.references),(19,iv w.references.len),(20,iv k)] [(1,.cells 43 (v.enc.map .val)),(4,.cells 86 (w.enc.map .val))] m h}),
  (13,{A:=Nat×Nat×Nat×bP×bP×Sl,st:=λ⟨i,k,j,w,g,sl⟩=>cJ 82 83 [(1,.at (.ptr 1 0)),(4,.at (.ptr 4 0)),(7,.at (.ptr 7 0)),(11,sv v.tables),(12,iv v.tables.len),(13,iv i),(18,sv w.references),(19,iv w.references.len),(20,iv k),(48,sv sl),(49,iv sl.len),(50,iv j)] [(1,.cells 43 (v.enc.map .val)),(4,.cells 86 (w.enc.map .val)),(7,.cells 86 (g.enc.map .val))] m h})] [] [] false
noncomputable def Xd(v:bX)(m:MH)(h:PH):Ctx:=
 dN [] [(3,{A:=Nat×bP,st:=λ⟨k,w⟩=>cJ 85 87 [(2,.at (.ptr 2 0)),(5,.at (.ptr 5 0)),(16,sv w.references),(17,iv w.references.len),(18,iv k)] [(2,.cells 43 (v.enc.map .val)),(5,.cells 86 (w.enc.map .val))] m h}),
  (8,{A:=Nat×Nat×bP×BC,st:=λ⟨k,j,w,r⟩=>cJ 85 87 [(2,.at (.ptr 2 0)),(5,.at (.ptr 5 0)),(7,.at (.ptr 7 0)),(16,sv w.references),(17,iv w.references.len),(18,iv k),(47,sv r.columns),(48,iv r.columns.len),(49,iv j)] [(2,.cells 43 (v.enc.map .val)),(5,.cells 86 (w.enc.map .val)),(7,.cells 118 (r.enc.map .val))] m h})] [] [] false
abbrev mT(a:(Nat->Prop)->Nat->Prop)(b:(Nat->Prop)->(Nat->Nat)->Nat->Prop):Prop:=∃(x:Nat->Prop)(x1:Nat->Nat),jT (∃(x2:Nat),a x x2) (λx2=>b x x1 x2)
abbrev eR:Prop:=eP 1
abbrev Aw(a b:bP):Prop:=bF a.references b.references
abbrev Ax(a b:bP):Prop:=cO a.references b.references
abbrev CF(a:bX)(b:Int)(c:Nat->Nat->Prop):Prop:=aW (λx x1=>aH (aX (oU a) x x1) (0<=b) (b<aG a.tables) (c x x1))
noncomputable abbrev oR(a:Nat×Nat×Nat×bP×bP×Sl):bP:=a.2.2.2.1
noncomputable abbrev tF(a:Nat×Nat×Nat×bP×bP×Sl):Sl:=a.2.2.2.2.2
noncomputable abbrev rD(a:Nat×Nat×Nat×bP×bP×Sl):Nat:=a.2.2.1
noncomputable abbrev FY(a:Nat×Nat×Nat×bP×bP×Sl):bP:=a.2.2.2.2.1
attribute [push_cast] mT eR Aw Ax CF oR tF rD FY
def GG(v:bX)(m:MH)(h:PH)(K:CV->MH->PH->Prop):Prop:=
  mT (λI x=>aA (I x) eR (aA (kZ v) (gE v) (aA (bE x) (bR v) (aA (m=m) (h=h) True)))) (λI m1 x=>CD (I x) x v (λb o y=>aM m h b (bL o x 5) (tS y)/\∃(I1:Nat×Nat×bP->Prop)(m2:Nat×Nat×bP->Nat),(∃(x1:Nat×Nat×bP),aA (I1 x1) eR (aA (eP 4) (kZ v) (aA (gE v) (cF x x1.1) (aA (Aw y (jF x1)) (Ax y (jF x1)) (aA (bE (qN x1)) (bR v) (aA (oQ 86 (eT y)=oQ 86 (eT (jF x1))) (m=m) (bT h h)))))))/\∀(x1:Nat×Nat×bP),I1 x1->bA (↑(qN x1):Int) (aG (jF x1).references) (aW (λb1 o1=>aH (aX (jF x1).references.a b1 o1) (0<=(↑(qN x1):Int)) ((↑(qN x1):Int)<aG (jF x1).references) (∃(y1:BC),aM m h b1 (bL o1 (qN x1) 2) (jJ (dT y1.columns) (dY y1.table))/\bA
 y1.table 0 (K aY m h) (fW y1.table (gO v) (K aY m h) (CF v y1.table (λb2 o2=>∃(y2:bP),aM m h b2 (fR o2 y1.table 5) (tS y2)/\eA (aG y1.columns) y2.key (K aY m h) (∃(I2:Nat×Nat×Nat×bP×bP×Sl->Prop)(m3:Nat×Nat×Nat×bP×bP×Sl->Nat),(∃(x2:Nat×Nat×Nat×bP×bP×Sl),aA (I2 x2) eR (aA (eP 4) (eP 7) (aA (kZ v) (gE v) (aA (cF x1.1 x2.1) (Aw (jF x1) (oR x2)) (aA (Ax (jF x1) (oR x2)) (cF (qN x1) x2.2.1) (aA (bF y1.columns (tF x2)) (cO y1.columns (tF x2)) (aA (bE (rD x2)) (bR v) (aA (oQ 86 (eT (jF x1))=oQ 86 (eT (oR x2))) (oQ 86 (eT y2)=oQ 86 (eT (FY x2))) (cA (m=m) h h)))))))))/\∀(x2:Nat×Nat×Nat×bP×bP×Sl),I2 x2->bA (↑(rD x2):Int) (aG
 (tF x2)) (aW (λb3 o3=>aH (aX (tF x2).a b3 o3) (0<=(↑(rD x2):Int)) ((↑(rD x2):Int)<aG (tF x2)) (∃(y3:Int),aM m h b3 (bL o3 (rD x2) 1) (bN y3)/\bA y3 0 (K aY m h) (fW y3 (Av (oR x2)) (K aY m h) (aW (λb4 o4=>aH (aX (oR x2).columns.a b4 o4) (0<=y3) (y3<aG (oR x2).columns) (∃(y4:Int),aM m h b4 (fR o4 y3 2+1) (bN y4)/\aW (λb5 o5=>aH (aX (FY x2).columns.a b5 o5) (0<=(↑(rD x2):Int)) ((↑(rD x2):Int)<aG (FY x2).columns) (∃(y5:Int),aM m h b5 (bL o5 (rD x2) 2+1) (bN y5)/\eA y4 y5 (K aY m h) (∃(x3:Nat×Nat×Nat×bP×bP×Sl),aA (I2 x3) (m3 x3<m3 x2) (aA eR (eP 4) (aA (eP 7) (kZ v) (aA (gE v) (cF x2.1 x3.1) (aA (Aw (oR x2) (oR x3)) (Ax
 (oR x2) (oR x3)) (aA (cF x2.2.1 x3.2.1) (bF (tF x2) (tF x3)) (aA (cO (tF x2) (tF x3)) (fY (aT ((↑(rD x2):Int)+1))=bZ (rD x3)) (aA (bR v) (oQ 86 (eT (oR x2))=oQ 86 (eT (oR x3))) (aH (oQ 86 (eT (FY x2))=oQ 86 (eT (FY x3))) (m=m) (h=h) True)))))))))))))))))) (∃(x3:Nat×Nat×bP),aA (I1 x3) (m2 x3<m2 x1) (aA eR (eP 4) (aA (kZ v) (gE v) (aA (cF x2.1 x3.1) (Aw (oR x2) (jF x3)) (aA (Ax (oR x2) (jF x3)) (fY (aT ((↑x2.2.1:Int)+1))=bZ (qN x3)) (aA (bR v) (oQ 86 (eT (oR x2))=oQ 86 (eT (jF x3))) (cA (m=m) h h)))))))))))))) (∃(x2:Nat),aA (I x2) (m1 x2<m1 x) (aA eR (kZ v) (aA (gE v) (fY (aT ((↑x1.1:Int)+1))=bZ x2) (aA (bR v) (m=m) (bT h
 h)))))) (K fO m h))
noncomputable abbrev oS(a:Nat×Nat×bP×BC):bP:=a.2.2.1
noncomputable abbrev oE(a:Nat×Nat×bP×BC):Sl:=a.2.2.2.columns
noncomputable abbrev AT(a:Nat×Nat×bP×BC):Int:=a.2.2.2.table
attribute [push_cast] oS oE AT
def Jq(v:bX)(i:Nat)(m:MH)(h:PH)(K:CV->MH->PH->Prop):Prop:=
  aW (λb o=>aH (aX (oU v) b o) (0<=(↑i:Int)) ((↑i:Int)<aG v.tables) (∃(y:bP),aM m h b (bL o i 5) (tS y)/\HN (λI x=>aA (I x) gA (aA (eP 5) (Aw y x.2) (aA (Ax y x.2) (bE x.1) (aA (bR v) (AU y x) (cA (m=m) h h))))) (λI m1 x=>I x->bA (↑x.1:Int) (aG x.2.references) (aW (λb1 o1=>aH (aX x.2.references.a b1 o1) (0<=(↑x.1:Int)) ((↑x.1:Int)<aG x.2.references) (∃(y1:BC),aM m h b1 (bL o1 x.1 2) (jJ (dT y1.columns) (dY y1.table))/\bA y1.table 0 (K aY m h) (fW y1.table (gO v) (K aY m h) (aW (λb2 o2=>aH (aX (oU v) b2 o2) (0<=y1.table) (y1.table<aG v.tables) (∃(y2:Int),aM m h b2 (fR o2 y1.table 5+2) (bN y2)/\eA (aG y1.columns) y2 (K aY m h) (∃(I1:Nat×Nat×bP×BC->Prop)(m2
 :Nat×Nat×bP×BC->Nat),(∃(x1:Nat×Nat×bP×BC),aA (I1 x1) gA (aA (eP 5) (eP 7) (aA (Aw x.2 (oS x1)) (Ax x.2 (oS x1)) (aA (cF x.1 x1.1) (bF y1.columns (oE x1)) (aA (cO y1.columns (oE x1)) (bE x1.2.1) (aA (bR v) (oQ 86 (eT x.2)=oQ 86 (eT (oS x1))) (aH (oQ 118 (uD (Bl y1.columns) (mO y1.table))=oQ 118 (uD (Bl (oE x1)) (mO (AT x1)))) (m=m) (h=h) True)))))))/\∀(x1:Nat×Nat×bP×BC),I1 x1->bA (↑x1.2.1:Int) (aG (oE x1)) (aW (λb3 o3=>aH (aX (oE x1).a b3 o3) (0<=(↑x1.2.1:Int)) ((↑x1.2.1:Int)<aG (oE x1)) (∃(y3:Int),aM m h b3 (bL o3 x1.2.1 1) (bN y3)/\bA y3 0 (K aY m h) (fW y3 (Av (oS x1)) (K aY m h) (aW (λb4 o4=>aH (aX (oS x1).columns.a b4 o4) (0<=y3) (y3
 <aG (oS x1).columns) (∃(y4:Int),aM m h b4 (fR o4 y3 2+1) (bN y4)/\aW (λb5 o5=>aH (aX (oU v) b5 o5) (0<=AT x1) (AT x1<aG v.tables) (∃(y5:Sl),aM m h b5 (fR o5 (AT x1) 5+1) (aR y5)/\aW (λb6 o6=>aH (aX y5.a b6 o6) (0<=(↑x1.2.1:Int)) ((↑x1.2.1:Int)<aG y5) (∃(y6:Int),aM m h b6 (bL o6 x1.2.1 2+1) (bN y6)/\eA y4 y6 (K aY m h) (∃(x2:Nat×Nat×bP×BC),aA (I1 x2) (m2 x2<m2 x1) (aA gA eM (aA (eP 7) (Aw (oS x1) (oS x2)) (aA (Ax (oS x1) (oS x2)) (cF x1.1 x2.1) (aA (bF (oE x1) (oE x2)) (cO (oE x1) (oE x2)) (aA (fY (aT ((↑x1.2.1:Int)+1))=bZ x2.2.1) (bR v) (aA (oQ 86 (eT (oS x1))=oQ 86 (eT (oS x2))) (oQ 118 (uD (Bl (oE x1)) (mO (AT x1)))=
 oQ 118 (uD (Bl (oE x2)) (mO (AT x2)))) (aA (m=m) (h=h) True))))))))))))))))))) (∃(x2:Nat×bP),aA (I x2) (m1 x2<m1 x) (aA gA eM (aA (Aw (oS x1) x2.2) (Ax (oS x1) x2.2) (aA (fY (aT ((↑x1.1:Int)+1))=bZ x2.1) (bR v) (aH (AU (oS x1) x2) (m=m) (h=h) True))))))))))))) (K fO m h))))
theorem Ints.at'{s:Sl}(r:Ints h s l){x:Int}(hi:l[i]? =some x):∃b o,s.a=some ⟨b,o,none⟩/\aZ h b (o+i*1) [.int .i64 x]:=by
 obtain⟨b,o,e,k⟩:=r.at hi;exact⟨b,o,e,by rwa [Nat.mul_one]⟩
theorem NI{α:Type}{l:List α}{x:α}(h:l[i]? =some x):(l.take i).length=i:=by
 have:=(List.getElem?_eq_some_iff.1 h).1;rw[List.length_take];omega
theorem Good.key_le{tabs:List uK}(h:Good Aa tabs){g:uK}(hg:tabs[i]? =some g):g.key<=g.columns.length:=(h i g hg).2.2.1
theorem XY{v:bX}(hs:fQ h s v)(hgood:Good Aa s.tables)(hK:∀r:Bool,(r=true↔Good (By s.tables) s.tables)->K (cB r) m h):GG v m h K:=by
 dsimp only[GG,push_cast];have hl:=hs.tables.slen;have hlen:=hs.tables.len;have hf:¬Good (By s.tables) s.tables->K (.val (.bool false)) m h:=λh=>hK false ⟨λe=>(by cases e),λe=>(h e).elim⟩;refine⟨λi=>i<=s.tables.length/\eJ (By s.tables) s.tables i,λi=>s.tables.length-i,⟨0,⟨aC,.zero⟩,MT⟩,λi⟨hi,hg⟩=>aE (λhlt=>?_) (λhge=>hK true ⟨λ_=>hg.all aC,λ_=>rfl⟩)⟩;obtain⟨t,hx⟩:=fJ hl hlt;obtain⟨b,o,w,ea,hr,hrep⟩:=hs.tables.at hx;have hcl:=bY.slen hrep.columns;have hrl:=bY.slen hrep.refs;have hrb:=bY.len hrep.refs;refine⟨b,o,ea,aC,hlt,w,.imm hr,λ⟨i',k,w'⟩=>i'=i/\w'=w/\k<=t.refs.length/\eJ (Ws s.tables t) t.refs k,λ⟨_,k,_⟩=>t.refs.length-k,⟨(i,0,w),⟨rfl,rfl,aC,.zero⟩,MT⟩,?_⟩;rintro⟨i,k,w⟩ ⟨rfl,rfl,hk,hg2⟩;dsimp only;refine aE (λhlt2=>?_) (λhge2=>⟨i+1,⟨aC,hg.succ hx (hg2.all aC)⟩,by show s.tables.length-(i+1)<s.tables.length-i;omega,MT⟩);obtain⟨r,hrx⟩:=fJ hrl hlt2;obtain⟨b2,o2,rv,ea2,hr2,hrep2⟩:=hrep.refs.at hrx;have rcl:=hrep2.columns.slen;have rcb:=hrep2.columns.len;have rt:=hrep2.table;have bad:¬Ws s.tables t (t.refs.take k) r->K (.val (.bool false)) m h:=λhn=>hf (Good.not hx (Good.not hrx hn));refine⟨b2,o2,ea2,aC,hlt2,rv,.imm hr2,aE (λh1=>bad λht=>?_) (λh1=>aE (λh2=>bad λht=>?_) (λh2=>?_))⟩
 .have:=ht.1;omega
 .have:=ht.2.1;omega
 obtain⟨g,b3,o3,gv,hgx,ea3,hr3,hrep3⟩:=hs.table (t:=rv.table) aC aC;have gcl:=bY.slen hrep3.columns;have hkey:=hgood.key_le hgx;have gk:=hrep3.key;refine⟨b3,o3,ea3,aC,aC,gv,.imm hr3,aB (λh3=>bad λht=>?_) (λh3=>?_)⟩
 .obtain⟨_,_,g',hg',hk',_⟩:=ht;rw[<-rt,hgx]at hg';cases hg';have:(rv.columns.len:Int)≠gv.key:=by simpa using h3
  omega
 have h3:(rv.columns.len:Int)=gv.key:=by simpa using h3
 refine⟨λ⟨i',k',j,w',g',sl⟩=>i'=i/\k'=k/\w'=w/\g'=gv/\sl=rv.columns/\j<=r.columns.length/\eJ (λpre c=>D9 t g pre.length c) r.columns j,λ⟨_,_,j,_,_,_⟩=>r.columns.length-j,⟨(i,k,0,w,gv,rv.columns),⟨rfl,rfl,rfl,rfl,rfl,aC,.zero⟩,MT⟩,?_⟩;rintro⟨i,k,j,w,gv,_⟩ ⟨rfl,rfl,rfl,rfl,rfl,hj,hg3⟩;dsimp only;refine aE (λhlt3=>?_) (λhge3=>⟨(i,k+1,w),⟨rfl,rfl,by show k+1<=t.refs.length;omega,hg2.succ hrx ⟨aC,aC,g,by rw[<-rt];exact hgx,aC,hg3.all aC⟩⟩,by show t.refs.length-(k+1)<t.refs.length-k;omega,MT⟩);obtain⟨c,hc⟩:=fJ rcl hlt3;obtain⟨b4,o4,ea4,hr4⟩:=hrep2.columns.at' hc;have htl:=NI hc
 have cbad:¬D9 t g j c->K (.val (.bool false)) m h:=λhn=>bad λht=>by
  obtain⟨_,_,g',hg',_,hgo⟩:=ht;rw[<-rt,hgx]at hg';cases hg';have:=hgo j c hc;dsimp only at this;rw[htl]at this;exact hn this
 refine⟨b4,o4,ea4,aC,hlt3,c,.imm hr4,aE (λh5=>cbad λht=>?_) (λh5=>aE (λh6=>cbad λht=>?_) (λh6=>?_))⟩
 .have:=ht.1;omega
 .have:=ht.2.1;omega
 obtain⟨x,hxx⟩:∃x,t.columns[c.toNat]? =some x:=⟨t.columns[c.toNat]'(by omega),List.getElem?_eq_getElem _⟩
 obtain⟨y,hyy⟩:∃y,g.columns[j]? =some y:=⟨g.columns[j]'(by omega),List.getElem?_eq_getElem _⟩
 obtain⟨b5,o5,ea5,hr5⟩:=BE.at hrep.columns hxx;obtain⟨b6,o6,ea6,hr6⟩:=BE.at hrep3.columns hyy;refine⟨b5,o5,ea5,aC,aC,x.kind,.imm (aZ.part hr5 1 1),b6,o6,ea6,aC,aC,y.kind,.imm (aZ.part hr6 1 1),aB (λh7=>cbad λht=>?_) (λh7=>?_)⟩
 .obtain⟨_,_,x',y',e1,e2,e3⟩:=ht;rw[hxx]at e1;rw[hyy]at e2;cases e1;cases e2;rw[e3]at h7;simp at h7
 .exact⟨(i,k,j+1,w,gv,rv.columns),⟨rfl,rfl,rfl,rfl,rfl,by show j+1<=r.columns.length;omega,hg3.succ hc (by show D9 t g (List.take j r.columns).length c;rw[htl];exact⟨aC,aC,x,y,hxx,hyy,by simpa using h7⟩)⟩,by show r.columns.length-(j+1)<r.columns.length-j;omega,MT⟩
theorem Rz:Sound Tryz.prog 112 Wr:=by
 refine hX Tryz.func112 ?_;rintro cvs m h K ⟨v,s,rfl,hs,hg,hK⟩;refine⟨VZ v m h,rfl,aF,GG v m h K,by kernel_rfl,?_⟩;exact XY hs hg hK
theorem YR{v:bX}{t:uK}(hs:fQ h s v)(hgood:Good Aa s.tables)(hx:s.tables[i]? =some t)(hK:∀r:Bool,(r=true↔By s.tables [] t)->K (cB r) m h):Jq v i m h K:=by
 dsimp only[Jq,push_cast];have hl:=hs.tables.slen;have hlen:=hs.tables.len;have hil:i<s.tables.length:=(List.getElem?_eq_some_iff.1 hx).1;have hf:¬By s.tables [] t->K (.val (.bool false)) m h:=λh=>hK false ⟨λe=>(by cases e),λe=>(h e).elim⟩;obtain⟨b,o,w,ea,hr,hrep⟩:=hs.tables.at hx;have hcl:=bY.slen hrep.columns;have hrl:=bY.slen hrep.refs;have hrb:=bY.len hrep.refs;refine⟨b,o,ea,aC,aC,w,.imm hr,λ⟨k,w'⟩=>w'=w/\k<=t.refs.length/\eJ (Ws s.tables t) t.refs k,λ⟨k,_⟩=>t.refs.length-k,⟨(0,w),⟨rfl,aC,.zero⟩,MT⟩,?_⟩;rintro⟨k,w⟩ ⟨rfl,hk,hg2⟩;dsimp only;refine aE (λhlt2=>?_) (λhge2=>hK true ⟨λ_=>hg2.all aC,λ_=>rfl⟩);obtain⟨r,hrx⟩:=fJ hrl hlt2;obtain⟨b2,o2,rv,ea2,hr2,hrep2⟩:=hrep.refs.at hrx;have rcl:=hrep2.columns.slen;have rcb:=hrep2.columns.len;have rt:=hrep2.table;have bad:¬Ws s.tables t (t.refs.take k) r->K (.val (.bool false)) m h:=λhn=>hf (Good.not hrx hn);refine⟨b2,o2,ea2,aC,hlt2,rv,.imm hr2,aE (λh1=>bad λht=>?_) (λh1=>aE (λh2=>bad λht=>?_) (λh2=>?_))⟩
 .have:=ht.1;omega
 .have:=ht.2.1;omega
 obtain⟨g,b3,o3,gv,hgx,ea3,hr3,hrep3⟩:=hs.table (t:=rv.table) aC aC;have gcl:=bY.slen hrep3.columns;have hkey:=hgood.key_le hgx;have gk:=hrep3.key;refine⟨b3,o3,ea3,aC,aC,gv.key,.imm (aZ.part hr3 2 1),aB (λh3=>bad λht=>?_) (λh3=>?_)⟩
 .obtain⟨_,_,g',hg',hk',_⟩:=ht;rw[<-rt,hgx]at hg';cases hg';have:(rv.columns.len:Int)≠gv.key:=by simpa using h3
  omega
 have h3:(rv.columns.len:Int)=gv.key:=by simpa using h3
 refine⟨λ⟨k',j,w',r'⟩=>k'=k/\w'=w/\r'=rv/\j<=r.columns.length/\eJ (λpre c=>D9 t g pre.length c) r.columns j,λ⟨_,j,_,_⟩=>r.columns.length-j,⟨(k,0,w,rv),⟨rfl,rfl,rfl,aC,.zero⟩,MT⟩,?_⟩;rintro⟨k,j,w,rv⟩ ⟨rfl,rfl,rfl,hj,hg3⟩;dsimp only;refine aE (λhlt3=>?_) (λhge3=>⟨(k+1,w),⟨rfl,by show k+1<=t.refs.length;omega,hg2.succ hrx ⟨aC,aC,g,by rw[<-rt];exact hgx,aC,hg3.all aC⟩⟩,by show t.refs.length-(k+1)<t.refs.length-k;omega,MT⟩);obtain⟨c,hc⟩:=fJ rcl hlt3;obtain⟨b4,o4,ea4,hr4⟩:=hrep2.columns.at' hc;have htl:=NI hc
 have cbad:¬D9 t g j c->K (.val (.bool false)) m h:=λhn=>bad λht=>by
  obtain⟨_,_,g',hg',_,hgo⟩:=ht;rw[<-rt,hgx]at hg';cases hg';have:=hgo j c hc;dsimp only at this;rw[htl]at this;exact hn this
 refine⟨b4,o4,ea4,aC,hlt3,c,.imm hr4,aE (λh5=>cbad λht=>?_) (λh5=>aE (λh6=>cbad λht=>?_) (λh6=>?_))⟩
 .have:=ht.1;omega
 .have:=ht.2.1;omega
 obtain⟨x,hxx⟩:∃x,t.columns[c.toNat]? =some x:=⟨t.columns[c.toNat]'(by omega),List.getElem?_eq_getElem _⟩
 obtain⟨y,hyy⟩:∃y,g.columns[j]? =some y:=⟨g.columns[j]'(by omega),List.getElem?_eq_getElem _⟩
 obtain⟨b5,o5,ea5,hr5⟩:=BE.at hrep.columns hxx;obtain⟨b6,o6,ea6,hr6⟩:=BE.at hrep3.columns hyy;refine⟨b5,o5,ea5,aC,aC,x.kind,.imm (aZ.part hr5 1 1),b3,o3,ea3,aC,aC,gv.columns,.imm (aZ.part hr3 1 1),b6,o6,ea6,aC,aC,y.kind,.imm (aZ.part hr6 1 1),aB (λh7=>cbad λht=>?_) (λh7=>?_)⟩
 .obtain⟨_,_,x',y',e1,e2,e3⟩:=ht;rw[hxx]at e1;rw[hyy]at e2;cases e1;cases e2;rw[e3]at h7;simp at h7
 .exact⟨(k,j+1,w,rv),⟨rfl,rfl,rfl,by show j+1<=r.columns.length;omega,hg3.succ hc (by show D9 t g (List.take j r.columns).length c;rw[htl];exact⟨aC,aC,x,y,hxx,hyy,by simpa using h7⟩)⟩,by show r.columns.length-(j+1)<r.columns.length-j;omega,MT⟩
theorem TT:Sound Tryz.prog 92 S6:=by
 refine hX Tryz.func92 ?_;rintro cvs m h K ⟨v,s,t,i,rfl,hs,hg,hx,hK⟩;refine⟨Xd v m h,rfl,aF,Jq v i m h K,by kernel_rfl,?_⟩;exact YR hs hg hx hK
def JX(t:uK):Prop:=t.columns.length<=8/\t.refs.length<=4/\t.checks.length<=4
def Bm(s:nY):Prop:=s.tables.length<=8/\Good (λ_ t=>JX t) s.tables
def Hu(s:nY):Prop:=0<=s.version/\s.version<=1000/\Good Aa s.tables/\Good (By s.tables) s.tables
def pB:List Int->Int
 |[]=>0
 |e::r=>if e=0 then pB r else e
def qI(s:nY)(i:Nat):List Int:=match s.tables[i]? with|some t=>t.checks.map (hZ (gT s i) [])|none=>[]
theorem uW(a b:List Int)(h:∀e∈a,e=0):pB (a++b)=pB b:=by
 induction a with
 |nil=>rfl
 |cons x a ih=>
  simp only[List.cons_append,pB];rw[if_pos (h x (by simp)),ih λe he=>h e (by simp[he])]
theorem zH(a:List Int)(h:∀e∈a,e=0):pB a=0:=by
 have:=uW a [] h;simpa[pB]using this
theorem Hj{n:Nat}{f:Nat->List Int}{e:Int}(hi:i<n)(h1:∀j<i,∀x∈f j,x=0)(h2:∀x∈(f i).take k,x=0)(h3:(f i)[k]? =some e)(he:e≠0):pB ((List.range n).flatMap f)=e:=by
 obtain⟨r,rfl⟩:∃r,n=i+(1+r):=⟨n-i-1,aC⟩
 rw[List.range_add,List.flatMap_append,uW]
 .rw[show(List.range (1+r)).map (i+ ·)=i::(List.range' (i+1) r)from ?_,List.flatMap_cons, <-List.take_append_drop k (f i),List.append_assoc,uW _ _ h2,drop_cons h3]
  .simp[pB,he]
  .rw[Nat.add_comm 1 r,List.range_succ_eq_map];simp[List.range'_eq_map_range,Nat.add_assoc,Nat.add_comm 1]
 .intro x hx;obtain⟨j,hj,hx⟩:=List.mem_flatMap.1 hx;exact h1 j (List.mem_range.1 hj) x hx
open Classical in
noncomputable def eD(s:nY):Int:=if Bm s then(if Hu s then pB ((List.range s.tables.length).flatMap (qI s))else 70)else 2
def Ac:Vc.Spec:=λcvs m h K=>∃v s,cvs=[aS v]/\fQ h s v/\K (cI (eD s)) m h
noncomputable def Xk(v:bX)(m:MH)(h:PH):Ctx:=
 dN [(111,Ww),(112,Wr),(72,uM),(113,qD)] [(4,{A:=Nat,st:=λi=>cJ 83 84 [(1,.at (.ptr 1 0)),(16,sv v.tables),(17,iv v.tables.len),(18,iv i)] [(1,.cells 43 (v.enc.map .val))] m h}),
  (12,{A:=Nat×PH,st:=λ⟨i,hx⟩=>cJ 83 84 [(1,.at (.ptr 1 0)),(58,sv v.tables),(59,iv v.tables.len),(60,iv i)] [(1,.cells 43 (v.enc.map .val))] m hx}),
  (16,{A:=Nat×Nat×Sl×Sl×PH,st:=λ⟨i,k,ks,cs,hx⟩=>cJ 83 84 [(1,.at (.ptr 1 0)),(7,sv ks),(58,sv v.tables),(59,iv v.tables.len),(60,iv i),(69,sv cs),(70,iv cs.len),(71,iv k)] [(1,.cells 43 (v.enc.map .val))] m hx})] [] [] false
noncomputable def Xt(v:bX)(m:MH)(h:PH):Ctx:=
 dN [(91,Wi),(92,S6),(44,uM),(69,qD)] [(4,{A:=Nat,st:=λi=>cJ 96 97 [(1,.at (.ptr 1 0)),(16,sv v.tables),(17,iv v.tables.len),(18,iv i)] [(1,.cells 43 (v.enc.map .val))] m h}),
  (12,{A:=Nat,st:=λi=>cJ 96 97 [(1,.at (.ptr 1 0)),(49,iv v.tables.len),(50,iv i)] [(1,.cells 43 (v.enc.map .val))] m h}),
  (18,{A:=Nat,st:=λi=>cJ 96 97 [(1,.at (.ptr 1 0)),(60,iv v.tables.len),(61,iv i)] [(1,.cells 43 (v.enc.map .val))] m h}),
  (24,{A:=Nat×PH,st:=λ⟨i,hx⟩=>cJ 96 97 [(1,.at (.ptr 1 0)),(71,iv v.tables.len),(72,iv i)] [(1,.cells 43 (v.enc.map .val))] m hx}),
  (27,{A:=Nat×Nat×Sl×PH,st:=λ⟨i,k,cs,hx⟩=>cJ 96 97 [(1,.at (.ptr 1 0)),(7,iv i),(71,iv v.tables.len),(72,iv i),(80,sv cs),(81,iv cs.len),(82,iv k)] [(1,.cells 43 (v.enc.map .val))] m hx})] [] [] false
abbrev AQ(a:List CV)(b:Nat->Nat->Option Value)(c:Sl->PH->Prop):Prop:=iU (λx x1=>∃(x2:Int),aH (a=bD (jI (bI x)) x2) (fQ b x1 x) (mS x1) (lC (λx3 x4=>dK b x4 (Ints x4 x3 (gT x1 x2)) (c x3 x4))))
noncomputable abbrev tG(a:Nat×Nat×Sl×Sl×PH):Sl:=a.2.2.2.1
noncomputable abbrev yG(a:Nat×Nat×Sl×Sl×PH):Nat->Nat->Option Value:=a.2.2.2.2
abbrev CI(a:List CV)(b:PH)(c:(List Int)->(List Int)->Pred->Prop):Prop:=iZ (λx x1=>∃(x2:PV),uC (λx3 x4=>∃(x5:Pred),aA (a=cH x (fK x1 (jI x2.enc))) (Ints b x x3) (aA (Ints b x1 x4) (eH b x5 x2) (c x3 x4 x5))))
attribute [push_cast] AQ tG yG CI
def Js(v:bX)(m:MH)(h:PH)(K:CV->MH->PH->Prop):Prop:=
  dV (gO v) 8 (K (eK 2) m h) (mT (λI x=>aA (I x) eR (aA (kZ v) (gE v) (aA (bE x) (bR v) (aA (m=m) (h=h) True)))) (λI m1 x=>CD (I x) x v (λb o y=>aM m h b (bL o x 5) (tS y)/\cW (decide (Av y>8)) (K (eK 2) m h) (decide (aG y.references>4)) (K (eK 2) m h) (dV (aG y.checks) 4 (K (eK 2) m h) (∃(x1:Nat),aA (I x1) (m1 x1<m1 x) (aA eR (kZ v) (aA (gE v) (fY (aT ((↑x:Int)+1))=bZ x1) (aA (bR v) (m=m) (bT h h))))))) (bA v.version 0 (K (eK 70) m h) (dV v.version 1000 (K (eK 70) m h) (iU (λv1 s=>aA (kF (bI v)=kF (bI v1)) (fQ h s v1) (∀(r:Bool),gQ (dX r↔Good Aa s.tables) (!r) (K (eK 70) m h) (iU (λv2 s1=>aH (kF (bI v)=kF (bI v2)) (fQ h s1 v2) (Good Aa s1.tables) (∀(r1
 :Bool),gQ (dX r1↔Good (By s1.tables) s1.tables) (!r1) (K (eK 70) m h) (∃(I1:Nat×PH->Prop)(m2:Nat×PH->Nat),(∃(x1:Nat×PH),aA (I1 x1) eR (aA (kZ v) (gE v) (aA (bE x1.1) (bR v) (aA (m=m) (h=x1.2) True))))/\∀(x1:Nat×PH),CD (I1 x1) x1.1 v (λb o y=>aM m x1.2 b (bL o x1.1 5) (tS y)/\AQ (bD (jI (bI v)) (↑x1.1:Int)) x1.2 (λs2 h1=>∃(I2:Nat×Nat×Sl×Sl×PH->Prop)(m3:Nat×Nat×Sl×Sl×PH->Nat),(∃(x2:Nat×Nat×Sl×Sl×PH),aA (I2 x2) eR (aA (bF s2 x2.2.2.1) (kZ v) (aA (gE v) (cF x1.1 x2.1) (aA (bF y.checks (tG x2)) (cO y.checks (tG x2)) (pJ (bE x2.2.1) (bR v) (m=m) h1 (yG x2))))))/\∀(x2:Nat×Nat×Sl×Sl×PH),I2 x2->bA (↑x2.2.1:Int) (aG (tG x2)) (aW (λb1 o1=>aH
 (aX (tG x2).a b1 o1) (0<=(↑x2.2.1:Int)) ((↑x2.2.1:Int)<aG (tG x2)) (∃(y1:PV),aM m (yG x2) b1 (bL o1 x2.2.1 13) y1.enc/\CI (cH x2.2.2.1 (dZ lU (jI y1.enc))) (yG x2) (λc p p1=>eA (hZ c p p1) 0 (K (eK (hZ c p p1)) m (yG x2)) (∃(x3:Nat×Nat×Sl×Sl×PH),aA (I2 x3) (m3 x3<m3 x2) (aA eR (bF x2.2.2.1 x3.2.2.1) (aA (kZ v) (gE v) (aA (cF x2.1 x3.1) (bF (tG x2) (tG x3)) (aA (cO (tG x2) (tG x3)) (fY (aT ((↑x2.2.1:Int)+1))=bZ x3.2.1) (aA (bR v) (m=m) (bT (yG x2) (yG x3)))))))))))) (∃(x3:Nat×PH),aA (I1 x3) (m2 x3<m2 x1) (aA eR (kZ v) (aA (gE v) (fY (aT ((↑x2.1:Int)+1))=bZ x3.1) (aA (bR v) (m=m) (bT (yG x2) x3.2))))))) (K (eK 0) m x1.2))))))))))))
abbrev H0(a:nY)(b:Nat)(c:uK):Prop:=a.tables[b]? =Option.some c
noncomputable abbrev tH(a:Nat×Nat×Sl×PH):Sl:=a.2.2.1
attribute [push_cast] H0 tH
def Ju(v:bX)(m:MH)(h:PH)(K:CV->MH->PH->Prop):Prop:=
  dV (gO v) 8 (K (eK 2) m h) (mT (λI x=>aA (I x) eR (aA (kZ v) (gE v) (aA (bE x) (bR v) (aA (m=m) (h=h) True)))) (λI m1 x=>CD (I x) x v (λb o y=>aM m h b (bL o x 5) (tS y)/\cW (decide (Av y>8)) (K (eK 2) m h) (decide (aG y.references>4)) (K (eK 2) m h) (dV (aG y.checks) 4 (K (eK 2) m h) (∃(x1:Nat),aA (I x1) (m1 x1<m1 x) (aA eR (kZ v) (aA (gE v) (fY (aT ((↑x:Int)+1))=bZ x1) (aA (bR v) (m=m) (bT h h))))))) (bA v.version 0 (K (eK 70) m h) (dV v.version 1000 (K (eK 70) m h) (mT (λI1 x1=>aA (I1 x1) eR (aA (gE v) (bE x1) (aH (bR v) (m=m) (h=h) True))) (λI1 m2 x1=>I1 x1->bA (↑x1:Int) (aG v.tables) (iU (λv1 s=>∃(t:uK)(i:Nat),aH (bD (jI (bI v)) (↑x1:Int)=bD
 (jI (bI v1)) (↑i:Int)) (fQ h s v1) (H0 s i t) (∀(r:Bool),(dX r↔Aa (List.take i s.tables) t)->iF (!r) (K (eK 70) m h) (λx2=>aA (I1 x2) (m2 x2<m2 x1) (aA eR (gE v) (aA (fY (aT ((↑x1:Int)+1))=bZ x2) (bR v) (aA (m=m) (h=h) True))))))) (mT (λI2 x2=>aA (I2 x2) eR (aA (gE v) (bE x2) (aH (bR v) (m=m) (h=h) True))) (λI2 m3 x2=>I2 x2->bA (↑x2:Int) (aG v.tables) (iU (λv1 s=>∃(t:uK)(i:Nat),aA (bD (jI (bI v)) (↑x2:Int)=bD (jI (bI v1)) (↑i:Int)) (fQ h s v1) (aA (Good Aa s.tables) (H0 s i t) (∀(r:Bool),(dX r↔By s.tables [] t)->iF (!r) (K (eK 70) m h) (λx3=>aA (I2 x3) (m3 x3<m3 x2) (aA eR (gE v) (aA (fY (aT ((↑x2:Int)+1))=bZ x3) (bR v) (aA (m=m) (h=h) True)))))))) (∃
 (I3:Nat×PH->Prop)(m4:Nat×PH->Nat),(∃(x3:Nat×PH),aA (I3 x3) eR (aA (gE v) (bE x3.1) (aH (bR v) (m=m) (h=x3.2) True)))/\∀(x3:Nat×PH),I3 x3->bA (↑x3.1:Int) (aG v.tables) (aW (λb o=>aH (aX (oU v) b o) (0<=(↑x3.1:Int)) ((↑x3.1:Int)<aG v.tables) (∃(y:Sl),aM m x3.2 b (bL o x3.1 5+4) (aR y)/\∃(I4:Nat×Nat×Sl×PH->Prop)(m5:Nat×Nat×Sl×PH->Nat),(∃(x4:Nat×Nat×Sl×PH),aA (I4 x4) eR (aA (cF x3.1 x4.1) (gE v) (aA (cF x3.1 x4.1) (bF y (tH x4)) (aA (cO y (tH x4)) (bE x4.2.1) (aH (bR v) (m=m) (x3.2=x4.2.2.2) True)))))/\∀(x4:Nat×Nat×Sl×PH),I4 x4->bA (↑x4.2.1:Int) (aG (tH x4)) (aW (λb1 o1=>aH (aX (tH x4).a b1 o1) (0<=(↑x4.2.1:Int)) ((↑x4.2.1:Int)<aG (tH
 x4)) (∃(y1:PV),aM m x4.2.2.2 b1 (bL o1 x4.2.1 13) y1.enc/\AQ (bD (jI (bI v)) (↑x4.1:Int)) x4.2.2.2 (λs h1=>CI (cH s (dZ lU (jI y1.enc))) h1 (λc p p1=>eA (hZ c p p1) 0 (K (eK (hZ c p p1)) m h1) (∃(x5:Nat×Nat×Sl×PH),aA (I4 x5) (m5 x5<m5 x4) (aA eR (cF x4.1 x5.1) (aA (gE v) (cF x4.1 x5.1) (aA (bF (tH x4) (tH x5)) (cO (tH x4) (tH x5)) (aA (fY (aT ((↑x4.2.1:Int)+1))=bZ x5.2.1) (bR v) (aA (m=m) (h1=x5.2.2.2) True))))))))))) (∃(x5:Nat×PH),aA (I3 x5) (m4 x5<m4 x3) (aA eR (gE v) (aA (fY (aT ((↑x4.1:Int)+1))=bZ x5.1) (bR v) (aA (m=m) (x4.2.2.2=x5.2) True))))))) (K (eK 0) m x3.2))))))))))
theorem j9.out{hx:PH}{r:CV}(hm:Sub m m')(hle:PH.le h hx)(hK:K r m h):j9 h K r m' hx:=⟨m,h,hm,.refl _,hle,hK⟩
theorem sG(h:¬Bm s):eD s=2:=by unfold eD;rw[if_neg h]
theorem IB(h:Bm s)(h':¬Hu s):eD s=70:=by unfold eD;rw[if_pos h,if_neg h']
theorem FQ(h:Bm s)(h':Hu s):eD s=pB ((List.range s.tables.length).flatMap (qI s)):=by unfold eD;rw[if_pos h,if_pos h']
theorem Aj{t:uK}(hx:s.tables[i]? =some t)(hp:t.checks[k]? =some p):(qI s i)[k]? =some (hZ (gT s i) [] p):=by
 unfold qI;rw[hx];simp[hp]
theorem GZ{t:uK}(hx:s.tables[i]? =some t):(qI s i).length=t.checks.length:=by
 unfold qI;rw[hx];simp
theorem Kq{e:Int}(hk:l[k]? =some e)(h:∀x∈l.take k,x=0)(he:e=0):∀x∈l.take (k+1),x=0:=by
 intro x hx;rw[List.take_add_one,hk,List.mem_append]at hx;rcases hx with hx|hx
 .exact h x hx
 .simp at hx;rw[hx,he]
theorem Ny{f:Nat->List Int}(h:∀j<i,∀x∈f j,x=0)(hl:(f i).length<=k)(h2:∀x∈(f i).take k,x=0):∀j<i+1,∀x∈f j,x=0:=by
 intro j hj x hx;by_cases e:j=i
 .subst e;rw[List.take_of_length_le hl]at h2;exact h2 x hx
 .exact h j aC x hx
theorem KX:Sound Tryz.prog 79 Ac:=by
 refine Fg Tryz.func79 ?_;rintro cvs m h K ⟨v,s,rfl,hs,hK⟩;refine⟨Xk v m h,rfl,aD RA (aD Rz (aD KY (aD JH aF))),Js v m h (j9 h K),by kernel_rfl,?_⟩;show Js v m h (j9 h K);dsimp only[Js,push_cast];have hl:=hs.tables.slen;have hlen:=hs.tables.len;have hver:=hs.version;have out:∀(hx:PH)(x:Int),PH.le h hx->eD s=x->j9 h K (.val (.int .i64 x)) m hx:=λhx x hle e=>.out (Sub.refl m) hle (by rw[<-e];exact hK);refine aE (λh1=>out h _ (.refl _) (sG λe=>by have:=e.1;omega)) (λh1=>?_);refine⟨λi=>i<=s.tables.length/\eJ (λ_ t=>JX t) s.tables i,λi=>s.tables.length-i,⟨0,⟨aC,.zero⟩,MT⟩,λi⟨hi,hg⟩=>aE (λhlt=>?_) (λhge=>?_)⟩
 .obtain⟨t,hx⟩:=fJ hl hlt;obtain⟨b,o,w,ea,hr,hrep⟩:=hs.tables.at hx;have e1:=bY.slen hrep.columns;have e2:=bY.slen hrep.refs;have e3:=bY.slen hrep.checks;have bad:¬JX t->j9 h K (.val (.int .i64 2)) m h:=λhn=>out h _ (.refl _) (sG λe=>Good.not hx hn e.2);refine⟨b,o,ea,aC,hlt,w,.imm hr,aE (λh2=>bad λe=>?_) (λh2=>aE (λh3=>bad λe=>?_) (λh3=>aE (λh4=>bad λe=>?_) (λh4=>⟨i+1,⟨aC,hg.succ hx ⟨aC,aC,aC⟩⟩,by show s.tables.length-(i+1)<s.tables.length-i;omega,MT⟩)))⟩
  .have:=e.1;omega
  .have:=e.2.1;omega
  .have:=e.2.2;omega
 have lim:Bm s:=⟨aC,hg.all aC⟩
 have h8:mS s:=λt ht=>by
  obtain⟨j,hj⟩:=List.mem_iff_getElem?.1 ht;exact(lim.2 j t hj).1
 have bad:¬Hu s->j9 h K (.val (.int .i64 70)) m h:=λhn=>out h _ (.refl _) (IB lim hn);refine aE (λh2=>bad λe=>?_) (λh2=>aE (λh3=>bad λe=>?_) (λh3=>⟨v,s,rfl,hs,λr hr=>aB (λh4=>bad λe=>?_) (λh4=>⟨v,s,rfl,hs,hr.1 (by simpa using h4),λr2 hr2=>aB (λh5=>bad λe=>?_) (λh5=>?_)⟩)⟩))
 .have:=e.1;omega
 .have:=e.2.1;omega
 .rw[hr.2 e.2.2.1]at h4;cases h4
 .rw[hr2.2 e.2.2.2]at h5;cases h5
 have ok:Hu s:=⟨aC,aC,hr.1 (by simpa using h4),hr2.1 (by simpa using h5)⟩
 rw[FQ lim ok]at out;refine⟨λ⟨i,hx⟩=>i<=s.tables.length/\PH.le h hx/\∀j<i,∀x∈qI s j,x=0,λ⟨i,_⟩=>s.tables.length-i,⟨(0,h),⟨aC,.refl _,λj hj=>by omega⟩,MT⟩,?_⟩;rintro⟨i,hx⟩ ⟨hi,hle,hz⟩;dsimp only;refine aE (λhlt=>?_) (λhge=>out hx _ hle (zH _ λe he=>?_))
 .obtain⟨t,ht⟩:=fJ hl hlt;obtain⟨b,o,w,ea,hr,hrep⟩:=(hs.mono hle).tables.at ht;have cl:=bY.slen hrep.checks;have cb:=bY.len hrep.checks;refine⟨b,o,ea,aC,hlt,w,.imm hr,v,s,i,rfl,hs.mono hle,h8,λsl h' hle' hints=>?_⟩;refine⟨λ⟨i',k,ks,cs,hy⟩=>i'=i/\cs=w.checks/\k<=t.checks.length/\PH.le h' hy/\Ints hy ks (gT s i)/\∀x∈(qI s i).take k,x=0,λ⟨_,k,_,_,_⟩=>t.checks.length-k,⟨(i,0,sl,w.checks,h'),⟨rfl,rfl,aC,.refl _,hints,λx hx=>by simp at hx⟩,MT⟩,?_⟩;rintro⟨i,k,ks,_,hy⟩ ⟨rfl,rfl,hk,hle2,hints2,hz2⟩;dsimp only;have hlh:PH.le h hy:=(hle.trans hle').trans hle2;refine aE (λhlt2=>?_) (λhge2=>⟨(i+1,hy),⟨aC,hlh,Ny hz (k:=k) (by rw[GZ ht];omega) hz2⟩,by show s.tables.length-(i+1)<s.tables.length-i;omega,MT⟩);obtain⟨p,hp⟩:=fJ cl hlt2;obtain⟨b2,o2,pv,ea2,hr2',hrep2⟩:=((hrep.checks.mono hle').mono hle2).at hp;refine⟨b2,o2,ea2,aC,hlt2,pv,.imm hr2',ks,⟨none,0,0⟩,pv,gT s i,[],p,rfl,hints2,⟨.nil _ _,by simp⟩,hrep2,aB (λh6=>?_) (λh6=>?_)⟩
  .exact out hy _ hlh (Hj aC hz hz2 (Aj ht hp) (by simpa using h6))
  .exact⟨(i,k+1,ks,w.checks,hy),⟨rfl,rfl,by show k+1<=t.checks.length;omega,hle2,hints2,Kq (Aj ht hp) hz2 (by simpa using h6)⟩,by show t.checks.length-(k+1)<t.checks.length-k;omega,MT⟩
 .obtain⟨j,hj,hx⟩:=List.mem_flatMap.1 he;exact hz j (by have:=List.mem_range.1 hj;omega) e hx
theorem T3:Sound Tryz.prog 63 Ac:=by
 refine Fg Tryz.func63 ?_;rintro cvs m h K ⟨v,s,rfl,hs,hK⟩;refine⟨Xt v m h,rfl,aD TU (aD TT (aD Da (aD Gi aF))),Ju v m h (j9 h K),by kernel_rfl,?_⟩;show Ju v m h (j9 h K);dsimp only[Ju,push_cast];have hl:=hs.tables.slen;have hlen:=hs.tables.len;have hver:=hs.version;have out:∀(hx:PH)(x:Int),PH.le h hx->eD s=x->j9 h K (.val (.int .i64 x)) m hx:=λhx x hle e=>.out (Sub.refl m) hle (by rw[<-e];exact hK);refine aE (λh1=>out h _ (.refl _) (sG λe=>by have:=e.1;omega)) (λh1=>?_);refine⟨λi=>i<=s.tables.length/\eJ (λ_ t=>JX t) s.tables i,λi=>s.tables.length-i,⟨0,⟨aC,.zero⟩,MT⟩,λi⟨hi,hg⟩=>aE (λhlt=>?_) (λhge=>?_)⟩
 .obtain⟨t,hx⟩:=fJ hl hlt;obtain⟨b,o,w,ea,hr,hrep⟩:=hs.tables.at hx;have e1:=bY.slen hrep.columns;have e2:=bY.slen hrep.refs;have e3:=bY.slen hrep.checks;have bad:¬JX t->j9 h K (.val (.int .i64 2)) m h:=λhn=>out h _ (.refl _) (sG λe=>Good.not hx hn e.2);refine⟨b,o,ea,aC,hlt,w,.imm hr,aE (λh2=>bad λe=>?_) (λh2=>aE (λh3=>bad λe=>?_) (λh3=>aE (λh4=>bad λe=>?_) (λh4=>⟨i+1,⟨aC,hg.succ hx ⟨aC,aC,aC⟩⟩,by show s.tables.length-(i+1)<s.tables.length-i;omega,MT⟩)))⟩
  .have:=e.1;omega
  .have:=e.2.1;omega
  .have:=e.2.2;omega
 have lim:Bm s:=⟨aC,hg.all aC⟩
 have h8:mS s:=λt ht=>by
  obtain⟨j,hj⟩:=List.mem_iff_getElem?.1 ht;exact(lim.2 j t hj).1
 have bad:¬Hu s->j9 h K (.val (.int .i64 70)) m h:=λhn=>out h _ (.refl _) (IB lim hn);refine aE (λh2=>bad λe=>?_) (λh2=>aE (λh3=>bad λe=>?_) (λh3=>?_))
 .have:=e.1;omega
 .have:=e.2.1;omega
 clear hi hg hge;refine⟨λi=>i<=s.tables.length/\eJ Aa s.tables i,λi=>s.tables.length-i,⟨0,⟨aC,.zero⟩,MT⟩,λi⟨hi,hg⟩=>aE (λhlt=>?_) (λhge=>?_)⟩
 .obtain⟨t,hx⟩:=fJ hl hlt;refine⟨v,s,t,i,rfl,hs,hx,λr hr=>aB (λh4=>bad λe=>?_) (λh4=>⟨i+1,⟨aC,hg.succ hx (hr.1 (by simpa using h4))⟩,by show s.tables.length-(i+1)<s.tables.length-i;omega,MT⟩)⟩;rw[hr.2 (e.2.2.1 i t hx)]at h4;cases h4
 have good:=hg.all aC;clear hi hg hge;refine⟨λi=>i<=s.tables.length/\eJ (By s.tables) s.tables i,λi=>s.tables.length-i,⟨0,⟨aC,.zero⟩,MT⟩,λi⟨hi,hg⟩=>aE (λhlt=>?_) (λhge=>?_)⟩
 .obtain⟨t,hx⟩:=fJ hl hlt;refine⟨v,s,t,i,rfl,hs,good,hx,λr hr=>aB (λh4=>bad λe=>?_) (λh4=>⟨i+1,⟨aC,hg.succ hx (hr.1 (by simpa using h4))⟩,by show s.tables.length-(i+1)<s.tables.length-i;omega,MT⟩)⟩;rw[hr.2 (e.2.2.2 i t hx)]at h4;cases h4
 have good2:=hg.all aC;clear hi hg hge;have ok:Hu s:=⟨aC,aC,good,good2⟩
 rw[FQ lim ok]at out;refine⟨λ⟨i,hx⟩=>i<=s.tables.length/\PH.le h hx/\∀j<i,∀x∈qI s j,x=0,λ⟨i,_⟩=>s.tables.length-i,⟨(0,h),⟨aC,.refl _,λj hj=>by omega⟩,MT⟩,?_⟩;rintro⟨i,hx⟩ ⟨hi,hle,hz⟩;dsimp only;refine aE (λhlt=>?_) (λhge=>out hx _ hle (zH _ λe he=>?_))
 .obtain⟨t,ht⟩:=fJ hl hlt;obtain⟨b,o,w,ea,hr,hrep⟩:=(hs.mono hle).tables.at ht;have cl:=bY.slen hrep.checks;have cb:=bY.len hrep.checks;refine⟨b,o,ea,aC,hlt,w.checks,.imm (aZ.part hr 4 1),?_⟩;refine⟨λ⟨i',k,cs,hy⟩=>i'=i/\cs=w.checks/\k<=t.checks.length/\PH.le hx hy/\∀x∈(qI s i).take k,x=0,λ⟨_,k,_,_⟩=>t.checks.length-k,⟨(i,0,w.checks,hx),⟨rfl,rfl,aC,.refl _,λx hx=>by simp at hx⟩,MT⟩,?_⟩;rintro⟨i,k,_,hy⟩ ⟨rfl,rfl,hk,hle2,hz2⟩;dsimp only;have hlh:PH.le h hy:=hle.trans hle2;refine aE (λhlt2=>?_) (λhge2=>⟨(i+1,hy),⟨aC,hlh,Ny hz (k:=k) (by rw[GZ ht];omega) hz2⟩,by show s.tables.length-(i+1)<s.tables.length-i;omega,MT⟩);obtain⟨p,hp⟩:=fJ cl hlt2;obtain⟨b2,o2,pv,ea2,hr2',hrep2⟩:=(hrep.checks.mono hle2).at hp;refine⟨b2,o2,ea2,aC,hlt2,pv,.imm hr2',v,s,i,rfl,hs.mono hlh,h8,λsl h' hle' hints=>⟨sl,⟨none,0,0⟩,pv,gT s i,[],p,rfl,hints,⟨.nil _ _,by simp⟩,hrep2.mono hle',aB (λh6=>?_) (λh6=>?_)⟩⟩
  .exact out h' _ (hlh.trans hle') (Hj aC hz hz2 (Aj ht hp) (by simpa using h6))
  .exact⟨(i,k+1,w.checks,h'),⟨rfl,rfl,by show k+1<=t.checks.length;omega,hle2.trans hle',Kq (Aj ht hp) hz2 (by simpa using h6)⟩,by show t.checks.length-(k+1)<t.checks.length-k;omega,MT⟩
 .obtain⟨j,hj,hx⟩:=List.mem_flatMap.1 he;exact hz j (by have:=List.mem_range.1 hj;omega) e hx
mutual
def nL:Query->Int->Int
 |.mk _ _ _ _ _ _ _ _ args,n=>kO args (n+1)
def kO:List Query->Int->Int
 |[],n=>n
 |p::ps,n=>if n<=24 then kO ps (nL p n)else n
end
mutual
def lH:Query->Nat->Bool
 |.mk _ _ _ _ _ _ _ _ _,0=>true
 |.mk _ _ _ _ _ _ _ _ args,n+1=>rQ args n
def rQ:List Query->Nat->Bool
 |[],_=>false
 |p::ps,n=>lH p n||rQ ps n
end
mutual
theorem Ey:∀(p:Query)(n:Int),n<=24->n<nL p n/\nL p n<=25
 |.mk _ _ _ _ _ _ _ _ args,n,h=>by
  have:=Dz args (n+1) aC;simp only[nL];omega
theorem Dz:∀(ps:List Query)(n:Int),n<=25->n<=kO ps n/\kO ps n<=25
 |[],n,h=>by simp only[kO];omega
 |p::ps,n,h=>by
  simp only[kO];split
  .rename_i h1;have h2:=Ey p n h1;have h3:=Dz ps (nL p n) h2.2;omega
  .omega
end
theorem Mx(ps:List Query){n:Int}(h:¬n<=24):kO ps n=n:=by
 cases ps
 .simp[kO]
 .simp only[kO,if_neg h]
theorem Ft(n:Nat):∀ps:List Query,rQ ps n=ps.any (lH · n)
 |[]=>by simp[rQ]
 |p::ps=>by simp[rQ,Ft n ps]
theorem cT.args{p:Query}(r:cT h p v):yU h v.args p.args:=by
 cases p;exact r.parts.args_
def jZ(q:Query):Bool:=decide (nL q 0<=24)&& !lH q 8
def arity(op:Int):Int:=
 if op==1 then 0 else if op==2||op==3||op==9 then 1 else if op==4||op==5||op==6||op==7||op==8||op==10 then 2 else-1
def No(N:Nat):Vc.Spec:=λcvs m h K=>∃v p k,cvs=[aQ v,cI k,cI 24]/\cT h p v/\SizeOf.sizeOf p<N/\0<=k/\k<=24/\K (cI (nL p k)) m h
def Ka(N:Nat):Vc.Spec:=λcvs m h K=>∃v p,∃k:Nat,cvs=[aQ v,cI k]/\cT h p v/\SizeOf.sizeOf p<N/\k<=100/\K (cB (lH p k)) m h
def Ni:Vc.Spec:=λcvs m h K=>∃v p,cvs=[aQ v]/\cT h p v/\K (cB (jZ p)) m h
def R5:Vc.Spec:=λcvs m h K=>∃op,cvs=[cI op]/\K (cI (arity op)) m h
def BA(l:List Int)(n:Int):Bool:=decide (0<=n)&&decide (n<l.length)
def Zo:Vc.Spec:=λcvs m h K=>∃s l n,cvs=[cS s,cI n]/\Ints h s l/\K (cB (BA l n)) m h
noncomputable def Xq(N:Nat)(v:QV)(m:MH)(h:PH):Ctx:=
 dN [(66,No N)] [(3,{A:=Nat×Int,st:=λx=>cJ 31 34 [(1,iv x.2),(2,iv 24),(3,.at (.ptr 3 0)),(7,iv x.1)] [(3,.cells 38 (v.enc.map .val))] m h})] [] [] false
noncomputable def Xp(N:Nat)(v:QV)(k:Nat)(m:MH)(h:PH):Ctx:=
 dN [(67,Ka N)] [(4,{A:=Nat,st:=λi=>cJ 23 25 [(1,iv k),(2,.at (.ptr 2 0)),(10,iv v.args.len),(11,iv i)] [(2,.cells 38 (v.enc.map .val))] m h})] [] [] false
abbrev fG(a:QV):Prop:=eQ (oL 38 a.enc)
attribute [push_cast] fG
def OU(N:Nat)(v:QV)(k:Int)(m:MH)(h:PH)(K:CV->MH->PH->Prop):Prop:=
  ∃(I:Nat×Int->Prop)(m1:Nat×Int->Nat),(∃(x:Nat×Int),aA (I x) (cM (aT (k+1)) x.2) (aA (eQ (fY 24)) (eP 3) (aA (bE x.1) (fG v) (aA (m=m) (h=h) True))))/\∀(x:Nat×Int),I x->bA (↑x.1:Int) (aG v.args) (BV x.2 24 (aW (λb o=>aH (aX v.args.a b o) (0<=(↑x.1:Int)) ((↑x.1:Int)<aG v.args) (∃(y:QV),aM m h b (bL o x.1 21) y.enc/\lQ (λv1 p=>∃(k1:Int),aA (cL y.enc (bD (eK x.2) 24)=cL v1.enc (bD (eK k1) 24)) (cT h p v1) (aA (pV p N) (cD k1) (k1<=24/\∃(x1:Nat×Int),aA (I x1) (m1 x1<m1 x) (aA (cM (nL p k1) x1.2) (eQ (fY 24)) (aA (eP 3) (fY (aT ((↑x.1:Int)+1))=bZ x1.1) (aA (fG v) (m=m) (bT h h)))))))))) (K (eK x.2) m h)) (K (eK x.2) m h)
def OT(N:Nat)(v:QV)(k:Nat)(m:MH)(h:PH)(K:CV->MH->PH->Prop):Prop:=
  dL (↑k:Int) 0 (K fO m h) (mT (λI x=>aA (I x) (eQ (bZ k)) (aA gA (bJ v.args) (aA (bE x) (fG v) (aA (m=m) (h=h) True)))) (λI m1 x=>I x->bA (↑x:Int) (aG v.args) (aW (λb o=>aH (aX v.args.a b o) (0<=(↑x:Int)) ((↑x:Int)<aG v.args) (∃(y:QV),aM m h b (bL o x 21) y.enc/\lQ (λv1 p=>∃(k1:Nat),aA (bD (bV y) (aT ((↑k:Int)-1))=bD (bV v1) (↑k1:Int)) (cT h p v1) (aA (pV p N) (k1<=100) (iF (lH p k1) (K fO m h) (λx1=>aA (I x1) (m1 x1<m1 x) (aA (eQ (bZ k)) gA (aA (bJ v.args) (fY (aT ((↑x:Int)+1))=bZ x1) (aA (fG v) (m=m) (bT h h))))))))))) (K aY m h)))
def O8(N:Nat)(v:QV)(m:MH)(h:PH)(K:CV->MH->PH->Prop):Prop:=
  lQ (λv1 p=>∃(k:Int),aA (cL v.enc (bD (eK 0) 24)=cL v1.enc (bD (eK k) 24)) (cT h p v1) (aA (pV p N) (cD k) (k<=24/\BV (nL p k) 24 (lQ (λv2 p1=>∃(k1:Nat),aA (bD (bV v) 8=bD (bV v2) (↑k1:Int)) (cT h p1 v2) (aA (pV p1 N) (k1<=100) (K (CV.val (Value.bool (!(lH p1 k1)))) m h)))) (K aY m h))))
def OC(op:Int)(m:MH)(h:PH)(K:CV->MH->PH->Prop):Prop:=
  cW (op==1) (K (eK 0) m h) (op==2) (K (eK 1) m h) (cW (op==3) (K (eK 1) m h) (op==9) (K (eK 1) m h) (cW (op==4) (K (eK 2) m h) (op==5) (K (eK 2) m h) (cW (op==6) (K (eK 2) m h) (op==7) (K (eK 2) m h) (cW (op==8) (K (eK 2) m h) (op==10) (K (eK 2) m h) (K (eK (Int.negSucc 0)) m h)))))
def LC(s:Sl)(n:Int)(m:MH)(h:PH)(K:CV->MH->PH->Prop):Prop:=
  fW n 0 (K (Ag (decide (n<aG s))) m h) (K aY m h)
theorem SH:∀N,Sound Tryz.prog 66 (No N)
 |0=>by
  refine eG (fn:=Tryz.f66) (c:=dG Tryz.f66) Tryz.func66 rfl (by decide) ?_;rintro cvs m h K ⟨v,p,k,rfl,hr,hN,_⟩;omega
 |N+1=>by
  refine hX Tryz.func66 ?_;rintro cvs m h K ⟨v,p,k,rfl,hr,hN,h0,h1,hK⟩;refine⟨Xq N v m h,rfl,aD (SH N) aF,OU N v k m h K,by kernel_rfl,?_⟩;dsimp only[OU,push_cast];have hargs:=hr.args;have hlen:=hargs.slen;have hl:=hargs.len;refine⟨λx=>x.1<=p.args.length/\0<=x.2/\x.2<=25/\kO (p.args.drop x.1) x.2=nL p k,λx=>p.args.length-x.1,⟨(0,k+1),⟨by simp,by simp;omega,by simp;omega,?_⟩,?_⟩,?_⟩
  .cases p;simp[nL,Query.args]
  .rw[dJ aC aC];exact MT
  rintro⟨i,n⟩ ⟨hi,hn0,hn1,he⟩;dsimp only at hi hn0 hn1 he⊢
  refine aE (λhlt=>aE (λhn=>?_) (λhn=>vC hK ?_)) (λhge=>vC hK ?_)
  .obtain⟨q,hq⟩:=fJ hlen hlt;obtain⟨b,o,u,ea,hrd,hru⟩:=hargs.at hq;have hb:=Ey q n hn;rw[drop_cons hq,kO,if_pos hn]at he;refine⟨b,o,ea,aC,hlt,u,.imm hrd,u,q,n,rfl,hru,?_,hn0,hn,(i+1,nL q n),⟨by dsimp only;omega,by dsimp only;omega,by dsimp only;omega,he⟩,by dsimp only;omega,MT⟩;have:=BM (List.mem_of_getElem? hq);omega
  .rw[<-he,Mx _ hn]
  .rw[<-he,List.drop_of_length_le aC];simp[kO]
theorem SG:∀N,Sound Tryz.prog 67 (Ka N)
 |0=>by
  refine eG (fn:=Tryz.f67) (c:=dG Tryz.f67) Tryz.func67 rfl (by decide) ?_;rintro cvs m h K ⟨v,p,k,rfl,hr,hN,_⟩;omega
 |N+1=>by
  refine hX Tryz.func67 ?_;rintro cvs m h K ⟨v,p,k,rfl,hr,hN,h1,hK⟩;refine⟨Xp N v k m h,rfl,aD (SG N) aF,OT N v k m h K,by kernel_rfl,?_⟩;dsimp only[OT,push_cast];have hargs:=hr.args;have hlen:=hargs.slen;have hl:=hargs.len;refine aB (λhk=>gL hK ?_) (λhk=>?_)
  .have:k=0:=by have:(k:Int)=0:=(by simpa using hk);omega
   subst this;cases p;simp[lH]
  .have hk:k≠0:=by intro e;subst e;simp at hk
   have hdk:lH p k=p.args.any (lH · (k-1)):=by
    obtain⟨k',rfl⟩:∃k',k=k'+1:=⟨k-1,aC⟩
    cases p;simp[lH,Ft,Query.args]
   rw[hdk]at hK;refine⟨λi=>i<=p.args.length/\(p.args.take i).any (lH · (k-1))=false,λi=>p.args.length-i,⟨0,⟨aC,by simp⟩,MT⟩,λi hi=>aE (λhlt=>?_) (λhge=>gL hK ?_)⟩
   .obtain⟨q,hq⟩:=fJ hlen hlt;obtain⟨b,o,u,ea,hrd,hru⟩:=hargs.at hq;refine⟨b,o,ea,aC,hlt,u,.imm hrd,u,q,k-1,?_,hru,?_,aC,aB (λhd=>gL hK ?_) (λhd=>?_)⟩
    .rw[dJ aC aC,show((k-1:Nat):Int)=(k:Int)-1 by omega]
    .have:=BM (List.mem_of_getElem? hq);omega
    .rw[List.any_eq_true];exact⟨q,List.mem_of_getElem? hq,hd⟩
    .refine⟨i+1,⟨aC,?_⟩,by show p.args.length-(i+1)<p.args.length-i;omega,MT⟩;rw[List.take_add_one,List.any_append,hi.2,hq];simpa using hd
   .have:=hi.2
    rwa [List.take_of_length_le aC]at this
theorem K4:Sound Tryz.prog 28 Ni:=by
 refine hX Tryz.func28 ?_;rintro cvs m h K ⟨v,p,rfl,hr,hK⟩;refine⟨dN [(66,No (SizeOf.sizeOf p+1)),(67,Ka (SizeOf.sizeOf p+1))] [] [] [] false,rfl,aD (SH _) (aD (SG _) aF),O8 (SizeOf.sizeOf p+1) v m h K,by kernel_rfl,?_⟩;dsimp only[O8,push_cast];refine⟨v,p,0,rfl,hr,aC,aC,aC,aB (λh1=>⟨v,p,8,rfl,hr,aC,aC,gL hK ?_⟩) (λh1=>gL hK ?_)⟩
 .simp only[jZ,h1,Bool.true_and]
 .simp only[jZ,h1,Bool.false_and]
theorem KU:Sound Tryz.prog 94 R5:=by
 refine hX Tryz.func94 ?_;rintro cvs m h K ⟨op,rfl,hK⟩;refine⟨dN [] [] [] [] false,rfl,aF,OC op m h K,by kernel_rfl,?_⟩;dsimp only[OC,push_cast]
 repeat' (first|(refine aB (λ_=>?_) (λ_=>?_))|(refine vC hK ?_;simp only[arity];simp only[*,Bool.or_false,Bool.false_or,Bool.or_true,Bool.true_or,Bool.and_true,Bool.true_and,Bool.and_false,Bool.false_and,Bool.not_true,Bool.not_false,Bool.false_eq_true,if_true,if_false, ↓reduceIte];done)|(refine vC hK ?_;simp only[arity];simp only[*,Bool.or_false,Bool.false_or,Bool.or_true,Bool.true_or,Bool.and_true,Bool.true_and,Bool.and_false,Bool.false_and,Bool.not_true,Bool.not_false,Bool.false_eq_true,if_true,if_false, ↓reduceIte];rfl))
theorem D3:Sound Tryz.prog 124 Zo:=by
 refine hX Tryz.func124 ?_;rintro cvs m h K ⟨s,l,n,rfl,hs,hK⟩;refine⟨dN [] [] [] [] false,rfl,aF,LC s n m h K,by kernel_rfl,?_⟩;dsimp only[LC,push_cast];have hl:=hs.slen;refine aE (λh1=>gL hK ?_) (λh1=>gL hK ?_)
 .have h1:0<=n:=h1;simp only[BA,hl,decide_eq_true h1,Bool.true_and]
 .have h1:¬0<=n:=by omega
  simp only[BA,decide_eq_false h1,Bool.false_and]
def Ae(a b:List Int)(pre:List (Int×Int))(p:Int×Int):Prop:=BA a p.1=true/\BA b p.2=true/\a.getD p.1.toNat 0=b.getD p.2.toNat 0/\∀q∈pre,q.1≠p.1/\q.2≠p.2
def GU(a:List Int)(pre:List Int)(c:Int):Prop:=BA a c=true/\c∉pre
def J5(a:List Int)(_:List (Int×Bool))(o:Int×Bool):Prop:=BA a o.1=true
structure uZ(a:List Int)(group:List Int)(order:List (Int×Bool))(limit:Int):Prop where
 group_:Good (GU a) group
 order_:Good (J5 a) order
 len_:order.length<=12
 low:0<=limit
 high:limit<=100
def S9:Vc.Spec:=λcvs m h K=>∃s t u on a b,cvs=[cS s,cS t,cS u]/\lD h s on/\Ints h t a/\Ints h u b/\∀r:Bool,(r=true↔Good (Ae a b) on)->K (cB r) m h
def S7:Vc.Spec:=λcvs m h K=>∃v t g o a,cvs=[aQ v,cS t]/\Ints h v.group g/\iH h v.order o/\Ints h t a/\∀r:Bool,(r=true↔uZ a g o v.limit)->K (cB r) m h
noncomputable def VU(s t u:Sl)(m:MH)(h:PH):Ctx:=
 dN [(124,Zo)] [(2,{A:=Nat,st:=λi=>cJ 66 69 [(0,sv s),(1,sv t),(2,sv u),(10,sv s),(11,iv s.len),(12,iv i)] [] m h}),
  (7,{A:=Nat×Nat×(Int×Int),st:=λ⟨i,k,p⟩=>cJ 66 69 [(0,sv s),(1,sv t),(2,sv u),(7,iv i),(8,.at (.ptr 8 0)),(9,iv k),(10,sv s),(11,iv s.len),(12,iv i)] [(8,.cells 69 [.val (.int .i64 p.1),.val (.int .i64 p.2)])] m h})] [] [] false
noncomputable def VT(v:QV)(t:Sl)(m:MH)(h:PH):Ctx:=
 dN [(124,Zo)] [(2,{A:=Nat,st:=λi=>cJ 62 64 [(1,sv t),(2,.at (.ptr 2 0)),(11,sv v.group),(12,iv v.group.len),(13,iv i)] [(2,.cells 38 (v.enc.map .val))] m h}),
  (7,{A:=Nat×Nat×Int,st:=λ⟨i,k,c⟩=>cJ 62 64 [(1,sv t),(2,.at (.ptr 2 0)),(5,iv i),(6,iv c),(7,iv k),(11,sv v.group),(12,iv v.group.len),(13,iv i)] [(2,.cells 38 (v.enc.map .val))] m h}),
  (13,{A:=Nat,st:=λi=>cJ 62 64 [(1,sv t),(2,.at (.ptr 2 0)),(36,sv v.order),(37,iv v.order.len),(38,iv i)] [(2,.cells 38 (v.enc.map .val))] m h})] [] [] false
noncomputable abbrev fL(a:Sl)(b:Int):List CV:=bD (pD a) b
abbrev EC(a:Sl)(b:Int)(c:PH)(d:(List Int)->Int->Prop):Prop:=AK (λx x1=>∃(x2:Int),aA (fL a b=fL x x2) (Ints c x x1) (d x1 x2))
abbrev eE:Prop:=eP 8
abbrev AM(a b:List At):Prop:=oQ 69 a=oQ 69 b
noncomputable abbrev pH(a:Int×Int):List At:=uD (mO a.1) (mO a.2)
attribute [push_cast] fL EC eE AM pH
def LB(s t u:Sl)(m:MH)(h:PH)(K:CV->MH->PH->Prop):Prop:=
  mT (λI x=>aA (I x) (aJ s) (aA (aJ t) (aJ u) (aA (aJ s) (bJ s) (aA (bE x) (m=m) (bT h h))))) (λI m1 x=>I x->bA (↑x:Int) (aG s) (aW (λb o=>aH (aX s.a b o) (0<=(↑x:Int)) ((↑x:Int)<aG s) (∃(y:Int×Int),aH (aM m h b (bL o x 2) (tL y)) ((0:Int)<=0) ((0:Int)<2) (EC t y.1 h (λl n=>gM (BA l n) (K aY m h) (aA (cD 1) ((1:Int)<2) (EC u y.2 h (λl1 n1=>gM (BA l1 n1) (K aY m h) (aA (cD 0) ((0:Int)<2) (aW (λb1 o1=>aH (aX t.a b1 o1) (0<=y.1) (y.1<aG t) (∃(y1:Int),aH (aM m h b1 (fR o1 y.1 1) (bN y1)) ((0:Int)<=1) ((1:Int)<2) (aW (λb2 o2=>aH (aX u.a b2 o2) (0<=y.2) (y.2<aG u) (∃(y2:Int),aM m h b2 (fR o2 y.2 1) (bN y2)/\eA y1 y2 (K aY m h) (∃(I1:Nat×Nat
 ×Int×Int->Prop)(m2:Nat×Nat×Int×Int->Nat),(∃(x1:Nat×Nat×Int×Int),aA (I1 x1) (aJ s) (aA (aJ t) (aJ u) (aA (cF x x1.1) eE (aA (bE x1.2.1) (aJ s) (aA (bJ s) (cF x x1.1) (aA (AM (pH y) (pH x1.2.2)) (m=m) (bT h h)))))))/\∀(x1:Nat×Nat×Int×Int),I1 x1->bA (↑x1.2.1:Int) (↑x1.1:Int) (aW (λb3 o3=>aA (aX s.a b3 o3) (cD (↑x1.2.1:Int)) (aA ((↑x1.2.1:Int)<aG s) (cD 0) ((0:Int)<2/\∃(y3:Int),aH (aM m h b3 (bL o3 x1.2.1 2+0) (bN y3)) ((0:Int)<=0) ((0:Int)<2) (dL y3 x1.2.2.1 (K aY m h) (aW (λb4 o4=>aA (aX s.a b4 o4) (cD (↑x1.2.1:Int)) (aA ((↑x1.2.1:Int)<aG s) (cD 1) ((1:Int)<2/\∃(y4:Int),aH (aM m h b4 (bL o4 x1.2.1 2+1) (bN y4)) ((0:Int)<=1) ((1:Int)<2) (dL y4
 x1.2.2.2 (K aY m h) (∃(x2:Nat×Nat×Int×Int),aA (I1 x2) (m2 x2<m2 x1) (aA (aJ s) (aJ t) (aA (aJ u) (cF x1.1 x2.1) (aA eE (fY (aT ((↑x1.2.1:Int)+1))=bZ x2.2.1) (aA (aJ s) (bJ s) (aA (cF x1.1 x2.1) (AM (pH x1.2.2) (pH x2.2.2)) (cA (m=m) h h))))))))))))))))) (∃(x2:Nat),aA (I x2) (m1 x2<m1 x) (aA (aJ s) (aJ t) (aA (aJ u) (aJ s) (aA (bJ s) (fY (aT ((↑x1.1:Int)+1))=bZ x2) (cA (m=m) h h))))))))))))))))))))) (K fO m h))
def LA(v:QV)(t:Sl)(m:MH)(h:PH)(K:CV->MH->PH->Prop):Prop:=
  mT (λI x=>aA (I x) (aJ t) (aA (eP 2) (aJ v.group) (aA (bJ v.group) (bE x) (aA (fG v) (m=m) (bT h h))))) (λI m1 x=>I x->bA (↑x:Int) (aG v.group) (aW (λb o=>aH (aX v.group.a b o) (0<=(↑x:Int)) ((↑x:Int)<aG v.group) (∃(y:Int),aM m h b (bL o x 1) (bN y)/\EC t y h (λl n=>gM (BA l n) (K aY m h) (∃(I1:Nat×Nat×Int->Prop)(m2:Nat×Nat×Int->Nat),(∃(x1:Nat×Nat×Int),aA (I1 x1) (aJ t) (aA (eP 2) (cF x x1.1) (aA (cM y x1.2.2) (bE x1.2.1) (aA (aJ v.group) (bJ v.group) (pJ (cF x x1.1) (fG v) (m=m) h h)))))/\∀(x1:Nat×Nat×Int),I1 x1->bA (↑x1.2.1:Int) (↑x1.1:Int) (aW (λb1 o1=>aH (aX v.group.a b1 o1) (0<=(↑x1.2.1:Int)) ((↑x1.2.1:Int)<aG v.group) (∃(y1:Int),aM m h b1 (bL o1
 x1.2.1 1) (bN y1)/\dL y1 x1.2.2 (K aY m h) (∃(x2:Nat×Nat×Int),aA (I1 x2) (m2 x2<m2 x1) (aA (aJ t) gA (aA (cF x1.1 x2.1) (cM x1.2.2 x2.2.2) (aA (fY (aT ((↑x1.2.1:Int)+1))=bZ x2.2.1) (aJ v.group) (aA (bJ v.group) (cF x1.1 x2.1) (aA (fG v) (m=m) (bT h h)))))))))) (∃(x2:Nat),aA (I x2) (m1 x2<m1 x) (aA (aJ t) gA (aA (aJ v.group) (bJ v.group) (aA (fY (aT ((↑x1.1:Int)+1))=bZ x2) (fG v) (cA (m=m) h h)))))))))) (mT (λI1 x1=>aA (I1 x1) (aJ t) (aA (eP 2) (aJ v.order) (aA (bJ v.order) (bE x1) (aA (fG v) (m=m) (bT h h))))) (λI1 m2 x1=>I1 x1->bA (↑x1:Int) (aG v.order) (aW (λb o=>aH (aX v.order.a b o) (0<=(↑x1:Int)) ((↑x1:Int)<aG v.order) (∃(y:Int×Bool),aM m h b (bL o x1 2) (xY
 y)/\EC t y.1 h (λl n=>iF (!(BA l n)) (K aY m h) (λx2=>aA (I1 x2) (m2 x2<m2 x1) (aA (aJ t) gA (aA (aJ v.order) (bJ v.order) (aA (fY (aT ((↑x1:Int)+1))=bZ x2) (fG v) (cA (m=m) h h))))))))) (BV (aG v.order) 12 (fW v.limit 0 (K (Ag (decide (v.limit<=100))) m h) (K aY m h)) (K aY m h)))))
theorem Jc{α:Type}{l:List α}{x:α}(hx:l[i]? =some x)(hi:i<k):x∈l.take k:=List.mem_of_getElem? (i:=i) (by rw[List.getElem?_take,if_pos hi,hx])
theorem NH{α:Type}{l:List α}{x y:α}(hx:l[i]? =some x)(hy:y∈l.take (i+1)):y∈l.take i\/y=x:=by
 rw[List.take_add_one,hx,List.mem_append]at hy;rcases hy with h|h
 .exact .inl h
 .simp at h;exact .inr h
theorem j7{n:Int}:BA l n=true↔0<=n/\n<l.length:=by simp[BA]
theorem Rr:Sound Tryz.prog 125 S9:=by
 refine hX Tryz.func125 ?_;rintro cvs m h K ⟨s,t,u,on,a,b,rfl,hs,ht,hu,hK⟩;refine⟨VU s t u m h,rfl,aD D3 aF,LB s t u m h K,by kernel_rfl,?_⟩;dsimp only[LB,push_cast];have hl:=hs.slen;have hlen:=hs.len;have ta:=ht.slen;have ub:=hu.slen;refine⟨λi=>i<=on.length/\eJ (Ae a b) on i,λi=>on.length-i,⟨0,⟨aC,.zero⟩,MT⟩,λi⟨hi,hg⟩=>aE (λhlt=>?_) (λhge=>hK true ⟨λ_=>hg.all aC,λ_=>rfl⟩)⟩;obtain⟨p,hp⟩:=fJ hl hlt;obtain⟨b1,o1,e1,r1⟩:=hs.at hp;have bad:¬Ae a b (on.take i) p->K (.val (.bool false)) m h:=λhn=>hK false ⟨λe=>(by cases e),λe=>(Good.not hp hn e).elim⟩;refine⟨b1,o1,e1,aC,hlt,p,.imm r1,aC,aC,t,a,p.1,rfl,ht,aB (λh1=>bad λhh=>?_) (λh1=>⟨aC,aC,u,b,p.2,rfl,hu,aB (λh2=>bad λhh=>?_) (λh2=>?_)⟩)⟩
 .rw[hh.1]at h1;cases h1
 .rw[hh.2.1]at h2;cases h2
 have i1:BA a p.1=true:=by simpa using h1
 have i2:BA b p.2=true:=by simpa using h2
 have i1':=j7.1 i1;have i2':=j7.1 i2;obtain⟨b2,o2,e2,r2⟩:=ht.inb i1'.1 i1'.2;obtain⟨b3,o3,e3,r3⟩:=hu.inb i2'.1 i2'.2;refine⟨aC,aC,b2,o2,e2,aC,aC,_,.imm r2,aC,aC,b3,o3,e3,aC,aC,_,.imm r3,aB (λh3=>bad λhh=>?_) (λh3=>?_)⟩
 .rw[hh.2.2.1]at h3;simp at h3
 refine⟨λ⟨i',k,p'⟩=>i'=i/\p'=p/\k<=i/\∀q∈on.take k,q.1≠p.1/\q.2≠p.2,λ⟨_,k,_⟩=>i-k,⟨(i,0,p),⟨rfl,rfl,aC,λq hq=>by simp at hq⟩,MT⟩,?_⟩;rintro⟨i,k,p⟩ ⟨rfl,rfl,hk,hno⟩;dsimp only;refine aE (λhlt2=>?_) (λhge2=>?_)
 .obtain⟨q,hq⟩:∃q,on[k]? =some q:=⟨on[k]'(by omega),List.getElem?_eq_getElem _⟩
  obtain⟨b4,o4,e4,r4⟩:=hs.at hq;refine⟨b4,o4,e4,aC,aC,aC,aC,q.1,.imm (aZ.part r4 0 1),aC,aC,aB (λh4=>bad λhh=>?_) (λh4=>⟨b4,o4,e4,aC,aC,aC,aC,q.2,.imm (aZ.part r4 1 1),aC,aC,aB (λh5=>bad λhh=>?_) (λh5=>?_)⟩)⟩
  .exact(hh.2.2.2 q (Jc hq aC)).1 (by simpa using h4)
  .exact(hh.2.2.2 q (Jc hq aC)).2 (by simpa using h5)
  .refine⟨(i,k+1,p),⟨rfl,rfl,by show k+1<=i;omega,λq' hq'=>?_⟩,by show i-(k+1)<i-k;omega,MT⟩;rcases NH hq hq' with e|rfl
   .exact hno q' e
   .exact⟨by simpa using h4,by simpa using h5⟩
 .have:k=i:=by omega
  subst this;exact⟨k+1,⟨aC,hg.succ hp ⟨i1,i2,by simpa using h3,hno⟩⟩,by show on.length-(k+1)<on.length-k;omega,MT⟩
theorem Rq:Sound Tryz.prog 126 S7:=by
 refine hX Tryz.func126 ?_;rintro cvs m h K ⟨v,t,g,o,a,rfl,hg,ho,ht,hK⟩;refine⟨VT v t m h,rfl,aD D3 aF,LA v t m h K,by kernel_rfl,?_⟩;dsimp only[LA,push_cast];have gl:=hg.slen;have glen:=hg.len;have ol:=ho.slen;have olen:=ho.len;have bad:¬uZ a g o v.limit->K (.val (.bool false)) m h:=λhn=>hK false ⟨λe=>(by cases e),λe=>(hn e).elim⟩;refine⟨λi=>i<=g.length/\eJ (GU a) g i,λi=>g.length-i,⟨0,⟨aC,.zero⟩,MT⟩,λi⟨hi,hgi⟩=>aE (λhlt=>?_) (λhge=>?_)⟩
 .obtain⟨c,hc⟩:=fJ gl hlt;obtain⟨b1,o1,e1,r1⟩:=hg.at' hc;refine⟨b1,o1,e1,aC,hlt,c,.imm r1,t,a,c,rfl,ht,aB (λh1=>bad λhh=>Good.not hc (λhx=>?_) hh.group_) (λh1=>?_)⟩
  .rw[hx.1]at h1;cases h1
  refine⟨λ⟨i',k,c'⟩=>i'=i/\c'=c/\k<=i/\c∉g.take k,λ⟨_,k,_⟩=>i-k,⟨(i,0,c),⟨rfl,rfl,aC,by simp⟩,MT⟩,?_⟩;rintro⟨i,k,c⟩ ⟨rfl,rfl,hk,hno⟩;dsimp only;refine aE (λhlt2=>?_) (λhge2=>?_)
  .obtain⟨q,hq⟩:∃q,g[k]? =some q:=⟨g[k]'(by omega),List.getElem?_eq_getElem _⟩
   obtain⟨b4,o4,e4,r4⟩:=hg.at' hq;refine⟨b4,o4,e4,aC,aC,q,.imm r4,aB (λh4=>bad λhh=>Good.not hc (λhx=>?_) hh.group_) (λh4=>?_)⟩
   .refine hx.2 ?_;have:q=c:=by simpa using h4
    rw[<-this];exact Jc hq aC
   .refine⟨(i,k+1,c),⟨rfl,rfl,by show k+1<=i;omega,λhq'=>?_⟩,by show i-(k+1)<i-k;omega,MT⟩;rcases NH hq hq' with e|rfl
    .exact hno e
    .simp at h4
  .have:k=i:=by omega
   subst this;exact⟨k+1,⟨aC,hgi.succ hc ⟨by simpa using h1,hno⟩⟩,by show g.length-(k+1)<g.length-k;omega,MT⟩
 have gg:=hgi.all aC;clear hi hgi hge;refine⟨λi=>i<=o.length/\eJ (J5 a) o i,λi=>o.length-i,⟨0,⟨aC,.zero⟩,MT⟩,λi⟨hi,hoi⟩=>aE (λhlt=>?_) (λhge=>?_)⟩
 .obtain⟨c,hc⟩:=fJ ol hlt;obtain⟨b1,o1,e1,r1⟩:=ho.at hc;refine⟨b1,o1,e1,aC,hlt,c,.imm r1,t,a,c.1,rfl,ht,aB (λh1=>bad λhh=>Good.not hc (λhx=>?_) hh.order_) (λh1=>⟨i+1,⟨aC,hoi.succ hc (by simpa[J5]using h1)⟩,by show o.length-(i+1)<o.length-i;omega,MT⟩)⟩;rw[show BA a c.1=true from hx]at h1;cases h1
 have oo:=hoi.all aC;refine aE (λh1=>aE (λh2=>?_) (λh2=>bad λhh=>?_)) (λh1=>bad λhh=>?_)
 .refine hK (decide (v.limit<=100)) ⟨λe=>⟨gg,oo,aC,h2,by simpa using e⟩,λe=>decide_eq_true e.high⟩
 .have:=hh.low;omega
 .have:=hh.len_;omega
def gV:Pred:=.mk 0 0 dH dH []
def dE:Query->Prop
 |.mk op ta w co on gr od li _=>(op=1\/ta=0)/\(op=2\/w=gV)/\(op=3\/co=[])/\(op=4\/op=5\/on=[])/\(op=9\/op=10\/(gr=[]/\od=[]/\li=0))
def zF(l:List Int):List Int×Int:=if l.length<=12 then(l,0)else([],2)
def iR(e:Int):List Int×Int:=([],e)
open Classical in
noncomputable def iA(s:nY)(ps:List Int)(q:Query)(a b:List Int):List Int×Int:=
 if arity (match q with|.mk op .. =>op)<0\/¬dE q then iR 100 else
 match q with
 |.mk op ta w co on gr od li _=>
  if op=1 then(if 0<=ta/\ta<s.tables.length then zF (gT s ta)else iR 100)
  else if op=2 then(if hZ a ps w=0 then zF a else iR (hZ a ps w))
  else if op=3 then(if co≠[]/\Good (λ_ c=>BA a c=true) co then zF (co.map λc=>a.getD c.toNat 0)else iR 100)
  else if op=4 then(if Good (Ae a b) on then zF (a++b)else iR 100)
  else if op=5 then(if Good (Ae a b) on then zF a else iR 100)
  else if op=9 then(if uZ a gr od li then zF a else iR 100)
  else if op=10 then(if a=b/\uZ a gr od li then zF a else iR 100)
  else(if a=b then zF a else iR 100)
def SX:Vc.Spec:=λcvs m h K=>∃v q,cvs=[aQ v]/\cT h q v/\∀r:Bool,(r=true↔dE q)->K (cB r) m h
def KR(K:CV->MH->PH->Prop)(m:MH)(h:PH)(r:List Int×Int):Prop:=∀sl h',PH.le h h'->Ints h' sl r.1->K (.tup [cS sl,cI r.2]) m h'
def Yp:Vc.Spec:=λcvs m h K=>∃sc p v a b s ps q la lb,cvs=[aS sc,cS p,aQ v,cS a,cS b]/\fQ h s sc/\mS s/\Ints h p ps/\cT h q v/\Ints h a la/\Ints h b lb/\la.length<=12/\lb.length<=12/\KR K m h (iA s ps q la lb)
noncomputable def Xc(m:MH):Ctx:=
 dN [(94,R5),(123,SX),(44,uM),(69,qD),(124,Zo),(125,S9),(126,S7),(127,Ad)] [(20,{A:=Nat×Sl×Sl×List Int×PH,st:=λ⟨i,a,co,l,h⟩=>cJ 121 126 [(3,sv a),(12,.at (.lst 94)),(78,sv co),(79,iv co.len),(80,iv i)] [(94,.lst 3 1 (l.map eI))] m h})] [] [] false
noncomputable def VW(v:QV)(m:MH)(h:PH):Ctx:=
 Zr [(163,Yb)] [] [(2,{A:=Bool,st:=λr=>cJ 78 79 [(1,.at (.ptr 1 0)),(3,bv r)] [(1,.cells 38 (v.enc.map .val))] m h})] [(2,[(9,{A:=Bool×Bool,st:=λx=>cJ 78 79 [(1,.at (.ptr 1 0)),(3,bv x.1),(20,bv x.2)] [(1,.cells 38 (v.enc.map .val))] m h}),
  (11,{A:=Bool×Bool,st:=λx=>cJ 78 79 [(1,.at (.ptr 1 0)),(3,bv x.1),(31,bv x.2)] [(1,.cells 38 (v.enc.map .val))] m h}),
  (11,{A:=Bool×Bool,st:=λx=>cJ 78 79 [(1,.at (.ptr 1 0)),(3,bv x.1),(42,bv x.2)] [(1,.cells 38 (v.enc.map .val))] m h}),
  (16,{A:=Bool×Bool,st:=λx=>cJ 78 79 [(1,.at (.ptr 1 0)),(3,bv x.1),(58,bv x.2)] [(1,.cells 38 (v.enc.map .val))] m h})])] [] false
abbrev gP(a b:Bool):Prop:=Zz a=Zz b
abbrev uS(a:Bool):Prop:=gP true a
abbrev ER(a:Prop)(b:(Bool×Bool->Prop)->Prop)(c:(Bool×Bool->Prop)->(Bool×Bool)->Prop):Prop:=a->∃(x:Bool×Bool->Prop),b x/\∀(x1:Bool×Bool),c x x1
noncomputable abbrev iD:List Value:=iC tZ
abbrev CH(a:Bool×Bool->Prop)(b:Bool×Bool)(c:(Bool×Bool)->Prop)(d:QV)(e:MH)(g:PH):Prop:=∃(x:Bool×Bool),aA (a x) eR (aA (gP b.1 x.1) (c x) (aH (fG d) (e=e) (g=g) True))
abbrev Ay(a:Bool):Prop:=gP false a
attribute [push_cast] gP uS ER iD CH Ay
def LD(v:QV)(m:MH)(h:PH)(K:CV->MH->PH->Prop):Prop:=
  ∃(I:Bool->Prop),dL v.op 9 (∃(x:Bool),aA (I x) eR (aA (uS x) (fG v) (cA (m=m) h h))) (∃(x:Bool),aA (I x) eR (aA (gP (v.op==10) x) (fG v) (cA (m=m) h h)))/\∀(x:Bool),ER (I x) (λI1=>dL v.op 1 (∃(x1:Bool×Bool),aA (I1 x1) eR (aA (gP x x1.1) (uS x1.2) (aH (fG v) (m=m) (h=h) True))) (∃(x1:Bool×Bool),aA (I1 x1) eR (aA (gP x x1.1) (gP (v.table==0) x1.2) (aH (fG v) (m=m) (h=h) True)))) (λI1 x1=>ER (I1 x1) (λI2=>branch x1.2 (dL v.op 2 (∃(x2:Bool×Bool),aA (I2 x2) eR (aA (gP x1.1 x2.1) (uS x2.2) (aH (fG v) (m=m) (h=h) True))) (EP (λv1 w p q=>aH (jE v.where_.enc (aL bC bC (aL bC bC (aL bC bC (aL R8 bC (aL bC bC (aL bC R8 iD))))))=
 jE v1.enc w.enc) (eH h p v1) (eH h q w) (∀(r:Bool),(dX r↔p=q)->CH I2 x1 (λx2=>gP r x2.2) v m h)))) (∃(x2:Bool×Bool),aA (I2 x2) eR (aA (gP x1.1 x2.1) (Ay x2.2) (aH (fG v) (m=m) (h=h) True)))) (λI2 x2=>ER (I2 x2) (λI3=>branch x2.2 (dL v.op 3 (∃(x3:Bool×Bool),aA (I3 x3) eR (aA (gP x2.1 x3.1) (uS x3.2) (aH (fG v) (m=m) (h=h) True))) (CH I3 x2 (λx3=>gP (aG v.columns==0) x3.2) v m h)) (∃(x3:Bool×Bool),aA (I3 x3) eR (aA (gP x2.1 x3.1) (Ay x3.2) (aH (fG v) (m=m) (h=h) True)))) (λI3 x3=>ER (I3 x3) (λI4=>branch x3.2 (cW (v.op==4) (CH I4 x3 (λx4=>uS x4.2) v m h) (v.op==5) (CH I4 x3 (λx4=>uS x4.2) v m h) (CH I4 x3 (λx4=>gP (aG v.on==0) x4.2) v m h)) (∃(x4:Bool
 ×Bool),aA (I4 x4) eR (aA (gP x3.1 x4.1) (Ay x4.2) (aH (fG v) (m=m) (h=h) True)))) (λI4 x4=>gQ (I4 x4) x4.2 (cW x4.1 (K fO m h) (aG v.group==0) (dL (aG v.order) 0 (K (Ag (v.limit==0)) m h) (K aY m h)) (K aY m h)) (K aY m h)))))
noncomputable abbrev dA(a:Sl):Sl:=Sl.mk a.a a.len a.cap
noncomputable abbrev iL(a:List (List Value)):Int:=(↑a.length:Int)
abbrev vJ(a:PH)(b:List (List Value))(c:CV->MH->PH->Prop)(d:MH):Prop:=bM a 1 b (λx x1=>c (CV.tup (bD (pD x) 0)) d x1)
noncomputable abbrev tI(a:Nat×Sl×Sl×List Int×PH):Sl:=a.2.2.1
noncomputable abbrev xU(a:Nat×Sl×Sl×List Int×PH):List Int:=a.2.2.2.1
noncomputable abbrev tJ(a:Nat×Sl×Sl×List Int×PH):Nat->Nat->Option Value:=a.2.2.2.2
abbrev I7(a:Sl->(List (Int×Int))->Prop):Prop:=∃(x:Sl)(x1:List (Int×Int)),a x x1
abbrev qS(a b:List (List Value))(c:Nat):Prop:=gK ((a.length+b.length)*c)
abbrev wX(a:List (List Value))(b:Nat):Prop:=gK (a.length+b)
abbrev qT(a b:List (List Value)):Prop:=wX a b.length
attribute [push_cast] dA iL vJ tI xU tJ I7 qS wX qT
def Jp(sc:bX)(p:Sl)(v:QV)(a b:Sl)(m:MH)(h:PH)(K:CV->MH->PH->Prop):Prop:=
  jM v.op (λo=>bA (arity o) 0 (K (CV.tup (bD lU 100)) m h) (lQ (λv1 q=>aA (oB (bV v)=oB (bV v1)) (cT h q v1) (∀(r:Bool),gQ (dX r↔dE q) (!r) (K (CV.tup (bD lU 100)) m h) (∃(y:List (List Value)),aA (dU 1 y) (cN h (dA a) 1 y) (aA (gK (y.length*8)) (gK y.length) (cW (v.op==1) (bA v.table 0 (K (CV.tup (bD lU 100)) m h) (fW v.table (gO sc) (K (CV.tup (bD lU 100)) m h) (AQ (bD (jI (bI sc)) v.table) h (λs h1=>dV (aG s) 12 (K (CV.tup (bD lU 2)) m h1) (K (CV.tup (bD (pD s) 0)) m h1))))) (v.op==2) (CI (cH a (fK p (jI v.where_.enc))) h (λc p1 p2=>cW (hZ c p1 p2 !=0) (K (CV.tup (bD lU (hZ c p1 p2))) m h) (decide (iL y>12)) (K (CV.tup (bD lU 2)) m h) (vJ h y K m))) (cW (v.op==3) (dL (aG
 v.columns) 0 (K (CV.tup (bD lU 100)) m h) (∃(I:Nat×Sl×Sl×List Int×PH->Prop)(m1:Nat×Sl×Sl×List Int×PH->Nat),(∃(x:Nat×Sl×Sl×List Int×PH),aA (I x) (bF a x.2.1) (aA (eL 94) (bF v.columns (tI x)) (aA (cO v.columns (tI x)) (bE x.1) (aA (nG (xU x)) (m=m) (bT h (tJ x))))))/\∀(x:Nat×Sl×Sl×List Int×PH),I x->bA (↑x.1:Int) (aG (tI x)) (aW (λb1 o1=>aH (aX (tI x).a b1 o1) (0<=(↑x.1:Int)) ((↑x.1:Int)<aG (tI x)) (∃(y1:Int),aM m (tJ x) b1 (bL o1 x.1 1) (bN y1)/\AK (λs l=>∃(n:Int),aA (fL x.2.1 y1=fL s n) (Ints (tJ x) s l) (gM (BA l n) (K (CV.tup (bD lU 100)) m (tJ x)) (aW (λb2 o2=>aH (aX x.2.1.a b2 o2) (0<=y1) (y1<aG x.2.1) (∃(y2:Int),aH (aM m (tJ x)
 b2 (fR o2 y1 1) (bN y2)) (xQ (xU x)) (gS (eF (xU x))) (∃(x1:Nat×Sl×Sl×List Int×PH),aA (I x1) (m1 x1<m1 x) (aA (bF x.2.1 x1.2.1) (eL 94) (aA (bF (tI x) (tI x1)) (cO (tI x) (tI x1)) (aA (fY (aT ((↑x.1:Int)+1))=bZ x1.1) (nH (xU x) y2 (xU x1)) (cA (m=m) (tJ x) (tJ x1)))))))))))))) (dV (iL (eF (xU x))) 12 (K (CV.tup (bD lU 2)) m (tJ x)) (bM (tJ x) 1 (eF (xU x)) (λs h1=>K (CV.tup (bD (pD s) 0)) m h1))))) (v.op==4) (iZ (λs t=>I7 (λu o1=>uC (λa1 b1=>aA (cH v.on (eY a b)=cH s (eY t u)) (lD h s o1) (aA (Ints h t a1) (Ints h u b1) (∀(r1:Bool),(dX r1↔Good (Ae a1 b1) o1)->cW (!r1) (K (CV.tup (bD lU 100)) m h) (v.op==4) (∃(y1:List (List Value)),
 aA (dU 1 y1) (cN h (dA b) 1 y1) (aA (qS y y1 8) (qT y y1) (dV (iL (y++y1)) 12 (K (CV.tup (bD lU 2)) m h) (vJ h (y++y1) K m)))) (dV (iL y) 12 (K (CV.tup (bD lU 2)) m h) (vJ h y K m)))))))) (cW (v.op==5) (iZ (λs t=>I7 (λu o1=>uC (λa1 b1=>aA (cH v.on (eY a b)=cH s (eY t u)) (lD h s o1) (aA (Ints h t a1) (Ints h u b1) (∀(r1:Bool),(dX r1↔Good (Ae a1 b1) o1)->cW (!r1) (K (CV.tup (bD lU 100)) m h) (v.op==4) (∃(y1:List (List Value)),aA (dU 1 y1) (cN h (dA b) 1 y1) (aA (qS y y1 8) (qT y y1) (dV (iL (y++y1)) 12 (K (CV.tup (bD lU 2)) m h) (vJ h (y++y1) K m)))) (dV (iL y) 12 (K (CV.tup (bD lU 2)) m h) (vJ h y K m)))))))) (v.op==9) (∃(v2:QV),AK (λt g=>∃(o1:List (Int×Bool))(a1:
 List Int),aA (dZ (bV v) (pD a)=dZ (bV v2) (pD t)) (Ints h v2.group g) (aA (iH h v2.order o1) (Ints h t a1) (∀(r1:Bool),(dX r1↔uZ a1 g o1 v2.limit)->cW (!r1) (K (CV.tup (bD lU 100)) m h) (decide (iL y>12)) (K (CV.tup (bD lU 2)) m h) (vJ h y K m))))) (iZ (λs t=>uC (λa1 b1=>aH (eY a b=eY s t) (Ints h s a1) (Ints h t b1) (∀(r1:Bool),(dX r1↔a1=b1)->cW (!r1) (K (CV.tup (bD lU 100)) m h) (v.op==10) (∃(v2:QV),AK (λt1 g=>∃(o1:List (Int×Bool))(a2:List Int),aA (dZ (bV v) (pD a)=dZ (bV v2) (pD t1)) (Ints h v2.group g) (aA (iH h v2.order o1) (Ints h t1 a2) (∀(r2:Bool),(dX r2↔uZ a2 g o1 v2.limit)->cW (!r2) (K (CV.tup (bD lU 100)) m h) (decide (iL y>12)) (K (CV.tup (bD lU 2)) m h) (vJ h y K m))))) (dV
 (iL y) 12 (K (CV.tup (bD lU 2)) m h) (vJ h y K m)))))))))))))))
theorem Dv{α:Type}{n:Nat}{l:List α}(h:n=l.length):((n:Int)==0)=true↔l=[]:=by
 rw[beq_iff_eq,h, <-List.length_eq_zero_iff];omega
theorem Ao(h:PH):eH h gV ⟨0,0,dH,dH,⟨none,0,0⟩⟩:=eH.mk (v:=⟨0,0,dH,dH,⟨none,0,0⟩⟩) (.nil _ _ _ _)
theorem Rs:Sound Tryz.prog 123 SX:=by
 refine hX Tryz.func123 ?_;rintro cvs m h K ⟨v,q,rfl,hq,hK⟩;refine⟨VW v m h,rfl,aD QZ aF,LD v m h K,by kernel_rfl,?_⟩;dsimp only[LD,push_cast];obtain⟨op,ta,w,co,on,gr,od,li,args⟩:=q;have a:=hq.parts;have e0:=a.op_;have e1:=a.table_;have e2:=a.limit_;have l1:=Dv a.columns_.slen;have l2:=Dv a.on_.slen;have l3:=Dv a.group_.slen;have l4:=Dv a.order_.slen;simp only[dE]at hK;subst e0 e1 e2;refine⟨λr=>(r=true↔v.op=9\/v.op=10),aB (λh1=>⟨true,by simp at h1;simp[h1],MT⟩) (λh1=>⟨_,?_,MT⟩),λr hr=>?_⟩
 .simp only[beq_eq_false_iff_ne]at h1;simp[h1]
 refine⟨λx=>x.1=r/\(x.2=true↔(v.op=1\/v.table=0)),aB (λh1=>⟨(r,true),⟨rfl,by simp at h1;simp[h1]⟩,MT⟩) (λh1=>⟨(r,_),⟨rfl,?_⟩,MT⟩),?_⟩
 .simp only[beq_eq_false_iff_ne]at h1;simp[h1]
 rintro⟨r,c⟩ ⟨rfl,hc⟩;dsimp only at hc hr⊢
 refine⟨λx=>x.1=r/\(x.2=true↔(v.op=1\/v.table=0)/\(v.op=2\/w=gV)),aB (λh1=>aB (λh2=>⟨(r,true),⟨rfl,⟨λ_=>⟨hc.1 h1,.inl (by simpa using h2)⟩,λ_=>rfl⟩⟩,MT⟩) (λh2=>⟨v.where_,⟨0,0,dH,dH,⟨none,0,0⟩⟩,w,gV,rfl,a.where_,Ao h,λr' hr'=>⟨(r,r'),⟨rfl,?_⟩,MT⟩⟩)) (λh1=>⟨(r,false),⟨rfl,?_⟩,MT⟩),?_⟩
 .simp only[beq_eq_false_iff_ne]at h2;simp only[hr',hc.1 h1,h2,true_and,false_or]
 .rw[h1]at hc;simp only[Bool.false_eq_true,false_iff]at hc⊢;exactλe=>hc e.1
 clear hc c;rintro⟨r,c⟩ ⟨rfl,hc⟩;dsimp only at hc hr⊢
 refine⟨λx=>x.1=r/\(x.2=true↔(v.op=1\/v.table=0)/\(v.op=2\/w=gV)/\(v.op=3\/co=[])),aB (λh1=>aB (λh2=>⟨(r,true),⟨rfl,⟨λ_=>⟨(hc.1 h1).1,(hc.1 h1).2,.inl (by simpa using h2)⟩,λ_=>rfl⟩⟩,MT⟩) (λh2=>⟨(r,_),⟨rfl,?_⟩,MT⟩)) (λh1=>⟨(r,false),⟨rfl,?_⟩,MT⟩),?_⟩
 .simp only[beq_eq_false_iff_ne]at h2;simp only[l1,hc.1 h1,h2,true_and,false_or]
 .rw[h1]at hc;simp only[Bool.false_eq_true,false_iff]at hc⊢;exactλe=>hc ⟨e.1,e.2.1⟩
 clear hc c;rintro⟨r,c⟩ ⟨rfl,hc⟩;dsimp only at hc hr⊢
 refine⟨λx=>x.1=r/\(x.2=true↔(v.op=1\/v.table=0)/\(v.op=2\/w=gV)/\(v.op=3\/co=[])/\(v.op=4\/v.op=5\/on=[])),aB (λh1=>aB (λh2=>⟨(r,true),⟨rfl,⟨λ_=>⟨(hc.1 h1).1,(hc.1 h1).2.1,(hc.1 h1).2.2,.inl (by simpa using h2)⟩,λ_=>rfl⟩⟩,MT⟩) (λh2=>aB (λh3=>⟨(r,true),⟨rfl,⟨λ_=>⟨(hc.1 h1).1,(hc.1 h1).2.1,(hc.1 h1).2.2,.inr (.inl (by simpa using h3))⟩,λ_=>rfl⟩⟩,MT⟩) (λh3=>⟨(r,_),⟨rfl,?_⟩,MT⟩))) (λh1=>⟨(r,false),⟨rfl,?_⟩,MT⟩),?_⟩
 .simp only[beq_eq_false_iff_ne]at h2 h3;simp only[l2,hc.1 h1,h2,h3,true_and,false_or]
 .rw[h1]at hc;simp only[Bool.false_eq_true,false_iff]at hc⊢;exactλe=>hc ⟨e.1,e.2.1,e.2.2.1⟩
 clear hc c;rintro⟨r,c⟩ ⟨rfl,hc⟩;dsimp only at hc hr⊢
 refine aB (λh1=>aB (λh2=>hK true ⟨λ_=>?_,λ_=>rfl⟩) (λh2=>aB (λh3=>aB (λh4=>hK _ ?_) (λh4=>hK false ?_)) (λh3=>hK false ?_))) (λh1=>hK false ?_)
 .obtain⟨p1,p2,p3,p4⟩:=hc.1 h1;refine⟨p1,p2,p3,p4,?_⟩;rcases hr.1 h2 with e|e
  .exact .inl e
  .exact .inr (.inl e)
 .obtain⟨p1,p2,p3,p4⟩:=hc.1 h1;have nr:¬(v.op=9\/v.op=10):=λe=>by rw[hr.2 e]at h2;cases h2
  rw[beq_iff_eq];refine⟨λe=>⟨p1,p2,p3,p4,.inr (.inr ⟨l3.1 h3,l4.1 h4,e⟩)⟩,λe=>?_⟩;rcases e.2.2.2.2 with e|e|e
  .exact(nr (.inl e)).elim
  .exact(nr (.inr e)).elim
  .exact e.2.2
 .have nr:¬(v.op=9\/v.op=10):=λe=>by rw[hr.2 e]at h2;cases h2
  refine⟨λe=>(by cases e),λe=>?_⟩;rcases e.2.2.2.2 with e|e|e
  .exact(nr (.inl e)).elim
  .exact(nr (.inr e)).elim
  .rw[l4.2 e.2.1]at h4;cases h4
 .have nr:¬(v.op=9\/v.op=10):=λe=>by rw[hr.2 e]at h2;cases h2
  refine⟨λe=>(by cases e),λe=>?_⟩;rcases e.2.2.2.2 with e|e|e
  .exact(nr (.inl e)).elim
  .exact(nr (.inr e)).elim
  .rw[l3.2 e.1]at h3;cases h3
 .refine⟨λe=>(by cases e),λe=>?_⟩;rw[hc.2 ⟨e.1,e.2.1,e.2.2.1,e.2.2.2.1⟩]at h1;cases h1
theorem BL(l:List Int):dU 1 (l.map eI):=by
 constructor
 .intro e he;obtain⟨x,_,rfl⟩:=List.mem_map.1 he;rfl
 .intro e he u hu;obtain⟨x,_,rfl⟩:=List.mem_map.1 he;simp[eI]at hu;subst hu;rfl
theorem KR.err{r:List Int×Int}{e:Int}(hK:KR K m h r)(hle:PH.le h h')(he:r=iR e):K (.tup [.val (.slice none 0 0),.val (.int .i64 e)]) m h':=by
 subst he;exact hK ⟨none,0,0⟩ h' hle ⟨.nil _ _,by simp[iR]⟩
theorem KR.big{r:List Int×Int}(hK:KR K m h r)(hle:PH.le h h')(he:r=zF l)(hl:12<l.length):K (.tup [.val (.slice none 0 0),.val (.int .i64 2)]) m h':=
 hK.err hle (by rw[he,zF,if_neg aC];rfl)
theorem KR.ok{r:List Int×Int}{sl:Sl}(hK:KR K m h r)(hle:PH.le h h')(he:r=zF l)(hl:l.length<=12)(hi:cN h' sl 1 (l.map eI)):K (.tup [.val (.slice sl.a sl.len sl.cap),.val (.int .i64 0)]) m h':=by
 rw[he,zF,if_pos hl]at hK;exact hK sl h' hle ⟨hi,by show l.length<=17592186044416;omega⟩
theorem YQ{p:Sl}{a b:Sl}{la lb:List Int}(hs:fQ h s sc)(h8:mS s)(hp:Ints h p ps)(hq:cT h q v)(ha:Ints h a la)(hb:Ints h b lb)(la12:la.length<=12)(lb12:lb.length<=12)(hK:KR K m h (iA s ps q la lb)):Jp sc p v a b m h K:=by
 dsimp only[Jp,push_cast];have hqr:=hq;obtain⟨op,ta,w,co,on,gr,od,li,args⟩:=q;have x:=hq.parts;have e0:=x.op_;have e1:=x.table_;have e2:=x.limit_;have hsl:=hs.tables.slen;have hal:=ha.slen;have hcl:=x.columns_.slen;have hclen:=x.columns_.len;subst e0 e1 e2;refine⟨v.op,rfl,aE (λh1=>hK.err (.refl _) ?_) (λh1=>⟨v,_,rfl,hqr,λr hr=>aB (λh2=>hK.err (.refl _) ?_) (λh2=>?_)⟩)⟩
 .unfold iA;rw[if_pos (.inl h1)]
 .unfold iA;rw[if_pos (.inr λe=>by rw[hr.2 e]at h2;cases h2)]
 have hu:dE (.mk v.op v.table w co on gr od v.limit args):=hr.1 (by simpa using h2);unfold iA at hK;rw[if_neg (λe=>e.elim h1 (λe=>e hu))]at hK;dsimp only at hK;clear hr h2;refine⟨la.map eI,BL _,ha.row,by simp;omega,by simp;omega,aB (λc1=>?_) (λc1=>aB (λc2=>?_) (λc2=>aB (λc3=>?_) (λc3=>aB (λc4=>?_) (λc4=>aB (λc5=>?_) (λc5=>aB (λc6=>?_) (λc6=>?_))))))⟩
 .rw[beq_iff_eq]at c1;rw[if_pos c1]at hK;refine aE (λd1=>hK.err (.refl _) (if_neg aC)) (λd1=>aE (λd2=>hK.err (.refl _) (if_neg aC)) (λd2=>⟨sc,s,v.table,rfl,hs,h8,λsl h' hle hi=>?_⟩));rw[if_pos aC]at hK;have:=hi.slen;exact aE (λd3=>hK.big hle rfl aC) (λd3=>hK.ok hle rfl aC hi.row)
 .rw[beq_eq_false_iff_ne]at c1;rw[beq_iff_eq]at c2;rw[if_neg c1,if_pos c2]at hK;refine⟨a,p,v.where_,la,ps,w,rfl,ha,hp,x.where_,aB (λd1=>hK.err (.refl _) (if_neg (by simpa using d1))) (λd1=>?_)⟩;rw[if_pos (by simpa using d1)]at hK;exact aE (λd3=>hK.big (.refl _) rfl (by simp at d3;omega)) (λd3 sl h' hle hi=>hK.ok hle rfl aC hi)
 .rw[beq_eq_false_iff_ne]at c1 c2;rw[beq_iff_eq]at c3;rw[if_neg c1,if_neg c2,if_pos c3]at hK;refine aB (λd1=>hK.err (.refl _) (if_neg λe=>e.1 ((Dv hcl).1 d1))) (λd1=>?_);have hne:co≠[]:=λe=>by rw[(Dv hcl).2 e]at d1;cases d1
  refine⟨λ⟨i,a',co',l,hx⟩=>a'=a/\co'=v.columns/\hx=h/\i<=co.length/\l=(co.take i).map (λc=>la.getD c.toNat 0)/\eJ (λ_ c=>BA la c=true) co i,λ⟨i,_,_,_,_⟩=>co.length-i,⟨(0,a,v.columns,[],h),⟨rfl,rfl,rfl,aC,by simp,.zero⟩,MT⟩,?_⟩;rintro⟨i,a,_,l,h⟩ ⟨rfl,rfl,rfl,hi,rfl,hg⟩;dsimp only;refine aE (λhlt=>?_) (λhge=>?_)
  .obtain⟨c,hc⟩:=fJ hcl hlt;obtain⟨b1,o1,ea1,r1⟩:=x.columns_.at' hc;refine⟨b1,o1,ea1,aC,hlt,c,.imm r1,a,la,c,rfl,ha,aB (λd2=>hK.err (.refl _) (if_neg λe=>?_)) (λd2=>?_)⟩
   .have:=e.2 i c hc;rw[this]at d2;cases d2
   have d2:BA la c=true:=by simpa using d2
   have d3:=j7.1 d2;obtain⟨b2,o2,ea2,r2⟩:=ha.inb d3.1 d3.2;refine⟨b2,o2,ea2,aC,aC,_,.imm r2,?_,?_,(i+1,a,v.columns,(co.take (i+1)).map (λc=>la.getD c.toNat 0),h),⟨rfl,rfl,rfl,aC,rfl,hg.succ hc d2⟩,by show co.length-(i+1)<co.length-i;omega,?_⟩
   .simp;omega
   .simp;omega
   .rw[fP hc,List.map_append];exact MT
  .rw[if_pos ⟨hne,hg.all aC⟩]at hK;rw[List.take_of_length_le aC];exact aE (λd3=>hK.big (.refl _) rfl (by simp at d3⊢;omega)) (λd3 sl h' hle hi=>hK.ok hle rfl (by simp at d3⊢;omega) hi)
 .rw[beq_eq_false_iff_ne]at c1 c2 c3;have c4':=beq_iff_eq.1 c4;rw[if_neg c1,if_neg c2,if_neg c3,if_pos c4']at hK;refine⟨v.on,a,b,on,la,lb,rfl,x.on_,ha,hb,λr hr=>aB (λd1=>hK.err (.refl _) (if_neg λe=>?_)) (λd1=>aB (λ_=>⟨lb.map eI,BL _,hb.row,by simp;omega,by simp;omega,?_⟩) (λd2=>?_))⟩
  .rw[hr.2 e]at d1;cases d1
  .rw[if_pos (hr.1 (by simpa using d1))]at hK;rw[<-List.map_append];exact aE (λd3=>hK.big (.refl _) rfl (by simp at d3⊢;omega)) (λd3 sl h' hle hi=>hK.ok hle rfl (by simp at d3⊢;omega) hi)
  .rw[c4]at d2;cases d2
 .rw[beq_eq_false_iff_ne]at c1 c2 c3;have c4':=beq_eq_false_iff_ne.1 c4;rw[beq_iff_eq]at c5;rw[if_neg c1,if_neg c2,if_neg c3,if_neg c4',if_pos c5]at hK;refine⟨v.on,a,b,on,la,lb,rfl,x.on_,ha,hb,λr hr=>aB (λd1=>hK.err (.refl _) (if_neg λe=>?_)) (λd1=>aB (λd2=>?_) (λd2=>?_))⟩
  .rw[hr.2 e]at d1;cases d1
  .rw[c4]at d2;cases d2
  .rw[if_pos (hr.1 (by simpa using d1))]at hK;exact aE (λd3=>hK.big (.refl _) rfl (by simp at d3;omega)) (λd3 sl h' hle hi=>hK.ok hle rfl aC hi)
 .rw[beq_eq_false_iff_ne]at c1 c2 c3 c4 c5;rw[beq_iff_eq]at c6;rw[if_neg c1,if_neg c2,if_neg c3,if_neg c4,if_neg c5,if_pos c6]at hK;refine⟨v,a,gr,od,la,rfl,x.group_,x.order_,ha,λr hr=>aB (λd1=>hK.err (.refl _) (if_neg λe=>?_)) (λd1=>?_)⟩
  .rw[hr.2 e]at d1;cases d1
  rw[if_pos (hr.1 (by simpa using d1))]at hK;exact aE (λd3=>hK.big (.refl _) rfl (by simp at d3;omega)) (λd3 sl h' hle hi=>hK.ok hle rfl aC hi)
 .rw[beq_eq_false_iff_ne]at c1 c2 c3 c4 c5 c6;rw[if_neg c1,if_neg c2,if_neg c3,if_neg c4,if_neg c5,if_neg c6]at hK;refine⟨a,b,la,lb,rfl,ha,hb,λr hr=>aB (λd1=>hK.err (.refl _) ?_) (λd1=>aB (λd2=>⟨v,a,gr,od,la,rfl,x.group_,x.order_,ha,λr2 hr2=>aB (λd4=>hK.err (.refl _) ?_) (λd4=>?_)⟩) (λd2=>?_))⟩
  .have hne:¬la=lb:=λe=>by rw[hr.2 e]at d1;cases d1
   by_cases h10:v.op=10
   .rw[if_pos h10,if_neg (λe=>hne e.1)]
   .rw[if_neg h10,if_neg hne]
  .rw[beq_iff_eq]at d2;rw[if_pos d2,if_neg λe=>by rw[hr2.2 e.2]at d4;cases d4]
  .rw[beq_iff_eq]at d2;rw[if_pos d2,if_pos ⟨hr.1 (by simpa using d1),hr2.1 (by simpa using d4)⟩]at hK;exact aE (λd3=>hK.big (.refl _) rfl (by simp at d3;omega)) (λd3 sl h' hle hi=>hK.ok hle rfl aC hi)
  .rw[beq_eq_false_iff_ne]at d2;rw[if_neg d2,if_pos (hr.1 (by simpa using d1))]at hK;exact aE (λd3=>hK.big (.refl _) rfl (by simp at d3;omega)) (λd3 sl h' hle hi=>hK.ok hle rfl aC hi)
theorem TS:Sound Tryz.prog 95 Yp:=by
 refine hX Tryz.func95 ?_;rintro cvs m h K ⟨sc,p,v,a,b,s,ps,q,la,lb,rfl,hs,h8,hp,hq,ha,hb,h1,h2,hK⟩;refine⟨Xc m,rfl,aD KU (aD Rs (aD Da (aD Gi (aD D3 (aD Rr (aD Rq (aD Rp aF))))))),Jp sc p v a b m h K,by kernel_rfl,?_⟩;exact YQ hs h8 hp hq ha hb h1 h2 hK
mutual
noncomputable def bO(s:nY)(ps:List Int):Query->List Int×Int
 |.mk op ta w co on gr od li args=>
  match eZ s ps args with
  |(ks,e)=>if e=0 then(if(ks.length:Int)=arity op then iA s ps (.mk op ta w co on gr od li args) (ks.getD 0 []) (ks.getD 1 [])else iR 100)else iR e
noncomputable def eZ(s:nY)(ps:List Int):List Query->List (List Int)×Int
 |[]=>([],0)
 |q::qs=>
  match bO s ps q with
  |(k,e)=>if e=0 then(match eZ s ps qs with|(ks,e')=>if e'=0 then(k::ks,0)else([],e'))else([],e)
end
theorem xB{s:nY}{ps:List Int}:∀{qs:List Query}{ks:List (List Int)},qs.map (bO s ps)=ks.map (λk=>(k,0))->eZ s ps qs=(ks,0)
 |[],[],_=>by simp[eZ]
 |q::qs,k::ks,h=>by
  simp only[List.map_cons,List.cons.injEq]at h;simp only[eZ,h.1,xB h.2,if_true]
 |[],_::_,h=>by simp at h
 |_::_,[],h=>by simp at h
theorem B9{s:nY}{ps:List Int}{e:Int}(he:e≠0):∀{qs:List Query}{ks:List (List Int)}{i:Nat}{q:Query},(qs.take i).map (bO s ps)=ks.map (λk=>(k,0))->qs[i]? =some q->(bO s ps q).2=e->eZ s ps qs=([],e)
 |[],_,_,_,_,h,_=>by simp at h
 |q::qs,_,0,q',_,h,h2=>by
  simp at h;subst h;simp only[eZ,h2,if_neg he]
 |q::qs,[],i+1,_,h,_,_=>by simp at h
 |q::qs,k::ks,i+1,q',h,hq,h2=>by
  simp only[List.take_succ_cons,List.map_cons,List.cons.injEq]at h;have:=B9 he h.2 (by simpa using hq) h2;simp only[eZ,h.1,this,if_true,if_neg he]
theorem Vb(l:List Int):(zF l).1.length<=12:=by unfold zF;split<;>simp_all
theorem TD(s:nY)(ps:List Int)(q:Query)(a b:List Int):(iA s ps q a b).1.length<=12:=by
 obtain⟨op,ta,w,co,on,gr,od,li,args⟩:=q;unfold iA;dsimp only
 repeat' split
 all_goals first|exact Vb _|(simp[iR];done)
theorem Ba(s:nY)(ps:List Int)(q:Query):(bO s ps q).1.length<=12:=by
 obtain⟨op,ta,w,co,on,gr,od,li,args⟩:=q;simp only[bO]
 repeat' split
 all_goals first|exact TD .. |simp[iR]
noncomputable def fZ(s:nY)(ps:List Int)(q:Query):List Int×Int:=
 if eD s=0 then(if ps.all dO=true then(if jZ q=true then bO s ps q else iR 2)else iR 1)else iR (eD s)
def Slices(h:PH)(ss:List Sl)(ks:List (List Int)):Prop:=ss.length=ks.length/\∀(j:Nat) s k,ss[j]? =some s->ks[j]? =some k->Ints h s k
theorem Slices.mono{ss:List Sl}(x:Slices h ss ks)(le:PH.le h h'):Slices h' ss ks:=⟨x.1,λj s k h1 h2=>(x.2 j s k h1 h2).mono le⟩
theorem Slices.snoc{ss:List Sl}{s:Sl}{k:List Int}(x:Slices h ss ks)(hi:Ints h s k):Slices h (ss++[s]) (ks++[k]):=by
 refine⟨by simp[x.1],λj s' k' h1 h2=>?_⟩;by_cases hj:j<ss.length
 .rw[List.getElem?_append_left hj]at h1;rw[List.getElem?_append_left (by rw[<-x.1];exact hj)]at h2;exact x.2 j s' k' h1 h2
 .rw[List.getElem?_append_right aC]at h1;rw[List.getElem?_append_right (by have:=x.1;omega), <-x.1]at h2;cases e:j-ss.length with
  |zero=>rw[e]at h1 h2;simp at h1 h2;subst h1 h2;exact hi
  |succ n=>rw[e]at h1;simp at h1
def Bn(N:Nat):Vc.Spec:=λcvs m h K=>∃sc p v s ps q,cvs=[aS sc,cS p,aQ v]/\fQ h s sc/\mS s/\Ints h p ps/\cT h q v/\SizeOf.sizeOf q<N/\KR K m h (bO s ps q)
def Cs:Vc.Spec:=λcvs m h K=>∃sc p v s ps q,cvs=[aS sc,cS p,aQ v]/\fQ h s sc/\Ints h p ps/\cT h q v/\KR K m h (fZ s ps q)
noncomputable def Xr(N:Nat)(sc:bX)(p:Sl)(v:QV)(m:MH):Ctx:=
 dN [(65,Bn N),(94,R5),(95,Yp)] [(3,{A:=Nat×List Sl×PH,st:=λ⟨i,ss,h⟩=>cJ 58 61 [(1,sv p),(3,.at (.ptr 3 0)),(5,.at (.ptr 5 0)),(8,.at (.lst 35)),(14,iv v.args.len),(15,iv i)] [(3,.cells 43 (sc.enc.map .val)),(5,.cells 38 (v.enc.map .val)),(35,.lst 33 1 (ss.map eS))] m h})] [] [] false
noncomputable abbrev p6(a:List Sl):List (List Value):=List.map eS a
noncomputable abbrev qV(a:Nat×List Sl×PH):List (List Value):=p6 a.2.1
noncomputable abbrev kE(a:Nat×List Sl×PH):Nat->Nat->Option Value:=a.2.2
abbrev BZ(a:bX->Sl->Prop):Prop:=∃(x:bX)(x1:Sl),a x x1
abbrev Br(a:nY->(List Int)->Prop):Prop:=∃(x:nY)(x1:List Int),a x x1
abbrev EL(a:bX)(b:Sl)(c:QV)(d:PH)(e:QV->nY->(List Int)->Query->Prop):Prop:=BZ (λx x1=>∃(x2:QV),Br (λx3 x4=>∃(x5:Query),aA (cL (bI a) (fK b (bV c))=cL (bI x) (fK x1 (bV x2))) (fQ d x3 x) (aA (mS x3) (Ints d x1 x4) (e x2 x3 x4 x5))))
abbrev pR(a:List (List Value))(b:Nat)(c:Prop):Prop:=aA (gK ((a.length+1)*b)) (gS a) c
noncomputable abbrev ES(a:Nat×List Sl×PH):List (List Value):=qV a++iD::eX iD
abbrev rK(a:List (List Value))(b:Nat)(c:List Value):Prop:=a[b]? =Option.some c
abbrev AJ(a:Nat)(b c:List Value):Prop:=List.take a (List.drop 0 b)=c
attribute [push_cast] p6 qV kE BZ Br EL pR ES rK AJ
def OW(N:Nat)(sc:bX)(p:Sl)(v:QV)(m:MH)(h:PH)(K:CV->MH->PH->Prop):Prop:=
  ∃(I:Nat×List Sl×PH->Prop)(m1:Nat×List Sl×PH->Nat),(∃(x:Nat×List Sl×PH),aA (I x) (aJ p) (aA (eP 3) eM (aA (eL 35) (bJ v.args) (aA (bE x.1) (bR sc) (pJ (fG v) (qW 33 1 (cR 33 1 (qV x))) (m=m) h (kE x))))))/\∀(x:Nat×List Sl×PH),I x->bA (↑x.1:Int) (aG v.args) (aW (λb o=>aH (aX v.args.a b o) (0<=(↑x.1:Int)) ((↑x.1:Int)<aG v.args) (∃(y:QV),aM m (kE x) b (bL o x.1 21) y.enc/\EL sc p y (kE x) (λv1 s p1 q=>aA (cT (kE x) q v1) (pV q N) (lC (λs1 h1=>dK (kE x) h1 (Ints h1 s1 (bO s p1 q).1) (eA (bO s p1 q).2 0 (K (CV.tup (dZ lU (CV.val (dY (bO s p1 q).2)))) m h1) (pR (qV x) 24 (∃(x1:Nat×List Sl×PH),aA (I x1) (m1 x1<m1 x) (aA (aJ p) (eP 3) (aA eM (eL 35) (aA (bJ v.args)
 (fY (aT ((↑x.1:Int)+1))=bZ x1.1) (aA (bR sc) (fG v) (aA (cR 33 1 (eB (qV x) (aR s1))=cR 33 1 (qV x1)) (m=m) (bT h1 (kE x1)))))))))))))))) (jM v.op (λo=>eA (iL (qV x)) (arity o) (K (CV.tup (bD lU 100)) m (kE x)) (aA (gK (((qV x).length+2)*24)) (wX (qV x) 2) (aA (cD 0) (0<iL (ES x)) (∃(e:List Value),rK (ES x) 0 e/\∃(y:Sl),aH (AJ 1 e (aR y)) ((0:Int)<=1) (1<iL (ES x)) (∃(e1:List Value),rK (ES x) 1 e1/\∃(y1:Sl),AJ 1 e1 (aR y1)/\BZ (λs p1=>∃(v1:QV),iZ (λa b=>Br (λs1 p2=>∃(q:Query),uC (λl l1=>aA (cL (bI sc) (cH p (cL v.enc (eY y y1)))=cL (bI s) (cH p1 (cL v1.enc (eY a b)))) (fQ (kE x) s1 s) (aA (mS s1)
 (Ints (kE x) p1 p2) (aA (cT (kE x) q v1) (Ints (kE x) a l) (aA (Ints (kE x) b l1) (l.length<=12) (l1.length<=12/\lC (λs2 h1=>dK (kE x) h1 (Ints h1 s2 (iA s1 p2 q l l1).1) (K (CV.tup (fK s2 (CV.val (dY (iA s1 p2 q l l1).2)))) m h1))))))))))))))))
def Pa(N:Nat)(sc:bX)(p:Sl)(v:QV)(m:MH)(h:PH)(K:CV->MH->PH->Prop):Prop:=
  iU (λv1 s=>aA (kF (bI sc)=kF (bI v1)) (fQ h s v1) (eA (eD s) 0 (K (CV.tup (bD lU (eD s))) m h) (AK (λs1 l=>aA (gC p=gC s1) (Ints h s1 l) (gM (DX l) (K (CV.tup (bD lU 1)) m h) (lQ (λv2 p1=>aA (oB (bV v)=oB (bV v2)) (cT h p1 v2) (gM (jZ p1) (K (CV.tup (bD lU 2)) m h) (EL sc p v h (λv3 s2 p2 q=>aA (cT h q v3) (pV q N) (lC (λs3 h1=>dK h h1 (Ints h1 s3 (bO s2 p2 q).1) (K (CV.tup (fK s3 (CV.val (dY (bO s2 p2 q).2)))) m h1)))))))))))))
theorem F8{qs:List Query}(h:qs.map (bO s ps)=ks.map (λk=>(k,0)))(j:Nat):(ks.getD j []).length<=12:=by
 rw[List.getD_eq_getElem?_getD];cases e:ks[j]? with
 |none=>simp
 |some k=>
  have h1:(qs.map (bO s ps))[j]? =some (k,0):=by rw[h];simp[e]
  rw[List.getElem?_map,Option.map_eq_some_iff]at h1;obtain⟨q,_,h2⟩:=h1;have:=Ba s ps q;rw[h2]at this;simpa using this
theorem Slices.pick{ss:List Sl}(x:Slices h ss ks)(j:Nat)(hj:j<ss.length+2):∃y:Sl,(ss.map eS++[[.slice none 0 0],[.slice none 0 0]])[j]? =some [.slice y.a y.len y.cap]/\Ints h y (ks.getD j []):=by
 by_cases h1:j<ss.length
 .refine⟨ss[j],?_,?_⟩
  .rw[List.getElem?_append_left (by simpa using h1)];simp[h1,eS]
  .have h2:j<ks.length:=by rw[<-x.1];exact h1
   rw[List.getD_eq_getElem?_getD,List.getElem?_eq_getElem h2];exact x.2 j _ _ (List.getElem?_eq_getElem h1) (List.getElem?_eq_getElem h2)
 .refine⟨⟨none,0,0⟩,?_,?_⟩
  .rw[List.getElem?_append_right (by simpa using h1)];simp only[List.length_map];have:j-ss.length=0\/j-ss.length=1:=by omega
   rcases this with e|e<;>rw[e]<;>rfl
  .rw[List.getD_eq_getElem?_getD,List.getElem?_eq_none (by have:=x.1;omega)];exact⟨.nil _ _,by simp⟩
theorem SI:∀N,Sound Tryz.prog 65 (Bn N)
 |0=>by
  refine eG (fn:=Tryz.f65) (c:=dG Tryz.f65) Tryz.func65 rfl (by decide) ?_;rintro cvs m h K ⟨sc,p,v,s,ps,q,rfl,_,_,_,_,hN,_⟩;omega
 |N+1=>by
  refine hX Tryz.func65 ?_;rintro cvs m h K ⟨sc,p,v,s,ps,q,rfl,hs,h8,hp,hq,hN,hK⟩;refine⟨Xr N sc p v m,rfl,aD (SI N) (aD KU (aD TS aF)),OW N sc p v m h K,by kernel_rfl,?_⟩;dsimp only[OW,push_cast];have hlt:=@BM q;have hqr:=hq;obtain⟨op,ta,w,co,on,gr,od,li,args⟩:=q;have x:=hq.parts;have e0:=x.op_;have hl:=x.args_.slen;have hlen:=x.args_.len;simp only[Query.args]at hlt;simp only[bO]at hK;refine⟨λ⟨i,ss,hx⟩=>i<=args.length/\PH.le h hx/\∃ks,Slices hx ss ks/\(args.take i).map (bO s ps)=ks.map (λk=>(k,0)),λ⟨i,_,_⟩=>args.length-i,⟨(0,[],h),⟨aC,.refl _,[],⟨rfl,λj s k h1=>by simp at h1⟩,by simp⟩,MT⟩,?_⟩;rintro⟨i,ss,hx⟩ ⟨hi,hle,ks,hS,hks⟩;have hkl:ks.length=i:=by have:=congrArg List.length hks;simp at this;omega
  have hsl:ss.length=i:=by rw[hS.1,hkl]
  dsimp only;refine aE (λhlt2=>?_) (λhge=>?_)
  .obtain⟨q',hq'⟩:=fJ hl hlt2;obtain⟨b1,o1,u,ea1,r1,hru⟩:=(x.args_.mono hle).at hq';refine⟨b1,o1,ea1,aC,hlt2,u,.imm r1,sc,p,u,s,ps,q',rfl,hs.mono hle,h8,hp.mono hle,hru,?_,λsl h' hle' hi'=>aB (λh1=>?_) (λh1=>?_)⟩
   .have:=hlt (List.mem_of_getElem? hq');omega
   .have he:(bO s ps q').2≠0:=by simpa using h1
    rw[B9 he hks hq' rfl]at hK;exact hK.err (hle.trans hle') (if_neg he)
   .have he:(bO s ps q').2=0:=by simpa using h1
    refine⟨by simp;omega,by simp;omega,(i+1,ss++[sl],h'),⟨aC,hle.trans hle',ks++[(bO s ps q').1],(hS.mono hle').snoc hi',?_⟩,by show args.length-(i+1)<args.length-i;omega,?_⟩
    .rw[fP hq',hks,List.map_append];simp only[List.map_cons,List.map_nil];rw[<-he]
    .rw[List.map_append];exact MT
  .rw[List.take_of_length_le aC]at hks;rw[xB hks]at hK;simp only[if_true]at hK;refine⟨v.op,rfl,aB (λh1=>hK.err hle (if_neg λe=>?_)) (λh1=>?_)⟩
   .rw[e0]at h1;simp at h1;omega
   have h1:(ss.length:Int)=arity op:=by rw[e0]at h1;simpa using h1
   rw[if_pos aC]at hK;obtain⟨y0,hy0,i0⟩:=hS.pick 0 aC;obtain⟨y1,hy1,i1⟩:=hS.pick 1 aC;exact⟨by simp;omega,by simp;omega,aC,by simp;omega,_,hy0,y0,rfl,aC,by simp;omega,_,hy1,y1,rfl,sc,p,v,y0,y1,s,ps,_,_,_,rfl,hs.mono hle,h8,hp.mono hle,hqr.mono hle,i0,i1,F8 hks 0,F8 hks 1,λsl h' hle' hi=>hK sl h' (hle.trans hle') hi⟩
theorem Tw(h:eD s=0):mS s:=by
 have hl:Bm s:=Classical.byContradiction λhn=>by rw[sG hn]at h;cases h
 intro t ht;obtain⟨j,hj⟩:=List.mem_iff_getElem?.1 ht;exact(hl.2 j t hj).1
theorem K6:Sound Tryz.prog 25 Cs:=by
 refine hX Tryz.func25 ?_;rintro cvs m h K ⟨sc,p,v,s,ps,q,rfl,hs,hp,hq,hK⟩;refine⟨dN [(63,Ac),(64,J7),(28,Ni),(65,Bn (SizeOf.sizeOf q+1))] [] [] [] false,rfl,aD T3 (aD KZ (aD K4 (aD (SI _) aF))),Pa (SizeOf.sizeOf q+1) sc p v m h K,by kernel_rfl,?_⟩;dsimp only[Pa,push_cast];unfold fZ at hK;refine⟨sc,s,rfl,hs,aB (λh1=>hK.err (.refl _) (if_neg (by simpa using h1))) (λh1=>?_)⟩;have h1:eD s=0:=by simpa using h1
 rw[if_pos h1]at hK;refine⟨p,ps,rfl,hp,aB (λh2=>hK.err (.refl _) (if_neg λe=>by rw[e]at h2;cases h2)) (λh2=>?_)⟩;rw[if_pos (by rw[Bool.not_eq_false']at h2;exact h2)]at hK;refine⟨v,q,rfl,hq,aB (λh3=>hK.err (.refl _) (if_neg λe=>by rw[e]at h3;cases h3)) (λh3=>?_)⟩;rw[if_pos (by rw[Bool.not_eq_false']at h3;exact h3)]at hK;exact⟨sc,p,v,s,ps,q,rfl,hs,Tw h1,hp,hq,aC,hK⟩
def aN(n:NV):CV:=.val (.agg ⟨n.enc⟩)
structure qC(h:PH)(s:nY)(ps:List Int)(q:Query)(ks:List (List Int))(n:NV):Prop where
 s_:fQ h s n.s
 ps_:Ints h n.params ps
 q_:cT h q n.q
 ks_:bY h 1 eS (λk sl=>Ints h sl k) n.args ks
 len:∀k∈ks,k.length<=12
def Query.withOf(u q:Query):Query:=match u,q with|.mk _ ta w co on gr od li _,.mk op _ _ _ _ _ _ _ args=>.mk op ta w co on gr od li args
def yV:Vc.Spec:=λcvs m h K=>∃n k u s ps q ks uq,cvs=[aN n,cI k,aQ u]/\qC h s ps q ks n/\cT h uq u/\∀r:Bool,(r=true↔(ks.length:Int)=k/\q=uq.withOf q)->K (cB r) m h
def J0:Vc.Spec:=λcvs m h K=>∃n s ps q ks,cvs=[aN n]/\qC h s ps q ks n/\K (aQ ⟨0,0,⟨0,0,dH,dH,⟨none,0,0⟩⟩,⟨none,0,0⟩,⟨none,0,0⟩,n.q.group,n.q.order,n.q.limit,⟨none,0,0⟩⟩) m h
def J1:Vc.Spec:=λcvs m h K=>∃n s ps q ks a,cvs=[aN n]/\qC h s ps q ks n/\ks[0]? =some a/\∀r:Bool,(r=true↔∃op ta w co on gr od li args,q= .mk op ta w co on gr od li args/\uZ a gr od li)->K (cB r) m h
def HI(ks:List (List Int)):Query->Prop
 |.mk op ta w co on gr od li _=>ks.length=2/\ta=0/\w=gV/\co=[]/\gr=[]/\od=[]/\li=0/\Good (Ae (ks.getD 0 []) (ks.getD 1 [])) on
def J4:Vc.Spec:=λcvs m h K=>∃n s ps q ks,cvs=[aN n]/\qC h s ps q ks n/\∀r:Bool,(r=true↔HI ks q)->K (cB r) m h
noncomputable def VF(n:NV)(h:PH):Ctx:=
 uJ [] [(4,{A:=Nat×Nat×Nat×MH,st:=λ⟨i,wd,b,mx⟩=>cJ 72 73 [(1,.at (.ptr 1 0)),(3,iv wd),(4,vv (.pointer (some ⟨b,0,none⟩))),(16,sv n.q.group),(17,iv n.q.group.len),(18,iv i)] [(1,.cells 152 (n.enc.map .val))] mx h}),
  (11,{A:=Nat×Nat×MH,st:=λ⟨i,wd,mx⟩=>cJ 72 73 [(1,.at (.ptr 1 0)),(3,iv wd),(39,sv n.q.order),(40,iv n.q.order.len),(41,iv i)] [(1,.cells 152 (n.enc.map .val))] mx h})] [] [] [226] [] false
noncomputable def VH(n:NV)(h:PH):Ctx:=
 uJ [(177,yV)] [(6,{A:=Nat×Sl×Sl×Nat×Nat×MH,st:=λ⟨i,s,t,b,c,mx⟩=>cJ 80 81 [(3,sv s),(4,sv t),(5,vv (.pointer (some ⟨b,0,none⟩))),(6,vv (.pointer (some ⟨c,0,none⟩))),(28,sv n.q.on),(29,iv n.q.on.len),(30,iv i)] [] mx h})] [] [] [226] [] false
noncomputable abbrev mF(a:QV):Value:=dY a.table
noncomputable abbrev mE(a:QV):Value:=dY a.where_.op
noncomputable abbrev mH(a:QV):Int:=a.where_.cmp
noncomputable abbrev kP(a:OV):Value:=dY a.kind
noncomputable abbrev iE(a:QV):OV:=a.where_.left
noncomputable abbrev wW(a:OV):Value:=dY a.index
noncomputable abbrev p9(a:OV):Value:=dY a.value.int
noncomputable abbrev CN(a b:QV)(c:List Value):List Value:=aL (dY a.op) (mF b) (aL (mE b) (dY (mH b)) (aL (kP (iE b)) (wW (iE b)) (aL (dY (oY (iE b))) (p9 (iE b)) c)))
noncomputable abbrev lB(a:OV):Value:=Value.string a.value.text
noncomputable abbrev fD(a:QV):OV:=a.where_.right
noncomputable abbrev mZ(a:QV):Value:=dT a.where_.args
noncomputable abbrev nA(a:QV):Value:=dT a.columns
noncomputable abbrev p7(a:QV):Value:=dT a.group
noncomputable abbrev p8(a:QV):Value:=dT a.order
attribute [push_cast] mF mE mH kP iE wW p9 CN lB fD mZ nA p7 p8
def Lt(n:NV)(k:Int)(u:QV)(m:MH)(h:PH)(K:CV->MH->PH->Prop):Prop:=
  dL (aG n.args) k (∃(v:QV),lQ (λw p=>∃(q:Query),aH (dZ (bV n.q) (jI (CN n.q u (aL (lB (iE u)) (kP (fD u)) (aL (wW (fD u)) (dY (oY (fD u))) (aL (p9 (fD u)) (lB (fD u)) (aL (mZ u) (nA u) (aL (dT u.on) (p7 u) (aL (p8 u) (dY u.limit) (aR n.q.args)))))))))=dZ (bV v) (bV w)) (cT h p v) (cT h q w) (∀(r:Bool),(dX r↔p=q)->K (Ag r) m h))) (K aY m h)
noncomputable abbrev CR(a:List Value):List Value:=aL bC bC (aL bC bC (aL bC bC (aL bC bC a)))
noncomputable abbrev sL(a:Value)(b:List Value):List Value:=aL R8 bC (aL bC bC (aL bC R8 (aL tZ a b)))
noncomputable abbrev HP(a:QV):List Value:=aL tZ (p7 a) (aL (p8 a) (dY a.limit) iD)
attribute [push_cast] CR sL HP
def Lr(n:NV)(m:MH)(h:PH)(K:CV->MH->PH->Prop):Prop:=
  K (jI (CR (sL tZ (HP n.q)))) m h
abbrev nF(a:NV)(b:MH)(c:PH)(d:Nat->Nat->Sl->Prop):Prop:=aW (λx x1=>aH (aX a.args.a x x1) ((0:Int)<=0) (0<aG a.args) (∃(x2:Sl),aM b c x (x1+0) (aR x2)/\d x x1 x2))
noncomputable abbrev sP:Value:=Value.bool false
abbrev HO(a:MH)(b:PH)(c:Nat->MH->Prop):Prop:=∀(x:Nat)(x1:MH),aU (cE a b x) (bH a x1 x (aL sP sP (aL sP sP (aL sP sP (aL sP sP (aL sP sP (aL sP sP [])))))) 226) (c x x1)
noncomputable abbrev C4(a:QV)(b:At)(c:Sl)(d:List At):List At:=pQ a.where_ (lT b (Bl c) (lT (Bl a.group) (Bl a.order) d))
noncomputable abbrev B0(a:QV):At:=Bl a.columns
abbrev H4(a:bX)(b:At)(c:QV)(d:Sl)(e:List At):Prop:=eQ (oQ 152 (lT (mO a.version) (Bl a.tables) (lT b (mO c.op) (mO c.table::C4 c (B0 c) d (lT (mO c.limit) (Bl c.args) e)))))
noncomputable abbrev pW(a:Sl):List At:=oK (Bl a)
abbrev AE(a:NV):Prop:=H4 a.s (Bl a.params) a.q a.q.on (pW a.args)
abbrev oD(a:MH)(b c:Nat)(d:List Value)(e:MH->Prop):Prop:=gJ (λx x1=>aA (tY a b (eW x x1 0)) (fH c x) (∀(x2:MH),bH a x2 b (splice x.toList c d) x1->e x2))
attribute [push_cast] nF sP HO C4 B0 H4 pW AE oD
def Dc(n:NV)(m:MH)(h:PH)(K:CV->MH->PH->Prop):Prop:=
  nF n m h (λ_ _ y=>HO m h (λb m1=>∃(I:Nat×Nat×Nat×MH->Prop)(m2:Nat×Nat×Nat×MH->Nat),(∃(x:Nat×Nat×Nat×MH),aA (I x) eR (aA (bZ y.len=bZ x.2.1) (cV b (iQ x.2)) (aA (aJ n.q.group) (bJ n.q.group) (aA (bE x.1) (AE n) (cA (m1=fV x.2) h h)))))/\∀(x:Nat×Nat×Nat×MH),I x->bA (↑x.1:Int) (aG n.q.group) (aW (λb1 o=>aH (aX n.q.group.a b1 o) (0<=(↑x.1:Int)) ((↑x.1:Int)<aG n.q.group) (∃(y1:Int),aM (fV x.2) h b1 (bL o x.1 1) (bN y1)/\bA y1 0 (mC K x.2 h) (fW y1 (↑x.2.1:Int) (mC K x.2 h) (aA (cD y1) (y1<12) (∃(y2:Bool),aM (fV x.2) h (iQ x.2) (fR 0 y1 1) (iC (Value.bool y2))/\branch y2 (mC K x.2 h) (aA (cD y1) (y1<12) (oD (fV x.2) (iQ x.2) (fR 0 y1 1) (iC zB) (fun
 m3=>∃(x1:Nat×Nat×Nat×MH),aA (I x1) (m2 x1<m2 x) (aA eR (cF x.2.1 x1.2.1) (aA (cV (iQ x.2) (iQ x1.2)) (aJ n.q.group) (aA (bJ n.q.group) (fY (aT ((↑x.1:Int)+1))=bZ x1.1) (aH (AE n) (m3=fV x1.2) (h=h) True))))))))))))) (∃(I1:Nat×Nat×MH->Prop)(m3:Nat×Nat×MH->Nat),MA (λx1=>aA (I1 x1) eR (aA (cF x.2.1 (iQ x1)) (aJ n.q.order) (aA (bJ n.q.order) (bE x1.1) (aA (AE n) (fV x.2=fV x1) (bT h h))))) (λx1=>I1 x1->bA (↑x1.1:Int) (aG n.q.order) (aW (λb1 o=>aH (aX n.q.order.a b1 o) (0<=(↑x1.1:Int)) ((↑x1.1:Int)<aG n.q.order) (∃(y1:Int×Bool),aM (fV x1) h b1 (bL o x1.1 2) (xY y1)/\bA y1.1 0 (mC K x1 h) (fW y1.1 (↑(iQ x1):Int) (mC K x1 h) (∃(x2:Nat×Nat×MH),aA (I1 x2)
 (m3 x2<m3 x1) (aA eR (cF (iQ x1) (iQ x2)) (aA (aJ n.q.order) (bJ n.q.order) (aA (fY (aT ((↑x1.1:Int)+1))=bZ x2.1) (AE n) (cA (fV x1=fV x2) h h))))))))) (BV (aG n.q.order) 12 (fW n.q.limit 0 (K (Ag (decide (n.q.limit<=100))) (fV x1) h) (mC K x1 h)) (mC K x1 h))))))
abbrev Az(a:nY->(List Int)->Query->(List (List Int))->Prop):Prop:=Br (λx x1=>∃(x2:Query)(x3:List (List Int)),a x x1 x2 x3)
abbrev xW(a:NV->Int->QV->nY->(List Int)->Query->(List (List Int))->Query->Prop):Prop:=∃(x:NV)(x1:Int)(x2:QV),Az (λx3 x4 x5 x6=>∃(x7:Query),a x x1 x2 x3 x4 x5 x6 x7)
noncomputable abbrev fF(a:NV)(b:List Value):List Value:=aL (wW (iE a.q)) (dY (oY (iE a.q))) (aL (p9 (iE a.q)) (lB (iE a.q)) (aL (kP (fD a.q)) (wW (fD a.q)) (aL (dY (oY (fD a.q))) (p9 (fD a.q)) b)))
noncomputable abbrev sN(a:QV):Value:=dT a.args
noncomputable abbrev fE(a:NV):List Value:=aL (lB (fD a.q)) (mZ a.q) (aL (nA a.q) (dT a.q.on) (aL (p7 a.q) (p8 a.q) (aL (dY a.q.limit) (sN a.q) (aR a.args))))
abbrev xV(a:List (List Int))(b:Int):Prop:=(↑a.length:Int)=b
abbrev BW(a b:Query):Prop:=a=Query.withOf b a
noncomputable abbrev iN(a:Nat×Sl×Sl×Nat×Nat×MH):Nat×Nat×MH:=a.2.2.2
attribute [push_cast] Az xW fF sN fE xV BW iN
def Dd(n:NV)(m:MH)(h:PH)(K:CV->MH->PH->Prop):Prop:=
  xW (λn1 k u s p q k1 u1=>aH (cL (aL (rZ n.s) (rY n.s) (aL (dT n.params) (dY n.q.op) (aL (mF n.q) (mE n.q) (aL (dY (mH n.q)) (kP (iE n.q)) (fF n (fE n)))))) (dZ (eK 2) (jI (CR (sL tZ (aL (dT n.q.on) tZ (aL tZ bC iD))))))=cL (aL (rZ n1.s) (rY n1.s) (aL (dT n1.params) (dY n1.q.op) (aL (mF n1.q) (mE n1.q) (aL (dY (mH n1.q)) (kP (iE n1.q)) (fF n1 (fE n1)))))) (dZ (eK k) (bV u))) (qC h s p q k1 n1) (cT h u1 u) (∀(r:Bool),gQ (dX r↔xV k1 k/\BW q u1) (!r) (K aY m h) (nF n m h (λ_ _ y=>aW (λb o=>aH (aX n.args.a b o) ((0:Int)<=1) (1<aG n.args) (∃(y1:Sl),aM m h b (o+1) (aR y1)/\HO m h (λb1 m1=>HO m1 h (λb2 m2=>∃(I:Nat×Sl×Sl×Nat×Nat×MH->Prop)(m3:
 Nat×Sl×Sl×Nat×Nat×MH->Nat),(∃(x:Nat×Sl×Sl×Nat×Nat×MH),aA (I x) (bF y x.2.1) (aA (bF y1 x.2.2.1) (cV b1 (iN x).1) (aA (cV b2 (iQ (iN x))) (aJ n.q.on) (aA (bJ n.q.on) (bE x.1) (cA (m2=fV (iN x)) h h)))))/\∀(x:Nat×Sl×Sl×Nat×Nat×MH),I x->bA (↑x.1:Int) (aG n.q.on) (aW (λb3 o1=>aH (aX n.q.on.a b3 o1) (0<=(↑x.1:Int)) ((↑x.1:Int)<aG n.q.on) (∃(y2:Int×Int),aA (aM (fV (iN x)) h b3 (bL o1 x.1 2) (tL y2)) (cD 0) (aA ((0:Int)<2) (cD 1) ((1:Int)<2/\bA y2.1 0 (mC K (iN x) h) (fW y2.1 (aG x.2.1) (mC K (iN x) h) (bA y2.2 0 (mC K (iN x) h) (fW y2.2 (aG x.2.2.1) (mC K (iN x) h) (aW (λb4 o2=>aH (aX x.2.1.a b4 o2) (0<=y2.1) (y2.1<aG x.2.1) (∃(y3:Int),
 aM (fV (iN x)) h b4 (fR o2 y2.1 1) (bN y3)/\aW (λb5 o3=>aH (aX x.2.2.1.a b5 o3) (0<=y2.2) (y2.2<aG x.2.2.1) (∃(y4:Int),aM (fV (iN x)) h b5 (fR o3 y2.2 1) (bN y4)/\eA y3 y4 (mC K (iN x) h) (aA (cD y2.1) (y2.1<12) (∃(y5:Bool),aM (fV (iN x)) h (iN x).1 (fR 0 y2.1 1) (iC (Value.bool y5))/\branch y5 (mC K (iN x) h) (aA (cD y2.2) (y2.2<12) (∃(y6:Bool),aM (fV (iN x)) h (iQ (iN x)) (fR 0 y2.2 1) (iC (Value.bool y6))/\branch y6 (mC K (iN x) h) (aA (cD y2.1) (y2.1<12) (oD (fV (iN x)) (iN x).1 (fR 0 y2.1 1) (iC zB) (λm4=>aA (cD y2.2) (y2.2<12) (oD m4 (iQ (iN x)) (fR 0 y2.2 1) (iC zB) (λm5=>∃(x1:Nat×Sl×Sl×Nat×Nat×MH),aA (I x1) (m3 x1<m3 x) (aA
 (bF x.2.1 x1.2.1) (bF x.2.2.1 x1.2.2.1) (aA (cV (iN x).1 (iN x1).1) (cV (iQ (iN x)) (iQ (iN x1))) (aA (aJ n.q.on) (bJ n.q.on) (aH (fY (aT ((↑x.1:Int)+1))=bZ x1.1) (m5=fV (iN x1)) (h=h) True)))))))))))))))))))))))))) (K fO (fV (iN x)) h)))))))))
structure Tp(m:MH)(b:Nat)(seen:List Int):Prop where
 ex:∃bs:List Bool,m b=some (.cells ⟨bs.map Value.bool⟩ 226 (0,0))/\bs.length=12/\∀k:Nat,k<12->(bs[k]? =some true↔(k:Int)∈seen)
theorem Tp.zero(h:m b=some (.cells ⟨[.bool false,.bool false,.bool false,.bool false,.bool false,.bool false,.bool false,.bool false,.bool false,.bool false,.bool false,.bool false]⟩ 226 (0,0))):Tp m b []:=
 ⟨⟨List.replicate 12 false,h,rfl,λk hk=>by rw[List.getElem?_replicate];simp[hk]⟩⟩
theorem Tp.look{seen:List Int}(x:Tp m b seen){n:Int}(h0:0<=n)(h1:n<12):∃y:Bool,aM m h b (0+n.toNat*1) [.bool y]/\(y=true↔n∈seen):=by
 obtain⟨bs,e,hl,hs⟩:=x.ex;have hk:n.toNat<bs.length:=by omega
 refine⟨bs[n.toNat],.lent _ _ _ e ?_,?_⟩
 .simp only[Nat.zero_add,Nat.mul_one,List.length_cons,List.length_nil];rw[List.drop_eq_getElem_cons (by simpa using hk)];simp
 .have:=hs n.toNat aC;rw[List.getElem?_eq_getElem hk]at this;rw[show((n.toNat:Nat):Int)=n by omega]at this;simpa using this
theorem Tp.store{seen:List Int}(x:Tp m b seen){n:Int}(h0:0<=n)(h1:n<12):∃(cs:Array Value)(E:TypeId),tY m b (.cells cs E (0,0))/\0+n.toNat*1<cs.size/\∀m',jH m m' b (.cells ⟨splice cs.toList (0+n.toNat*1) [.bool true]⟩ E (0,0))->Tp m' b (seen++[n]):=by
 obtain⟨bs,e,hl,hs⟩:=x.ex;have hk:n.toNat<bs.length:=by omega
 refine⟨_,_,⟨e⟩,by simpa using hk,λm' hu=>⟨bs.set n.toNat true,?_,by simpa using hl,λk hk'=>?_⟩⟩
 .rw[hu.at_];congr 3;simp only[splice,Nat.zero_add,Nat.mul_one,List.length_cons,List.length_nil];rw[List.set_eq_take_append_cons_drop,if_pos hk];simp[List.map_take,List.map_drop]
 .rw[List.getElem?_set,List.mem_append,List.mem_singleton];by_cases e':n.toNat=k
  .subst e';rw[if_pos rfl,if_pos hk];exact⟨λ_=>.inr aC,λ_=>rfl⟩
  .rw[if_neg e',hs k hk'];exact⟨.inl,λh=>h.elim id λe=>by omega⟩
theorem Tp.other{b':Nat}{seen:List Int}(x:Tp m b seen)(hne:b≠b')(ho:∀c,c≠b'->m' c=m c):Tp m' b seen:=by
 obtain⟨bs,e,hl,hs⟩:=x.ex;exact⟨bs,by rw[ho b hne,e],hl,hs⟩
theorem qC.arg{n:NV}(x:qC h s ps q ks n){j:Nat}{k:List Int}(hk:ks[j]? =some k):∃b o sl,n.args.a=some ⟨b,o,none⟩/\aZ h b (o+j*1) [.slice sl.a sl.len sl.cap]/\Ints h sl k/\k.length<=12/\j<n.args.len:=by
 obtain⟨b,o,sl,e,r,hi⟩:=x.ks_.at hk;have:=(List.getElem?_eq_some_iff.1 hk).1;exact⟨b,o,sl,e,r,hi,x.len k (List.mem_of_getElem? hk),by rw[x.ks_.slen];exact this⟩
theorem XJ{n:NV}(hK:K (aQ ⟨0,0,⟨0,0,dH,dH,⟨none,0,0⟩⟩,⟨none,0,0⟩,⟨none,0,0⟩,n.q.group,n.q.order,n.q.limit,⟨none,0,0⟩⟩) m h):Lr n m h K:=hK
theorem qA:Sound Tryz.prog 177 yV:=by
 refine hX Tryz.func177 ?_;rintro cvs m h K ⟨n,k,u,s,ps,q,ks,uq,rfl,hn,hu,hK⟩;refine⟨dN [(204,Zm)] [] [] [] false,rfl,aD QN aF,Lt n k u m h K,by kernel_rfl,?_⟩;dsimp only[Lt,push_cast];have hl:=hn.ks_.slen;have hq:=hn.q_;have hq2:=hn.q_;obtain⟨op,ta,w,co,on,gr,od,li,args⟩:=q;obtain⟨op',ta',w',co',on',gr',od',li',args'⟩:=uq;have x:=hu.parts;have y:=hq.parts;refine aB (λh1=>⟨n.q,⟨n.q.op,u.table,u.where_,u.columns,u.on,u.group,u.order,u.limit,n.q.args⟩,_,.mk op ta' w' co' on' gr' od' li' args,rfl,hq2,nW.rep ⟨y.op_,x.table_,x.where_,x.columns_,x.on_,x.group_,x.order_,x.limit_,y.args_⟩,λr hr=>hK r (hr.trans ⟨λe=>⟨?_,e⟩,λe=>e.2⟩)⟩) (λh1=>hK false ⟨λe=>(by cases e),λe=>?_⟩)
 .have:(n.args.len:Int)=k:=by simpa using h1
  omega
 .have:(n.args.len:Int)≠k:=by simpa using h1
  have:=e.1;omega
theorem JC:Sound Tryz.prog 181 J0:=by
 refine hX Tryz.func181 ?_;rintro cvs m h K ⟨n,s,ps,q,ks,rfl,hn,hK⟩;refine⟨dN [] [] [] [] false,rfl,aF,Lr n m h K,by kernel_rfl,?_⟩;exact XJ hK
theorem XI{n:NV}{op:Int}{on:List (Int×Int)}{args:List Query}(hn:qC h s ps (.mk op ta w co on gr od li args) ks n)(ha:ks[0]? =some a)(hK:∀r:Bool,(r=true↔uZ a gr od li)->K (cB r) m h):Dc n m h (j9 h K):=by
 dsimp only[Dc,push_cast];have x:=hn.q_.parts;have gl:=x.group_.slen;have glen:=x.group_.len;have ol:=x.order_.slen;have olen:=x.order_.len;have el:=x.limit_;obtain⟨b0,o0,sl,e0,r0,hi0,hl12,hlen⟩:=hn.arg ha;have sla:=hi0.slen;have bad:∀mx,Sub m mx->¬uZ a gr od li->j9 h K (.val (.bool false)) mx h:=λmx hm hn=>.sub hm (hK false ⟨λe=>(by cases e),λe=>(hn e).elim⟩);refine⟨b0,o0,e0,aC,aC,sl,.imm (by simpa using r0),λb m1 hb hm1=>?_⟩;refine⟨λ⟨i,wd,b',mx⟩=>wd=a.length/\b'=b/\i<=gr.length/\Sub m mx/\Tp mx b (gr.take i)/\eJ (GU a) gr i,λ⟨i,_,_,_⟩=>gr.length-i,⟨(0,sl.len,b,m1),⟨sla,rfl,aC,(Sub.refl m).upd hb.m_ hm1.other,.zero hm1.at_,.zero⟩,MT⟩,?_⟩;rintro⟨i,wd,b,mx⟩ ⟨rfl,rfl,hi,hsub,harr,hg⟩;dsimp only;refine aE (λhlt=>?_) (λhge=>?_)
 .obtain⟨c,hc⟩:=fJ gl hlt;obtain⟨b1,o1,e1,r1⟩:=x.group_.at' hc;have gbad:¬GU a (gr.take i) c->j9 h K (.val (.bool false)) mx h:=λhn=>bad mx hsub λhh=>Good.not hc hn hh.group_;refine⟨b1,o1,e1,aC,hlt,c,.imm r1,aE (λh1=>gbad λhh=>?_) (λh1=>aE (λh2=>gbad λhh=>?_) (λh2=>?_))⟩
  .have:=j7.1 hh.1;omega
  .have:=j7.1 hh.1;omega
  obtain⟨y,hy,hys⟩:=harr.look (h:=h) (n:=c) aC aC;refine⟨aC,aC,y,hy,aB (λh3=>gbad λhh=>hh.2 (hys.1 h3)) (λh3=>?_)⟩;obtain⟨cs,E,hat,hsz,hst⟩:=harr.store (n:=c) aC aC;refine⟨aC,aC,cs,E,hat,hsz,λm2 hm2=>⟨(i+1,a.length,b,m2),⟨rfl,rfl,aC,hsub.upd hb.m_ hm2.other,?_,hg.succ hc ⟨j7.2 ⟨aC,aC⟩,λe=>?_⟩⟩,by show gr.length-(i+1)<gr.length-i;omega,MT⟩⟩
  .have:=hst m2 hm2
   rwa [List.take_add_one,hc]
  .rw[hys.2 e]at h3;cases h3
 have gg:=hg.all aC;refine⟨λ⟨i,wd,mx⟩=>wd=a.length/\i<=od.length/\Sub m mx/\eJ (J5 a) od i,λ⟨i,_,_⟩=>od.length-i,⟨(0,a.length,mx),⟨rfl,aC,hsub,.zero⟩,MT⟩,?_⟩;clear hi hg hge hsub harr mx;rintro⟨i,wd,mx⟩ ⟨rfl,hi,hsub,hoi⟩;dsimp only;refine aE (λhlt=>?_) (λhge=>?_)
 .obtain⟨c,hc⟩:=fJ ol hlt;obtain⟨b1,o1,e1,r1⟩:=x.order_.at hc;have obad:¬J5 a (od.take i) c->j9 h K (.val (.bool false)) mx h:=λhn=>bad mx hsub λhh=>Good.not hc hn hh.order_;refine⟨b1,o1,e1,aC,hlt,c,.imm r1,aE (λh1=>obad λhh=>?_) (λh1=>aE (λh2=>obad λhh=>?_) (λh2=>⟨(i+1,a.length,mx),⟨rfl,aC,hsub,hoi.succ hc (j7.2 ⟨aC,aC⟩)⟩,by show od.length-(i+1)<od.length-i;omega,MT⟩))⟩
  .have:=j7.1 (show BA a c.1=true from hh);omega
  .have:=j7.1 (show BA a c.1=true from hh);omega
 have oo:=hoi.all aC;rw[el];refine aE (λh1=>aE (λh2=>?_) (λh2=>bad mx hsub λhh=>?_)) (λh1=>bad mx hsub λhh=>?_)
 .exact .sub hsub (hK (decide (li<=100)) ⟨λe=>⟨gg,oo,aC,h2,by simpa using e⟩,λe=>decide_eq_true e.high⟩)
 .have:=hh.low;omega
 .have:=hh.len_;omega
theorem JB:Sound Tryz.prog 182 J1:=by
 refine Fg Tryz.func182 ?_;rintro cvs m h K ⟨n,s,ps,q,ks,a,rfl,hn,ha,hK⟩;refine⟨VF n h,rfl,aF,Dc n m h (j9 h K),by kernel_rfl,?_⟩;dsimp only[Dc,push_cast];obtain⟨op,ta,w,co,on,gr,od,li,args⟩:=q;refine XI hn ha (λr hr=>hK r (hr.trans ⟨λe=>⟨_,_,_,_,_,_,_,_,_,rfl,e⟩,?_⟩));rintro⟨_,_,_,_,_,_,_,_,_,e,hr⟩;cases e;exact hr
theorem PZ{on:List (Int×Int)}{sl:Sl}(hon:lD h sl on):cT h (.mk 0 0 gV [] on [] [] 0 []) ⟨0,0,⟨0,0,dH,dH,⟨none,0,0⟩⟩,⟨none,0,0⟩,sl,⟨none,0,0⟩,⟨none,0,0⟩,0,⟨none,0,0⟩⟩:=
 nW.rep ⟨rfl,rfl,Ao h,⟨.nil _ _,by simp⟩,hon,⟨.nil _ _,by simp⟩,⟨.nil _ _,by simp⟩,rfl,.nil _ _ _ _⟩
theorem JD:Sound Tryz.prog 178 J4:=by
 refine Fg Tryz.func178 ?_;rintro cvs m h K ⟨n,s,ps,q,ks,rfl,hn,hK⟩;refine⟨VH n h,rfl,aD qA aF,Dd n m h (j9 h K),by kernel_rfl,?_⟩;dsimp only[Dd,push_cast];obtain⟨op,ta,w,co,on,gr,od,li,args⟩:=q;show Dd n m h (j9 h K);dsimp only[Dd,push_cast];have x:=hn.q_.parts;have ol:=x.on_.slen;have olen:=x.on_.len;have bad:∀mx,Sub m mx->¬HI ks (.mk op ta w co on gr od li args)->j9 h K (.val (.bool false)) mx h:=λmx hm hn=>.sub hm (hK false ⟨λe=>(by cases e),λe=>(hn e).elim⟩);refine⟨n,2,⟨0,0,⟨0,0,dH,dH,⟨none,0,0⟩⟩,⟨none,0,0⟩,n.q.on,⟨none,0,0⟩,⟨none,0,0⟩,0,⟨none,0,0⟩⟩,s,ps,_,ks,.mk 0 0 gV [] on [] [] 0 [],rfl,hn,PZ x.on_,λr hr=>aB (λh1=>bad m (Sub.refl m) λhh=>?_) (λh1=>?_)⟩
 .have:r=true:=hr.2 ⟨by have:=hh.1;omega,by obtain⟨_,rfl,rfl,rfl,rfl,rfl,rfl,_⟩:=hh;rfl⟩;rw[this]at h1;cases h1
 obtain⟨hk2,heq⟩:=hr.1 (by simpa using h1);simp only[Query.withOf,Query.mk.injEq]at heq;obtain⟨_,rfl,rfl,rfl,_,rfl,rfl,rfl,_⟩:=heq
 obtain⟨a0,a1,rfl⟩:∃a0 a1,ks=[a0,a1]:=by
  match ks,hk2 with
  |[a0,a1],_=>exact⟨a0,a1,rfl⟩
  |[],h=>simp at h
  |[_],h=>simp at h
  |_::_::_::_,h=>simp at h;omega
 obtain⟨b0,o0,s0,e0,r0,i0,l0,j0⟩:=hn.arg (j:=0) rfl;obtain⟨b1,o1,s1,e1,r1,i1,l1,j1⟩:=hn.arg (j:=1) rfl;have sl0:=i0.slen;have sl1:=i1.slen;have bad:∀mx,Sub m mx->¬Good (Ae a0 a1) on->j9 h K (.val (.bool false)) mx h:=λmx hm hn=>bad mx hm λhh=>hn hh.2.2.2.2.2.2.2;refine⟨b0,o0,e0,aC,aC,s0,.imm (by simpa using r0),b1,o1,e1,aC,aC,s1,.imm (by simpa using r1),λb m1 hb hm1 c m2 hc hm2=>?_⟩;have hne:b≠c:=λe=>by have:=hc.m_;rw[<-e,hm1.at_]at this;cases this
 have hs1:Sub m m1:=(Sub.refl m).upd hb.m_ hm1.other;have hcm:m c=none:=hs1.free hc.m_
 refine⟨λ⟨i,s',t',b',c',mx⟩=>s'=s0/\t'=s1/\b'=b/\c'=c/\i<=on.length/\Sub m mx/\Tp mx b ((on.take i).map Prod.fst)/\Tp mx c ((on.take i).map Prod.snd)/\eJ (Ae a0 a1) on i,λ⟨i,_,_,_,_,_⟩=>on.length-i,
  ⟨(0,s0,s1,b,c,m2),⟨rfl,rfl,rfl,rfl,aC,hs1.upd hcm hm2.other,(Tp.zero hm1.at_).other hne hm2.other,.zero hm2.at_,.zero⟩,MT⟩,?_⟩
 rintro⟨i,s0,s1,b,c,mx⟩ ⟨rfl,rfl,rfl,rfl,hi,hsub,hA,hB,hg⟩;dsimp only;refine aE (λhlt=>?_) (λhge=>.sub hsub (hK true ⟨λ_=>⟨rfl,rfl,rfl,rfl,rfl,rfl,rfl,hg.all aC⟩,λ_=>rfl⟩));obtain⟨p,hp⟩:=fJ ol hlt;obtain⟨bp,op',ep,rp⟩:=x.on_.at hp;have pbad:¬Ae a0 a1 (on.take i) p->j9 h K (.val (.bool false)) mx h:=λhn=>bad mx hsub (Good.not hp hn);refine⟨bp,op',ep,aC,hlt,p,.imm rp,aC,aC,aC,aC,aE (λd1=>pbad λhh=>?_) (λd1=>aE (λd2=>pbad λhh=>?_) (λd2=>aE (λd3=>pbad λhh=>?_) (λd3=>aE (λd4=>pbad λhh=>?_) (λd4=>?_))))⟩
 .have:=j7.1 hh.1;omega
 .have:=j7.1 hh.1;omega
 .have:=j7.1 hh.2.1;omega
 .have:=j7.1 hh.2.1;omega
 obtain⟨b2,o2,e2,r2⟩:=i0.inb (n:=p.1) aC aC;obtain⟨b3,o3,e3,r3⟩:=i1.inb (n:=p.2) aC aC;obtain⟨y,hy,hys⟩:=hA.look (h:=h) (n:=p.1) aC aC;obtain⟨z,hz,hzs⟩:=hB.look (h:=h) (n:=p.2) aC aC;obtain⟨cs,E,hat,hsz,hst⟩:=hA.store (n:=p.1) aC aC;refine⟨b2,o2,e2,aC,aC,_,.imm r2,b3,o3,e3,aC,aC,_,.imm r3,aB (λd5=>pbad λhh=>?_) (λd5=>⟨aC,aC,y,hy,aB (λd6=>pbad λhh=>?_) (λd6=>⟨aC,aC,z,hz,aB (λd7=>pbad λhh=>?_) (λd7=>⟨aC,aC,cs,E,hat,hsz,λm3 hm3=>?_⟩)⟩)⟩)⟩
 .rw[hh.2.2.1]at d5;simp at d5
 .obtain⟨q,hq,e⟩:=List.mem_map.1 (hys.1 d6);exact(hh.2.2.2 q hq).1 e
 .obtain⟨q,hq,e⟩:=List.mem_map.1 (hzs.1 d7);exact(hh.2.2.2 q hq).2 e
 have hA3:=hst m3 hm3;have hB3:=hB.other hne.symm hm3.other;obtain⟨cs2,E2,hat2,hsz2,hst2⟩:=hB3.store (n:=p.2) aC aC;refine⟨aC,aC,cs2,E2,hat2,hsz2,λm4 hm4=>⟨(i+1,s0,s1,b,c,m4),⟨rfl,rfl,rfl,rfl,aC,(hsub.upd hb.m_ hm3.other).upd hcm hm4.other,?_,?_,hg.succ hp ⟨j7.2 ⟨aC,aC⟩,j7.2 ⟨aC,aC⟩,by simpa using d5,λq hq=>⟨λe=>?_,λe=>?_⟩⟩⟩,by show on.length-(i+1)<on.length-i;omega,MT⟩⟩
 .rw[fP hp];exact hA3.other hne hm4.other
 .rw[fP hp];exact hst2 m4 hm4
 .rw[hys.2 (List.mem_map.2 ⟨q,hq,e⟩)]at d6;cases d6
 .rw[hzs.2 (List.mem_map.2 ⟨q,hq,e⟩)]at d7;cases d7
def fin(r:List Int×Int):List Int×Int:=if r.2=0 then zF r.1 else iR r.2
def Query.op:Query->Int
 |.mk op .. =>op
noncomputable def u9(s:nY)(ps:List Int)(q:Query)(ks:List (List Int)):List Int×Int:=if(ks.length:Int)=arity q.op then iA s ps q (ks.getD 0 []) (ks.getD 1 [])else iR 100
def vA(P:Int->Prop):Vc.Spec:=λcvs m h K=>∃n s ps q ks,cvs=[aN n]/\qC h s ps q ks n/\mS s/\P q.op/\∀r,fin r=u9 s ps q ks->KR K m h r
def Zg(h:PH)(ss:Sl)(ks:List (List Int)):Prop:=bY h 1 eS (λk sl=>Ints h sl k) ss ks
def Iq:Vc.Spec:=λcvs m h K=>∃ss ks,cvs=[cS ss]/\Zg h ss ks/\ks.length<=10/\(∀k∈ks,k.length<=12)/\∀sl h',PH.le h h'->Ints h' sl ks.flatten->K (cS sl) m h'
noncomputable def VO(n:NV)(m:MH)(h:PH):Ctx:=
 dN [(177,yV)] [(5,{A:=Nat×List Int,st:=λ⟨i,l⟩=>cJ 57 58 [(1,.at (.ptr 1 0)),(4,.at (.lst 25)),(28,sv n.q.columns),(29,iv n.q.columns.len),(30,iv i)] [(1,.cells 152 (n.enc.map .val)),(25,.lst 3 1 (l.map eI))] m h})] [] [] false
noncomputable abbrev zA(a:List Value):List Value:=aL tZ tZ (aL tZ bC a)
noncomputable abbrev vX(a b:Value):List Value:=aL a b (aL bC bC (aL bC bC (aL bC bC (sL tZ (zA iD)))))
attribute [push_cast] zA vX
def Dk(n:NV)(m:MH)(h:PH)(K:CV->MH->PH->Prop):Prop:=
  xW (λn1 k u s p q k1 u1=>aH (cL (aL (rZ n.s) (rY n.s) (aL (dT n.params) (dY n.q.op) (aL (mF n.q) (mE n.q) (aL (dY (mH n.q)) (kP (iE n.q)) (fF n (fE n)))))) (dZ (eK 0) (jI (vX bC (mF n.q))))=cL (aL (rZ n1.s) (rY n1.s) (aL (dT n1.params) (dY n1.q.op) (aL (mF n1.q) (mE n1.q) (aL (dY (mH n1.q)) (kP (iE n1.q)) (fF n1 (fE n1)))))) (dZ (eK k) (bV u))) (qC h s p q k1 n1) (cT h u1 u) (∀(r:Bool),gQ (dX r↔xV k1 k/\BW q u1) (!r) (K (CV.tup (bD lU 100)) m h) (bA n.q.table 0 (K (CV.tup (bD lU 100)) m h) (fW n.q.table (gO n.s) (K (CV.tup (bD lU 100)) m h) (AQ (bD (jI (bI n.s)) n.q.table) h (λs1 h1=>K (CV.tup (bD (pD s1) 0)) m h1))))))
def Dj(n:NV)(m:MH)(h:PH)(K:CV->MH->PH->Prop):Prop:=
  xW (λn1 k u s p q k1 u1=>aH (cL (aL (rZ n.s) (rY n.s) (aL (dT n.params) (dY n.q.op) (aL (mF n.q) (mE n.q) (aL (dY (mH n.q)) (kP (iE n.q)) (fF n (fE n)))))) (dZ (eK 1) (jI (aL bC bC (aL (mE n.q) (dY (mH n.q)) (aL (kP (iE n.q)) (wW (iE n.q)) (aL (dY (oY (iE n.q))) (p9 (iE n.q)) (aL (lB (iE n.q)) (kP (fD n.q)) (aL (wW (fD n.q)) (dY (oY (fD n.q))) (aL (p9 (fD n.q)) (lB (fD n.q)) (aL (mZ n.q) tZ (zA iD)))))))))))=cL (aL (rZ n1.s) (rY n1.s) (aL (dT n1.params) (dY n1.q.op) (aL (mF n1.q) (mE n1.q) (aL (dY (mH n1.q)) (kP (iE n1.q)) (fF n1 (fE n1)))))) (dZ (eK k) (bV u))) (qC h s p q k1 n1) (cT h u1 u) (∀(r:Bool),gQ (dX r↔xV k1 k/\BW q u1) (!r) (K
 (CV.tup (bD lU 100)) m h) (nF n m h (λ_ _ y=>CI (cH y (fK n.params (jI n.q.where_.enc))) h (λc p1 p2=>eA (hZ c p1 p2) 0 (K (CV.tup (bD lU (hZ c p1 p2))) m h) (nF n m h (λ_ _ y1=>K (CV.tup (bD (pD y1) 0)) m h)))))))
def Di(n:NV)(m:MH)(h:PH)(K:CV->MH->PH->Prop):Prop:=
  xW (λn1 k u s p q k1 u1=>aH (cL (aL (rZ n.s) (rY n.s) (aL (dT n.params) (dY n.q.op) (aL (mF n.q) (mE n.q) (aL (dY (mH n.q)) (kP (iE n.q)) (fF n (fE n)))))) (dZ (eK 1) (jI (CR (sL (nA n.q) (zA iD)))))=cL (aL (rZ n1.s) (rY n1.s) (aL (dT n1.params) (dY n1.q.op) (aL (mF n1.q) (mE n1.q) (aL (dY (mH n1.q)) (kP (iE n1.q)) (fF n1 (fE n1)))))) (dZ (eK k) (bV u))) (qC h s p q k1 n1) (cT h u1 u) (∀(r:Bool),(dX r↔xV k1 k/\BW q u1)->cW (!r) (K (CV.tup (bD lU 100)) m h) (aG n.q.columns==0) (K (CV.tup (bD lU 100)) m h) (aA (cD 0) (cD (aG n.q.columns)) (aA (p5 (aG n.q.columns*8)) (p5 (aG n.q.columns)) (∃(I:Nat×List Int->Prop)(m1:Nat×List Int->Nat),(∃(x:Nat×List Int),aA (I
 x) eR (aA (eL 25) (aJ n.q.columns) (aA (bJ n.q.columns) (bE x.1) (aA (AE n) (nG x.2) (cA (m=m) h h)))))/\∀(x:Nat×List Int),I x->bA (↑x.1:Int) (aG n.q.columns) (aW (λb o=>aH (aX n.q.columns.a b o) (0<=(↑x.1:Int)) ((↑x.1:Int)<aG n.q.columns) (∃(y:Int),aM m h b (bL o x.1 1) (bN y)/\bA y 0 (K (CV.tup (bD lU 100)) m h) (nF n m h (λ_ _ y1=>fW y (aG y1) (K (CV.tup (bD lU 100)) m h) (nF n m h (λ_ _ y2=>aW (λb1 o1=>aH (aX y2.a b1 o1) (0<=y) (y<aG y2) (∃(y3:Int),aH (aM m h b1 (fR o1 y 1) (bN y3)) (xQ x.2) (gS (eF x.2)) (∃(x1:Nat×List Int),aA (I x1) (m1 x1<m1 x) (aA eR (eL 25) (aA (aJ n.q.columns) (bJ n.q.columns) (aA (fY (aT ((↑x.1:Int)+1))=bZ x1.1) (AE n) (aH (nH x.2
 y3 x1.2) (m=m) (h=h) True)))))))))))))) (bM h 1 (eF x.2) (λs1 h1=>K (CV.tup (bD (pD s1) 0)) m h1)))))))
noncomputable abbrev iG(a:NV)(b:List Value):List CV:=kF (aL (rZ a.s) (rY a.s) (aL (dT a.params) (dY a.q.op) (aL (mF a.q) (mE a.q) (aL (dY (mH a.q)) (kP (iE a.q)) b))))
attribute [push_cast] iG
def Dh(n:NV)(m:MH)(h:PH)(K:CV->MH->PH->Prop):Prop:=
  ∃(n1:NV),Az (λs p q k=>aA (iG n (fF n (fE n))=iG n1 (fF n1 (fE n1))) (qC h s p q k n1) (∀(r:Bool),gQ (dX r↔HI k q) (!r) (K (CV.tup (bD lU 100)) m h) (nF n m h (λb o y=>aW (λb1 o1=>aH (aX n.args.a b1 o1) ((0:Int)<=1) (1<aG n.args) (∃(y1:Sl),aH (aM m h b1 (o1+1) (aR y1)) (aZ h b (o+0) (aR y)) (aZ h b1 (o1+1) (aR y1)) (bM h 1 (aR y::eX (aR y1)) (λs1 h1=>∃(s2:Sl)(k1:List (List Int)),aA (gC s1=gC s2) (Zg h1 s2 k1) (aA (k1.length<=10) (∀(k2:List Int),List.Mem k2 k1->k2.length<=12) (lC (λs3 h2=>dK h1 h2 (Ints h2 s3 k1.flatten) (K (CV.tup (bD (pD s3) 0)) m h2))))))))))))
def Dg(n:NV)(m:MH)(h:PH)(K:CV->MH->PH->Prop):Prop:=
  ∃(n1:NV),Az (λs p q k=>aA (iG n (fF n (fE n))=iG n1 (fF n1 (fE n1))) (qC h s p q k n1) (∀(r:Bool),gQ (dX r↔HI k q) (!r) (K (CV.tup (bD lU 100)) m h) (nF n m h (λ_ _ y=>K (CV.tup (bD (pD y) 0)) m h))))
def GB(n:NV)(m:MH)(h:PH)(K:CV->MH->PH->Prop):Prop:=
  xW (λn1 k u s p q k1 u1=>aH (cL (aL (rZ n.s) (rY n.s) (aL (dT n.params) (dY n.q.op) (aL (mF n.q) (mE n.q) (aL (dY (mH n.q)) (kP (iE n.q)) (fF n (fE n)))))) (dZ (eK 2) (jI zV))=cL (aL (rZ n1.s) (rY n1.s) (aL (dT n1.params) (dY n1.q.op) (aL (mF n1.q) (mE n1.q) (aL (dY (mH n1.q)) (kP (iE n1.q)) (fF n1 (fE n1)))))) (dZ (eK k) (bV u))) (qC h s p q k1 n1) (cT h u1 u) (∀(r:Bool),gQ (dX r↔xV k1 k/\BW q u1) (!r) (K (CV.tup (bD lU 100)) m h) (nF n m h (λ_ _ y=>aW (λb o=>aH (aX n.args.a b o) ((0:Int)<=1) (1<aG n.args) (∃(y1:Sl),aM m h b (o+1) (aR y1)/\ED y y1 h (λr1=>(!r1)) (K (CV.tup (bD lU 100)) m h) (nF n m h (λ_ _ y2=>K (CV.tup (bD (pD y2) 0)) m h))))))))
abbrev F1(a:(List Int)->(List (Int×Bool))->Prop):Prop:=∃(x:List Int)(x1:List (Int×Bool)),a x x1
attribute [push_cast] F1
def Df(n:NV)(m:MH)(h:PH)(K:CV->MH->PH->Prop):Prop:=
  ∃(n1:NV),Az (λs p q k=>aA (iG n (fF n (fE n))=iG n1 (fF n1 (fE n1))) (qC h s p q k n1) (xW (λn2 k1 u s1 p1 q1 k2 u1=>aH (cL (aL (rZ n.s) (rY n.s) (aL (dT n.params) (dY n.q.op) (aL (mF n.q) (mE n.q) (aL (dY (mH n.q)) (kP (iE n.q)) (fF n (fE n)))))) (dZ (eK 1) (jI (CR (sL tZ (HP n1.q)))))=cL (aL (rZ n2.s) (rY n2.s) (aL (dT n2.params) (dY n2.q.op) (aL (mF n2.q) (mE n2.q) (aL (dY (mH n2.q)) (kP (iE n2.q)) (fF n2 (fE n2)))))) (dZ (eK k1) (bV u))) (qC h s1 p1 q1 k2 n2) (cT h u1 u) (∀(r:Bool),gQ (dX r↔xV k2 k1/\BW q1 u1) (!r) (K (CV.tup (bD lU 100)) m h) (∃(n3:NV),Az (λs2 p2 q2 k3=>∃(a:List Int),aH (iG n (fF n (fE n))=iG n3 (fF n3 (fE n3)))
 (qC h s2 p2 q2 k3 n3) (k3[0]? =Option.some a) (∀(r1:Bool),gQ (dX r1↔(∃(o t:Int)(w:Pred)(c:List Int)(o1:List (Int×Int)),F1 (λg o2=>∃(l:Int)(a1:List Query),q2=Query.mk o t w c o1 g o2 l a1/\uZ a g o2 l))) (!r1) (K (CV.tup (bD lU 100)) m h) (nF n m h (λ_ _ y=>K (CV.tup (bD (pD y) 0)) m h)))))))))
def De(n:NV)(m:MH)(h:PH)(K:CV->MH->PH->Prop):Prop:=
  ∃(n1:NV),Az (λs p q k=>aA (iG n (fF n (fE n))=iG n1 (fF n1 (fE n1))) (qC h s p q k n1) (xW (λn2 k1 u s1 p1 q1 k2 u1=>aH (cL (aL (rZ n.s) (rY n.s) (aL (dT n.params) (dY n.q.op) (aL (mF n.q) (mE n.q) (aL (dY (mH n.q)) (kP (iE n.q)) (fF n (fE n)))))) (dZ (eK 2) (jI (CR (sL tZ (HP n1.q)))))=cL (aL (rZ n2.s) (rY n2.s) (aL (dT n2.params) (dY n2.q.op) (aL (mF n2.q) (mE n2.q) (aL (dY (mH n2.q)) (kP (iE n2.q)) (fF n2 (fE n2)))))) (dZ (eK k1) (bV u))) (qC h s1 p1 q1 k2 n2) (cT h u1 u) (∀(r:Bool),gQ (dX r↔xV k2 k1/\BW q1 u1) (!r) (K (CV.tup (bD lU 100)) m h) (nF n m h (λb o y=>aW (λb1 o1=>aH (aX n.args.a b1 o1) ((0:Int)<=1) (1<aG n.args) (∃(y1:Sl),aM m
 h b1 (o1+1) (aR y1)/\ED y y1 h (λr1=>(!r1)) (aA (aZ h b (o+0) (aR y)) (aZ h b1 (o1+1) (aR y1)) (K (CV.tup (bD lU 100)) m h)) (aA (aZ h b (o+0) (aR y)) (aZ h b1 (o1+1) (aR y1)) (∃(n3:NV),Az (λs2 p2 q2 k3=>∃(a:List Int),aH (iG n (fF n (fE n))=iG n3 (fF n3 (fE n3))) (qC h s2 p2 q2 k3 n3) (k3[0]? =Option.some a) (∀(r1:Bool),gQ (dX r1↔(∃(o2 t:Int)(w:Pred)(c:List Int)(o3:List (Int×Int)),F1 (λg o4=>∃(l:Int)(a1:List Query),q2=Query.mk o2 t w c o3 g o4 l a1/\uZ a g o4 l))) (!r1) (K (CV.tup (bD lU 100)) m h) (nF n m h (λ_ _ y2=>K (CV.tup (bD (pD y2) 0)) m h))))))))))))))
theorem W7{e:Int}(h:e≠0):fin (iR e)=iR e:=by unfold fin;rw[if_neg (by simpa[iR]using h)];rfl
theorem W6(l:List Int):fin (l,0)=zF l:=by unfold fin;rw[if_pos rfl]
structure UP(K:CV->MH->PH->Prop)(m:MH)(h:PH)(full:List Int×Int):Prop where
 all:∀r,fin r=full->KR K m h r
theorem UP.err{f:List Int×Int}{e:Int}(x:UP K m h f)(he:f=iR e)(h0:e≠0)(hle:PH.le h h'):K (.tup [.val (.slice none 0 0),.val (.int .i64 e)]) m h':=
 (x.all (iR e) (by rw[he,W7 h0])).err hle rfl
theorem UP.ok{f:List Int×Int}{sl:Sl}(x:UP K m h f)(he:f=zF l)(hle:PH.le h h')(hi:Ints h' sl l):K (.tup [.val (.slice sl.a sl.len sl.cap),.val (.int .i64 0)]) m h':=
 x.all (l,0) (by rw[he,W6]) sl h' hle hi
theorem rP(h:¬((ks.length:Int)=arity q.op/\dE q)):u9 s ps q ks=iR 100:=by
 unfold u9;by_cases h1:(ks.length:Int)=arity q.op
 .rw[if_pos h1];unfold iA;rw[if_pos (.inr λe=>h ⟨h1,e⟩)]
 .rw[if_neg h1]
theorem mR{s:nY}{ps:List Int}{op ta:Int}{w:Pred}{co:List Int}{on:List (Int×Int)}{gr:List Int}{od:List (Int×Bool)}{li:Int}{args:List Query}{ks:List (List Int)}(h1:(ks.length:Int)=arity op)(h2:dE (.mk op ta w co on gr od li args))(h0:0<=arity op):
 u9 s ps (.mk op ta w co on gr od li args) ks=iA s ps (.mk op ta w co on gr od li args) (ks.getD 0 []) (ks.getD 1 [])/\¬(arity op<0\/¬dE (.mk op ta w co on gr od li args)):=by
 unfold u9;rw[if_pos (show(ks.length:Int)=arity (Query.op (.mk op ta w co on gr od li args))from h1)];exact⟨rfl,λe=>e.elim (λe=>by omega) λe=>e h2⟩
section
variable{n:NV}{s:nY}{ps:List Int}{ta:Int}{w:Pred}{co:List Int}{on:List (Int×Int)}{gr:List Int}{od:List (Int×Bool)}{li:Int}{args:List Query}{ks:List (List Int)}{m:MH}{h:PH}{K:CV->MH->PH->Prop}
theorem Qc(hk:(ks.length:Int)=1):∃a,ks=[a]:=by
 match ks,hk with
 |[a],_=>exact⟨a,rfl⟩
 |[],h=>simp at h
 |_::_::_,h=>simp at h;omega
theorem Mh(hk:(ks.length:Int)=2):∃a b,ks=[a,b]:=by
 match ks,hk with
 |[a,b],_=>exact⟨a,b,rfl⟩
 |[],h=>simp at h
 |[_],h=>simp at h
 |_::_::_::_,h=>simp at h;omega
theorem XV(hn:qC h s ps (.mk 1 ta w co on gr od li args) ks n)(h8:mS s)(hT:UP K m h (u9 s ps (.mk 1 ta w co on gr od li args) ks)):Dk n m h K:=by
 dsimp only[Dk,push_cast];have x:=hn.q_.parts;have et:=x.table_;have sl:=hn.s_.tables.slen;refine⟨n,0,⟨0,n.q.table,⟨0,0,dH,dH,⟨none,0,0⟩⟩,⟨none,0,0⟩,⟨none,0,0⟩,⟨none,0,0⟩,⟨none,0,0⟩,0,⟨none,0,0⟩⟩,s,ps,_,ks,.mk 0 ta gV [] [] [] [] 0 [],rfl,hn,nW.rep ⟨rfl,et,Ao h,⟨.nil _ _,by simp⟩,⟨.nil _ _,by simp⟩,⟨.nil _ _,by simp⟩,⟨.nil _ _,by simp⟩,rfl,.nil _ _ _ _⟩,λr hr=>aB (λh1=>hT.err (rP λe=>?_) aC (.refl _)) (λh1=>?_)⟩
 .have:r=true:=hr.2 ⟨e.1,by have:=e.2;simp[dE]at this;obtain⟨rfl,rfl,rfl,rfl,rfl,rfl⟩:=this;rfl⟩;rw[this]at h1;cases h1
 obtain⟨hk,heq⟩:=hr.1 (by simpa using h1);simp only[Query.withOf,Query.mk.injEq]at heq;obtain⟨_,_,rfl,rfl,rfl,rfl,rfl,rfl,_⟩:=heq;obtain⟨hf,hg⟩:=mR (s:=s) (ps:=ps) (op:=1) (ta:=ta) (w:=gV) (co:=[]) (on:=[]) (gr:=[]) (od:=[]) (li:=0) (args:=args) (ks:=ks) hk (by simp[dE]) (by decide);rw[hf]at hT;unfold iA at hT;rw[if_neg hg]at hT;dsimp only at hT;rw[if_pos rfl]at hT;refine aE (λd1=>hT.err (if_neg aC) aC (.refl _)) (λd1=>aE (λd2=>hT.err (if_neg aC) aC (.refl _)) (λd2=>⟨n.s,s,n.q.table,rfl,hn.s_,h8,λsl h' hle hi=>?_⟩));rw[et]at hi;exact hT.ok (if_pos aC) hle hi
theorem XT(hn:qC h s ps (.mk 2 ta w co on gr od li args) ks n)(hT:UP K m h (u9 s ps (.mk 2 ta w co on gr od li args) ks)):Dj n m h K:=by
 dsimp only[Dj,push_cast];have x:=hn.q_.parts;refine⟨n,1,⟨0,0,n.q.where_,⟨none,0,0⟩,⟨none,0,0⟩,⟨none,0,0⟩,⟨none,0,0⟩,0,⟨none,0,0⟩⟩,s,ps,_,ks,.mk 0 0 w [] [] [] [] 0 [],rfl,hn,nW.rep ⟨rfl,rfl,x.where_,⟨.nil _ _,by simp⟩,⟨.nil _ _,by simp⟩,⟨.nil _ _,by simp⟩,⟨.nil _ _,by simp⟩,rfl,.nil _ _ _ _⟩,λr hr=>aB (λh1=>hT.err (rP λe=>?_) aC (.refl _)) (λh1=>?_)⟩
 .have:r=true:=hr.2 ⟨e.1,by have:=e.2;simp[dE]at this;obtain⟨rfl,rfl,rfl,rfl,rfl,rfl⟩:=this;rfl⟩;rw[this]at h1;cases h1
 obtain⟨hk,heq⟩:=hr.1 (by simpa using h1);simp only[Query.withOf,Query.mk.injEq]at heq;obtain⟨_,rfl,_,rfl,rfl,rfl,rfl,rfl,_⟩:=heq;obtain⟨hf,hg⟩:=mR (s:=s) (ps:=ps) (op:=2) (ta:=0) (w:=w) (co:=[]) (on:=[]) (gr:=[]) (od:=[]) (li:=0) (args:=args) (ks:=ks) hk (by simp[dE]) (by decide);rw[hf]at hT;unfold iA at hT;rw[if_neg hg]at hT;dsimp only at hT;rw[if_neg (by decide),if_pos rfl]at hT;obtain⟨a,rfl⟩:=Qc hk;obtain⟨b0,o0,s0,e0,r0,i0,l0,j0⟩:=hn.arg (j:=0) rfl;simp only[List.getD_cons_zero]at hT;refine⟨b0,o0,e0,aC,aC,s0,.imm (by simpa using r0),s0,n.params,n.q.where_,a,ps,w,rfl,i0,hn.ps_,x.where_,aB (λd1=>hT.err (if_neg (by simpa using d1)) (by simpa using d1) (.refl _)) (λd1=>⟨b0,o0,e0,aC,aC,s0,.imm (by simpa using r0),hT.ok (if_pos (by simpa using d1)) (.refl _) i0⟩)⟩
theorem XQ(hn:qC h s ps (.mk 5 ta w co on gr od li args) ks n)(hT:UP K m h (u9 s ps (.mk 5 ta w co on gr od li args) ks)):Dg n m h K:=by
 dsimp only[Dg,push_cast];refine⟨n,s,ps,_,ks,rfl,hn,λr hr=>aB (λh1=>hT.err ?_ aC (.refl _)) (λh1=>?_)⟩
 .by_cases hb:((ks.length:Int)=arity 5/\dE (.mk 5 ta w co on gr od li args))
  .obtain⟨hf,hg⟩:=mR (s:=s) (ps:=ps) hb.1 hb.2 (by decide);rw[hf];unfold iA;rw[if_neg hg];dsimp only;rw[if_neg (by decide),if_neg (by decide),if_neg (by decide),if_neg (by decide),if_pos rfl,if_neg];intro hgood;have h2:=hb.2;simp[dE]at h2;have:r=true:=hr.2 ⟨by have:=hb.1;simp[arity]at this;omega,h2.1,h2.2.1,h2.2.2.1,h2.2.2.2.1,h2.2.2.2.2.1,h2.2.2.2.2.2,hgood⟩;rw[this]at h1;cases h1
  .exact rP hb
 obtain⟨hk,rfl,rfl,rfl,rfl,rfl,rfl,hgood⟩:=hr.1 (by simpa using h1);obtain⟨hf,hg⟩:=mR (s:=s) (ps:=ps) (op:=5) (ta:=0) (w:=gV) (co:=[]) (on:=on) (gr:=[]) (od:=[]) (li:=0) (args:=args) (ks:=ks) (by rw[hk];rfl) (by simp[dE]) (by decide);rw[hf]at hT;unfold iA at hT;rw[if_neg hg]at hT;dsimp only at hT;rw[if_neg (by decide),if_neg (by decide),if_neg (by decide),if_neg (by decide),if_pos rfl,if_pos hgood]at hT;obtain⟨a,b,rfl⟩:=Mh (ks:=ks) aC;obtain⟨b0,o0,s0,e0,r0,i0,l0,j0⟩:=hn.arg (j:=0) rfl;exact⟨b0,o0,e0,aC,aC,s0,.imm (by simpa using r0),hT.ok rfl (.refl _) i0⟩
theorem XR(hn:qC h s ps (.mk 4 ta w co on gr od li args) ks n)(hT:UP K m h (u9 s ps (.mk 4 ta w co on gr od li args) ks)):Dh n m h K:=by
 dsimp only[Dh,push_cast];refine⟨n,s,ps,_,ks,rfl,hn,λr hr=>aB (λh1=>hT.err ?_ aC (.refl _)) (λh1=>?_)⟩
 .by_cases hb:((ks.length:Int)=arity 4/\dE (.mk 4 ta w co on gr od li args))
  .obtain⟨hf,hg⟩:=mR (s:=s) (ps:=ps) hb.1 hb.2 (by decide);rw[hf];unfold iA;rw[if_neg hg];dsimp only;rw[if_neg (by decide),if_neg (by decide),if_neg (by decide),if_pos rfl,if_neg];intro hgood;have h2:=hb.2;simp[dE]at h2;have:r=true:=hr.2 ⟨by have:=hb.1;simp[arity]at this;omega,h2.1,h2.2.1,h2.2.2.1,h2.2.2.2.1,h2.2.2.2.2.1,h2.2.2.2.2.2,hgood⟩;rw[this]at h1;cases h1
  .exact rP hb
 obtain⟨hk,rfl,rfl,rfl,rfl,rfl,rfl,hgood⟩:=hr.1 (by simpa using h1);obtain⟨hf,hg⟩:=mR (s:=s) (ps:=ps) (op:=4) (ta:=0) (w:=gV) (co:=[]) (on:=on) (gr:=[]) (od:=[]) (li:=0) (args:=args) (ks:=ks) (by rw[hk];rfl) (by simp[dE]) (by decide);rw[hf]at hT;unfold iA at hT;rw[if_neg hg]at hT;dsimp only at hT;rw[if_neg (by decide),if_neg (by decide),if_neg (by decide),if_pos rfl,if_pos hgood]at hT;obtain⟨a,b,rfl⟩:=Mh (ks:=ks) aC;obtain⟨b0,o0,s0,e0,r0,i0,l0,j0⟩:=hn.arg (j:=0) rfl;obtain⟨b1,o1,s1,e1,r1,i1,l1,j1⟩:=hn.arg (j:=1) rfl;refine⟨b0,o0,e0,aC,aC,s0,.imm (by simpa using r0),b1,o1,e1,aC,aC,s1,.imm (by simpa using r1),by simpa using r0,by simpa using r1,λsl h' hle hrow=>⟨sl,[a,b],rfl,⟨⟨[s0,s1],hrow,rfl,λj k hk=>?_⟩,by simp⟩,by simp,λk hk=>hn.len k hk,λsl2 h2 hle2 hi2=>hT.ok (l:=a++b) (by simp) (hle.trans hle2) (by simpa using hi2)⟩⟩
 match j,hk with
 |0,hk=>simp at hk;subst hk;exact⟨s0,rfl,i0.mono hle⟩
 |1,hk=>simp at hk;subst hk;exact⟨s1,rfl,i1.mono hle⟩
 |_+2,hk=>simp at hk
theorem XP{op:Int}(hop:op=6\/op=7\/op=8)(hn:qC h s ps (.mk op ta w co on gr od li args) ks n)(hT:UP K m h (u9 s ps (.mk op ta w co on gr od li args) ks)):GB n m h K:=by
 dsimp only[GB,push_cast];have x:=hn.q_.parts;have ha:arity op=2:=by rcases hop with rfl|rfl|rfl<;>rfl
 have hne:op≠1/\op≠2/\op≠3/\op≠4/\op≠5/\op≠9/\op≠10:=by omega
 refine⟨n,2,⟨0,0,⟨0,0,dH,dH,⟨none,0,0⟩⟩,⟨none,0,0⟩,⟨none,0,0⟩,⟨none,0,0⟩,⟨none,0,0⟩,0,⟨none,0,0⟩⟩,s,ps,_,ks,.mk 0 0 gV [] [] [] [] 0 [],rfl,hn,nW.rep ⟨rfl,rfl,Ao h,⟨.nil _ _,by simp⟩,⟨.nil _ _,by simp⟩,⟨.nil _ _,by simp⟩,⟨.nil _ _,by simp⟩,rfl,.nil _ _ _ _⟩,λr hr=>aB (λh1=>hT.err (rP λe=>?_) aC (.refl _)) (λh1=>?_)⟩
 .have e1:(ks.length:Int)=arity op:=e.1;have:r=true:=hr.2 ⟨aC,by have:=e.2;simp[dE,hne]at this;obtain⟨rfl,rfl,rfl,rfl,rfl,rfl,rfl⟩:=this;rfl⟩;rw[this]at h1;cases h1
 obtain⟨hk,heq⟩:=hr.1 (by simpa using h1);simp only[Query.withOf,Query.mk.injEq]at heq;obtain⟨_,rfl,rfl,rfl,rfl,rfl,rfl,rfl,_⟩:=heq;obtain⟨hf,hg⟩:=mR (s:=s) (ps:=ps) (op:=op) (ta:=0) (w:=gV) (co:=[]) (on:=[]) (gr:=[]) (od:=[]) (li:=0) (args:=args) (ks:=ks) aC (by simp[dE]) aC;rw[hf]at hT;unfold iA at hT;rw[if_neg hg]at hT;dsimp only at hT;rw[if_neg hne.1,if_neg hne.2.1,if_neg hne.2.2.1,if_neg hne.2.2.2.1,if_neg hne.2.2.2.2.1,if_neg hne.2.2.2.2.2.1,if_neg hne.2.2.2.2.2.2]at hT;obtain⟨a,b,rfl⟩:=Mh hk;obtain⟨b0,o0,s0,e0,r0,i0,l0,j0⟩:=hn.arg (j:=0) rfl;obtain⟨b1,o1,s1,e1,r1,i1,l1,j1⟩:=hn.arg (j:=1) rfl;refine⟨b0,o0,e0,aC,aC,s0,.imm (by simpa using r0),b1,o1,e1,aC,aC,s1,.imm (by simpa using r1),s0,s1,a,b,rfl,i0,i1,λr2 hr2=>aB (λd1=>hT.err (if_neg λe=>?_) aC (.refl _)) (λd1=>⟨b0,o0,e0,aC,aC,s0,.imm (by simpa using r0),hT.ok (if_pos (hr2.1 (by simpa using d1))) (.refl _) i0⟩)⟩;have e:a=b:=e;rw[hr2.2 e]at d1;cases d1
theorem XS(hn:qC h s ps (.mk 3 ta w co on gr od li args) ks n)(hT:UP K m h (u9 s ps (.mk 3 ta w co on gr od li args) ks)):Di n m h K:=by
 dsimp only[Di,push_cast];have x:=hn.q_.parts;have cl:=x.columns_.slen;have clen:=x.columns_.len;refine⟨n,1,⟨0,0,⟨0,0,dH,dH,⟨none,0,0⟩⟩,n.q.columns,⟨none,0,0⟩,⟨none,0,0⟩,⟨none,0,0⟩,0,⟨none,0,0⟩⟩,s,ps,_,ks,.mk 0 0 gV co [] [] [] 0 [],rfl,hn,nW.rep ⟨rfl,rfl,Ao h,x.columns_,⟨.nil _ _,by simp⟩,⟨.nil _ _,by simp⟩,⟨.nil _ _,by simp⟩,rfl,.nil _ _ _ _⟩,λr hr=>aB (λh1=>hT.err (rP λe=>?_) aC (.refl _)) (λh1=>?_)⟩
 .have:r=true:=hr.2 ⟨e.1,by have:=e.2;simp[dE]at this;obtain⟨rfl,rfl,rfl,rfl,rfl,rfl⟩:=this;rfl⟩;rw[this]at h1;cases h1
 obtain⟨hk,heq⟩:=hr.1 (by simpa using h1);simp only[Query.withOf,Query.mk.injEq]at heq;obtain⟨_,rfl,rfl,_,rfl,rfl,rfl,rfl,_⟩:=heq;obtain⟨hf,hg⟩:=mR (s:=s) (ps:=ps) (op:=3) (ta:=0) (w:=gV) (co:=co) (on:=[]) (gr:=[]) (od:=[]) (li:=0) (args:=args) (ks:=ks) hk (by simp[dE]) (by decide);rw[hf]at hT;unfold iA at hT;rw[if_neg hg]at hT;dsimp only at hT;rw[if_neg (by decide),if_neg (by decide),if_pos rfl]at hT;obtain⟨a,rfl⟩:=Qc hk;obtain⟨b0,o0,s0,e0,r0,i0,l0,j0⟩:=hn.arg (j:=0) rfl;have sl0:=i0.slen;simp only[List.getD_cons_zero]at hT;refine aB (λd1=>hT.err (if_neg λe=>e.1 ((Dv cl).1 d1)) aC (.refl _)) (λd1=>?_);have hne:co≠[]:=λe=>by rw[(Dv cl).2 e]at d1;cases d1
 refine⟨aC,aC,aC,aC,λ⟨i,l⟩=>i<=co.length/\l=(co.take i).map (λc=>a.getD c.toNat 0)/\eJ (λ_ c=>BA a c=true) co i,λ⟨i,_⟩=>co.length-i,⟨(0,[]),⟨aC,by simp,.zero⟩,MT⟩,?_⟩;rintro⟨i,_⟩ ⟨hi,rfl,hgo⟩;dsimp only;refine aE (λhlt=>?_) (λhge sl h' hle hrow=>?_)
 .obtain⟨c,hc⟩:=fJ cl hlt;obtain⟨b1,o1,ea1,r1⟩:=x.columns_.at' hc;have cbad:¬BA a c=true->K (.tup [.val (.slice none 0 0),.val (.int .i64 100)]) m h:=λhx=>hT.err (if_neg λe=>hx (e.2 i c hc)) aC (.refl _);refine⟨b1,o1,ea1,aC,hlt,c,.imm r1,aE (λd2=>cbad λe=>?_) (λd2=>⟨b0,o0,e0,aC,aC,s0,.imm (by simpa using r0),aE (λd3=>cbad λe=>?_) (λd3=>?_)⟩)⟩
  .have:=j7.1 e;omega
  .have:=j7.1 e;omega
  obtain⟨b2,o2,ea2,r2⟩:=i0.inb (n:=c) aC aC;refine⟨b0,o0,e0,aC,aC,s0,.imm (by simpa using r0),b2,o2,ea2,aC,aC,_,.imm r2,?_,?_,(i+1,(co.take (i+1)).map (λc=>a.getD c.toNat 0)),⟨aC,rfl,hgo.succ hc (j7.2 ⟨aC,aC⟩)⟩,by show co.length-(i+1)<co.length-i;omega,?_⟩
  .simp;omega
  .simp;omega
  .rw[fP hc,List.map_append];exact MT
 .rw[List.take_of_length_le aC]at hrow;exact hT.ok (if_pos ⟨hne,hgo.all aC⟩) hle ⟨hrow,by simp;omega⟩
theorem XO(hn:qC h s ps (.mk 9 ta w co on gr od li args) ks n)(hT:UP K m h (u9 s ps (.mk 9 ta w co on gr od li args) ks)):Df n m h K:=by
 dsimp only[Df,push_cast];have x:=hn.q_.parts;refine⟨n,s,ps,_,ks,rfl,hn,n,1,⟨0,0,⟨0,0,dH,dH,⟨none,0,0⟩⟩,⟨none,0,0⟩,⟨none,0,0⟩,n.q.group,n.q.order,n.q.limit,⟨none,0,0⟩⟩,s,ps,_,ks,.mk 0 0 gV [] [] gr od li [],rfl,hn,nW.rep ⟨rfl,rfl,Ao h,⟨.nil _ _,by simp⟩,⟨.nil _ _,by simp⟩,x.group_,x.order_,x.limit_,.nil _ _ _ _⟩,λr hr=>aB (λh1=>hT.err (rP λe=>?_) aC (.refl _)) (λh1=>?_)⟩
 .have:r=true:=hr.2 ⟨e.1,by have:=e.2;simp[dE]at this;obtain⟨rfl,rfl,rfl,rfl⟩:=this;rfl⟩;rw[this]at h1;cases h1
 obtain⟨hk,heq⟩:=hr.1 (by simpa using h1);simp only[Query.withOf,Query.mk.injEq]at heq;obtain⟨_,rfl,rfl,rfl,rfl,_,_,_,_⟩:=heq;obtain⟨hf,hg⟩:=mR (s:=s) (ps:=ps) (op:=9) (ta:=0) (w:=gV) (co:=[]) (on:=[]) (gr:=gr) (od:=od) (li:=li) (args:=args) (ks:=ks) hk (by simp[dE]) (by decide);rw[hf]at hT;unfold iA at hT;rw[if_neg hg]at hT;dsimp only at hT;rw[if_neg (by decide),if_neg (by decide),if_neg (by decide),if_neg (by decide),if_neg (by decide),if_pos rfl]at hT;obtain⟨a,rfl⟩:=Qc hk;obtain⟨b0,o0,s0,e0,r0,i0,l0,j0⟩:=hn.arg (j:=0) rfl;refine⟨n,s,ps,_,[a],a,rfl,hn,rfl,λr2 hr2=>aB (λd1=>hT.err (if_neg λe=>?_) aC (.refl _)) (λd1=>⟨b0,o0,e0,aC,aC,s0,.imm (by simpa using r0),hT.ok (if_pos ?_) (.refl _) i0⟩)⟩
 .rw[hr2.2 ⟨_,_,_,_,_,_,_,_,_,rfl,e⟩]at d1;cases d1
 .obtain⟨_,_,_,_,_,_,_,_,_,e,hh⟩:=hr2.1 (by simpa using d1);cases e;exact hh
theorem XN(hn:qC h s ps (.mk 10 ta w co on gr od li args) ks n)(hT:UP K m h (u9 s ps (.mk 10 ta w co on gr od li args) ks)):De n m h K:=by
 dsimp only[De,push_cast];have x:=hn.q_.parts;refine⟨n,s,ps,_,ks,rfl,hn,n,2,⟨0,0,⟨0,0,dH,dH,⟨none,0,0⟩⟩,⟨none,0,0⟩,⟨none,0,0⟩,n.q.group,n.q.order,n.q.limit,⟨none,0,0⟩⟩,s,ps,_,ks,.mk 0 0 gV [] [] gr od li [],rfl,hn,nW.rep ⟨rfl,rfl,Ao h,⟨.nil _ _,by simp⟩,⟨.nil _ _,by simp⟩,x.group_,x.order_,x.limit_,.nil _ _ _ _⟩,λr hr=>aB (λh1=>hT.err (rP λe=>?_) aC (.refl _)) (λh1=>?_)⟩
 .have:r=true:=hr.2 ⟨e.1,by have:=e.2;simp[dE]at this;obtain⟨rfl,rfl,rfl,rfl⟩:=this;rfl⟩;rw[this]at h1;cases h1
 obtain⟨hk,heq⟩:=hr.1 (by simpa using h1);simp only[Query.withOf,Query.mk.injEq]at heq;obtain⟨_,rfl,rfl,rfl,rfl,_,_,_,_⟩:=heq;obtain⟨hf,hg⟩:=mR (s:=s) (ps:=ps) (op:=10) (ta:=0) (w:=gV) (co:=[]) (on:=[]) (gr:=gr) (od:=od) (li:=li) (args:=args) (ks:=ks) hk (by simp[dE]) (by decide);rw[hf]at hT;unfold iA at hT;rw[if_neg hg]at hT;dsimp only at hT;rw[if_neg (by decide),if_neg (by decide),if_neg (by decide),if_neg (by decide),if_neg (by decide),if_neg (by decide),if_pos rfl]at hT;obtain⟨a,b,rfl⟩:=Mh hk;obtain⟨b0,o0,s0,e0,r0,i0,l0,j0⟩:=hn.arg (j:=0) rfl;obtain⟨b1,o1,s1,e1,r1,i1,l1,j1⟩:=hn.arg (j:=1) rfl;refine⟨b0,o0,e0,aC,aC,s0,.imm (by simpa using r0),b1,o1,e1,aC,aC,s1,.imm (by simpa using r1),s0,s1,a,b,rfl,i0,i1,λr3 hr3=>aB (λd2=>⟨by simpa using r0,by simpa using r1,hT.err (if_neg λe=>?_) aC (.refl _)⟩) (λd2=>⟨by simpa using r0,by simpa using r1,n,s,ps,_,[a,b],a,rfl,hn,rfl,λr2 hr2=>aB (λd1=>hT.err (if_neg λe=>?_) aC (.refl _)) (λd1=>⟨b0,o0,e0,aC,aC,s0,.imm (by simpa using r0),hT.ok (if_pos ⟨hr3.1 (by simpa using d2),?_⟩) (.refl _) i0⟩)⟩)⟩
 .have e:a=b:=e.1;rw[hr3.2 e]at d2;cases d2
 .rw[hr2.2 ⟨_,_,_,_,_,_,_,_,_,rfl,e.2⟩]at d1;cases d1
 .obtain⟨_,_,_,_,_,_,_,_,_,e,hh⟩:=hr2.1 (by simpa using d1);cases e;exact hh
end
end Go.Ps
