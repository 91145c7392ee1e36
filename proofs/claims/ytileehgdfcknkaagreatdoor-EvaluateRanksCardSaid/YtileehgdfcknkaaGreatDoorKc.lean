/-
  Part 3 of a proof that a law of the given program returns true: a condition generator that is proved sound, and contracts of functions. No condition of its own. Own work, joined by a program (pack2.py).
-/
import Derived.Test.YtileehgdfcknkaaGreatDoorKb
set_option linter.unusedVariables false
set_option linter.unusedSimpArgs false
namespace Go.Ps
open Go Go.Vc Go.Proofs
variable{K:CV->MH->PH->Prop}{m:MH}{h:PH}{ps:List Int}{cb:Nat}{sc:bH}{v:QV}{q:Query}{p:Pred}{l:List Int}{i:Nat}{N:Nat}{m':MH}{h':PH}{co:List Int}{gr:List Int}{od:List (Int×Bool)}{w:Pred}{ta:Int}{li:Int}{xs:List (List Value)}{sz:Nat}{k:Nat}{ks:List (List Int)}{rs:List Int}{r:Sl}{a:List Int}{b:Nat}
structure Ref where
 columns:List Int
 table:Int
structure wJ where
 name:ByteArray
 columns:List mZ
 key:Int
 refs:List Ref
 checks:List Pred
structure pV where
 version:Int
 tables:List wJ
variable{s:pV}
structure OG(h:PH)(r:Ref)(v:Cw):Prop where
 columns:Ints h v.columns r.columns
 table:v.table=r.table
def Cy(h:PH)(s:Sl)(l:List mZ):Prop:=bV h 2 mZ.enc Eq s l
structure HW(h:PH)(t:wJ)(v:cC):Prop where
 name:v.name=t.name
 columns:Cy h v.columns t.columns
 key:v.key=t.key
 refs:bV h 2 Cw.enc (OG h) v.references t.refs
 checks:Df h v.checks t.checks
structure gM(h:PH)(s:pV)(v:bH):Prop where
 version:v.version=s.version
 tables:bV h 5 cC.enc (HW h) v.tables s.tables
theorem OG.mono{r:Ref}{v:Cw}(x:OG h r v)(le:PH.le h h'):OG h' r v:=⟨x.columns.mono le,x.table⟩
theorem HW.mono{t:wJ}{v:cC}(x:HW h t v)(le:PH.le h h'):HW h' t v:=
 ⟨x.name,bV.mono x.columns le λ_ _ e=>e,x.key,x.refs.mono le λ_ _ e=>e.mono le,x.checks.mono le⟩
theorem gM.mono{v:bH}(x:gM h s v)(le:PH.le h h'):gM h' s v:=⟨x.version,x.tables.mono le λ_ _ e=>e.mono le⟩
def lower(c:Nat):Bool:=97<=c&&c<=122
def tU(c:Nat):Bool:=lower c||(48<=c&&c<=57)||c==95
def nE(s:ByteArray):List Nat:=s.data.toList.map UInt8.toNat
def mR(s:ByteArray):Bool:=1<=s.size&&s.size<=32&&lower ((nE s).headD 0)&&(nE s).all tU
theorem Nc(s:ByteArray):(nE s).length=s.size:=by simp[nE]
theorem Wc{s:ByteArray}{c:Nat}(h:(nE s)[i]? =some c):(s.get! i).toNat=c/\c<256:=by
 simp only[nE,List.getElem?_map,Option.map_eq_some_iff]at h;obtain⟨b,hb,rfl⟩:=h;refine⟨?_,b.toNat_lt⟩
 have hi:i<s.data.size:=by
  have:=(List.getElem?_eq_some_iff.1 hb).1;simpa using this
 have:s.data[i]? =some b:=by simpa using hb
 cases s with
 |mk bs=>
  show(bs[i]!).toNat=b.toNat;rw[getElem!_def,this]
theorem HN{s:ByteArray}(h:(s.get! i).toNat<128):Utf8.decode s i=((s.get! i).toNat,1):=by
 simp only[Utf8.decode,Nat.add_zero];rw[if_pos h]
theorem Wb{s:ByteArray}(h:¬(s.get! i).toNat<128):128<=(Utf8.decode s i).1:=by
 simp only[Utf8.decode,Nat.add_zero];rw[if_neg h]
 repeat' split
 all_goals simp_all [Utf8.runeError]
 all_goals omega
def Ot(s:ByteArray):CV:=.val (.string s)
def UH:Vc.Spec:=λcvs m h K=>∃s,cvs=[Ot s]/\K (cB (mR s)) m h
noncomputable def Xq(s:ByteArray)(m:MH)(h:PH):Ctx:=
 ctx [] [(4,{A:=Nat×Nat×MH,st:=λx=>cE 44 45 [(15,vv (.pointer (some ⟨x.2.1,0,none⟩)))] [] x.2.2 h,inv:=λx=>x.1<=s.size/\cM m h x.2.1/\fV m x.2.2 x.2.1 (.stringIter s x.1)/\(x.1=0\/lower ((nE s).headD 0)=true)/\((nE s).take x.1).all tU=true,mu:=λx=>s.size-x.1})] [] [] false
noncomputable def Xu(s:ByteArray)(m:MH)(h:PH):Ctx:=
 ctx [] [CR 4 (λi=>cE 50 51 [(0,vv (.string s)),(3,iv i)] [] m h) (λi=>i<=s.size/\((nE s).take i).all tU=true) (λi=>s.size-i)] [] [] false
abbrev Jy(a b:(Nat×Nat×MH)->Prop):Prop:=(∃(x:Nat×Nat×MH),a x)/\∀(x:Nat×Nat×MH),b x
noncomputable abbrev iV(a:Nat×Nat×MH):Nat:=a.2.1
noncomputable abbrev gI(a:Nat×Nat×MH):Nat->Option Obj:=a.2.2
abbrev zY(a:Nat×Nat×MH)(b:ByteArray)(c:MH)(d:PH):Prop:=aA (a.1<=b.size) (cM c d (iV a)) (aA (fV c (gI a) (iV a) (Obj.stringIter b a.1)) (a.1=0\/nD (lower (List.headD (nE b) 0))) (nD (List.all (List.take a.1 (nE b)) tU)))
abbrev cF(a b:Nat):Prop:=Wy a 0=Wy b 0
noncomputable abbrev BB(a:ByteArray)(b:Nat):Nat:=(Utf8.decode a b).1
abbrev yG(a:ByteArray)(b c:Nat):Prop:=a.size-b<a.size-c
abbrev Dy(a:(Nat×Nat×MH)->Prop)(b:ByteArray)(c:Nat×Nat×MH)(d:MH)(e:PH):Prop:=∃(x:Nat×Nat×MH),aA (a x) (yG b x.1 c.1) (aA (cF (iV c) (iV x)) (d=gI x) (dC e e))
attribute [push_cast] Jy iV gI zY cF BB yG Dy
def HF(s:ByteArray)(m:MH)(h:PH)(K:CV->MH->PH->Prop):Prop:=
  bD (↑s.size:Int) 1 (K bA m h) (fC (↑s.size:Int) 32 (K bA m h) (∀(b:Nat)(m1:MH),bC (cM m h b) (fV m m1 b (Obj.stringIter s 0)) (Jy (λx=>aA (zY x s m h) (cF b (iV x)) (aA (m1=gI x) (h=h) True)) (λx=>zY x s m h->∃(s1:ByteArray)(p:Nat),aA (oX (gI x) (iV x) (Obj.stringIter s1 p)) (s1.size<=p->K gE (gI x) h) (p<s1.size->∀(m2:MH),fV (gI x) m2 (iV x) (Obj.stringIter s1 (p+(Utf8.decode s1 p).2))->dH (decide ((↑(BB s1 p):Int)>=97)) (branch (!(decide ((↑(BB s1 p):Int)<=122))) (dH ((↑p:Int)==0) (K bA m2 h) ((↑(BB s1 p):Int) !=95) (bD (↑(BB s1 p):Int) 48 (K bA m2 h) (fC (↑(BB s1 p):Int) 57 (K bA m2 h) (Dy (λy=>zY y s m h) s x m2 h))) (Dy (λy=>zY y s m h) s x m2 h)) (Dy (λy
 =>zY y s m h) s x m2 h)) ((↑p:Int)==0) (K bA m2 h) (fQ (↑(BB s1 p):Int) 95 (bD (↑(BB s1 p):Int) 48 (K bA m2 h) (fC (↑(BB s1 p):Int) 57 (K bA m2 h) (Dy (λy=>zY y s m h) s x m2 h))) (Dy (λy=>zY y s m h) s x m2 h)))))))
abbrev IY(a:Prop)(b:ByteArray)(c:Nat)(d:UInt8->UInt8)(e:UInt8->Prop):Prop:=a/\∃(x:UInt8),b.data.toList[c]? =Option.some (d x)/\e x
noncomputable abbrev tH(a:UInt8):Int:=(↑a.toNat:Int)
abbrev vC(a:Nat)(b:ByteArray):Prop:=a<=b.size/\nD (List.all (List.take a (nE b)) tU)
noncomputable abbrev qG(a:Nat):Nat:=(↑a:Int).toNat
attribute [push_cast] IY tH vC qG
def M0(s:ByteArray)(m:MH)(h:PH)(K:CV->MH->PH->Prop):Prop:=
  dH ((↑s.size:Int)==0) (K bA m h) (decide ((↑s.size:Int)>32)) (K bA m h) (IY (cN 0) s 0 (λb=>b) (λb=>bD (↑b.toNat:Int) 97 (K bA m h) (IY (cN 0) s 0 (λb1=>b1) (λb1=>fC (tH b1) 122 (K bA m h) (gY (∃(x:Nat),aA (vC x s) (eQ (SV.at (Oz s))) (aA (bG x) (m=m) (dC h h))) (λx=>vC x s->bD (↑x:Int) (↑s.size:Int) (IY (cN (↑x:Int)) s (qG x) (λb2=>b2) (λb2=>bD (↑b2.toNat:Int) 97 (bD (↑b2.toNat:Int) 48 (gX (tH b2 !=95) (K bA m h) (λy=>aA (vC y s) (yG s y x) (aA (eQ (SV.at (Oz s))) (gS (aW x 1)=bX y) (eH m m h h)))) (fC (tH b2) 57 (gX (tH b2 !=95) (K bA m h) (λy=>aA (vC y s) (yG s y x) (aA (eQ (SV.at (Oz s))) (gS (aW x 1)=bX y) (eH m m h h)))) (∃(y
 :Nat),aA (vC y s) (yG s y x) (aA (eQ (SV.at (Oz s))) (gS (aW x 1)=bX y) (eH m m h h))))) (fC (tH b2) 122 (bD (↑b2.toNat:Int) 48 (gX (tH b2 !=95) (K bA m h) (λy=>aA (vC y s) (yG s y x) (aA (eQ (SV.at (Oz s))) (gS (aW x 1)=bX y) (eH m m h h)))) (fC (tH b2) 57 (gX (tH b2 !=95) (K bA m h) (λy=>aA (vC y s) (yG s y x) (aA (eQ (SV.at (Oz s))) (gS (aW x 1)=bX y) (eH m m h h)))) (∃(y:Nat),aA (vC y s) (yG s y x) (aA (eQ (SV.at (Oz s))) (gS (aW x 1)=bX y) (eH m m h h))))) (∃(y:Nat),aA (vC y s) (yG s y x) (aA (eQ (SV.at (Oz s))) (gS (aW x 1)=bX y) (eH m m h h)))))) (K gE m h)))))))
def lE(h:PH)(K:CV->MH->PH->Prop):CV->MH->PH->Prop:=λr m' h'=>∃m2 h2,(∀b o,m2 b=some o->m' b=some o)/\PH.le h h2/\PH.le h2 h'/\K r m2 h2
theorem lE.here{r:CV}(hK:K r m h):lE h K r m h:=⟨m,h,λ_ _ e=>e,.refl _,.refl _,hK⟩
theorem lE.sub{r:CV}(hm:∀b o,m b=some o->m' b=some o)(hK:K r m h):lE h K r m' h:=⟨m,h,hm,.refl _,.refl _,hK⟩
theorem fV.keeps{o:Obj}(hb:cM m h b)(hu:fV m m' b o):∀b o,m b=some o->m' b=some o:=λb' o' e=>by
 have hne:b'≠b:=λe'=>by rw[e',hb.m_]at e;cases e
 rw[hu.other b' hne,e]
theorem SN:Sound Tryz.prog 135 UH:=by
 refine Gm Tryz.func135 ?_;rintro cvs m h K ⟨s,rfl,hK⟩;refine⟨Xq s m h,rfl,aF,HF s m h (lE h K),by kernel_rfl,?_⟩;show HF s m h (lE h K);dsimp only[HF,push_cast];have hl:=Nc s;refine aE (λh1=>?_) (λh1=>aE (λh2=>?_) (λh2 b m1 hb hm1=>?_))
 .refine .here (iC hK ?_);have:¬1<=s.size:=by omega
  simp[mR,this]
 .refine .here (iC hK ?_);have:¬s.size<=32:=by omega
  simp[mR,this]
 refine⟨⟨(0,b,m1),⟨by simp,hb,hm1,.inl rfl,by simp⟩,MT⟩,?_⟩;rintro⟨pos,b,mx⟩ ⟨hp,hb,hmx,hhead,hall⟩;simp only at hp hb hmx hhead hall;refine⟨s,pos,⟨hmx.at_⟩,λhge=>?_,λhlt m2 hm2=>?_⟩
 .refine .sub (fV.keeps hb hmx) (iC hK ?_);rw[List.take_of_length_le aC]at hall
  have h3:lower ((nE s).headD 0)=true:=by
   rcases hhead with e|e
   .omega
   .exact e
  have h1':1<=s.size:=by omega
  have h2':s.size<=32:=by omega
  simp only[mR,hall,h3,decide_eq_true h1',decide_eq_true h2'];rfl
 .have hm3:=hmx.trans hm2;obtain⟨c,hc⟩:∃c,(nE s)[pos]? =some c:=⟨(nE s)[pos]'(by omega),List.getElem?_eq_getElem _⟩
  obtain⟨hg,hc256⟩:=Wc hc
  have hhd:pos=0->(nE s).headD 0=c:=λe=>by
   subst e;cases hcs:nE s with
   |nil=>rw[hcs]at hc;simp at hc
   |cons x l=>rw[hcs]at hc;simp at hc;simpa using hc
  have stop:¬((97<=(Utf8.decode s pos).1/\(Utf8.decode s pos).1<=122)\/(pos≠0/\((Utf8.decode s pos).1=95\/(48<=(Utf8.decode s pos).1/\(Utf8.decode s pos).1<=57))))->lE h K (.val (.bool false)) m2 h:=by
   intro hn;refine .sub (fV.keeps hb hm3) (iC hK ?_);by_cases hlo:(s.get! pos).toNat<128
   .rw[HN hlo,hg]at hn;by_cases hp0:pos=0
    .have:lower c=false:=by
      simp only[lower,Bool.and_eq_false_iff,decide_eq_false_iff_not];simp only at hn;omega
     simp only[mR,hhd hp0,this,Bool.and_false,Bool.false_and]
    .have:tU c=false:=by
      simp only[tU,lower,Bool.or_eq_false_iff,Bool.and_eq_false_iff,decide_eq_false_iff_not,beq_eq_false_iff_ne];simp only at hn;omega
     simp[mR,yL hc this]
   .have:tU c=false:=by
     simp only[tU,lower,Bool.or_eq_false_iff,Bool.and_eq_false_iff,decide_eq_false_iff_not,beq_eq_false_iff_ne];omega
    simp[mR,yL hc this]
  have go:((97<=(Utf8.decode s pos).1/\(Utf8.decode s pos).1<=122)\/(pos≠0/\((Utf8.decode s pos).1=95\/(48<=(Utf8.decode s pos).1/\(Utf8.decode s pos).1<=57))))->pos+1<=s.size/\fV m m2 b (.stringIter s (pos+1))/\lower ((nE s).headD 0)=true/\((nE s).take (pos+1)).all tU=true:=by
   intro hy
   have hlo:(s.get! pos).toNat<128:=by
    refine Decidable.byContradiction λhlo=>?_;have:=Wb hlo;omega
   rw[HN hlo]at hm3;rw[HN hlo,hg]at hy;simp only at hy;refine⟨aC,hm3,?_,?_⟩
   .rcases hhead with e|e
    .rw[hhd e];simp only[lower,Bool.and_eq_true,decide_eq_true_eq];omega
    .exact e
   .rw[wI hc,hall];simp only[tU,lower,Bool.true_and,Bool.or_eq_true,Bool.and_eq_true,decide_eq_true_eq,beq_iff_eq];omega
  have next:((97<=(Utf8.decode s pos).1/\(Utf8.decode s pos).1<=122)\/(pos≠0/\((Utf8.decode s pos).1=95\/(48<=(Utf8.decode s pos).1/\(Utf8.decode s pos).1<=57))))->_:=λhy=>(⟨(pos+1,b,m2),⟨(go hy).1,hb,(go hy).2.1,.inr (go hy).2.2.1,(go hy).2.2.2⟩,by show s.size-(pos+1)<s.size-pos;omega,MT⟩:∃(y:Nat×Nat×MH),(y.fst<=s.size/\cM m h y.snd.fst/\fV m y.snd.2 y.snd.fst (Obj.stringIter s y.fst)/\(y.fst=0\/lower ((nE s).headD 0)=true)/\(List.take y.fst (nE s)).all tU=true)/\s.size-y.fst<s.size-pos/\SV.at (At.val (Value.pointer (some (Addr.mk b 0 none))))=SV.at (At.val (Value.pointer (some (Addr.mk y.snd.fst 0 none))))/\m2=y.snd.2/\h=h/\True)
  clear go hm3 hm2 hall hhead hhd hmx hm1 hK
  repeat' (first|(refine aB (λ_=>?_) (λ_=>?_))|exact stop (by simp only[decide_eq_true_eq,decide_eq_false_iff_not,bne_iff_ne,ne_eq,beq_iff_eq,beq_eq_false_iff_ne,bne_eq_false_iff_eq,Bool.not_eq_true',Bool.not_eq_false']at*;omega)|exact next (by simp only[decide_eq_true_eq,decide_eq_false_iff_not,bne_iff_ne,ne_eq,beq_iff_eq,beq_eq_false_iff_ne,bne_eq_false_iff_eq,Bool.not_eq_true',Bool.not_eq_false']at*;omega))
theorem SZ:Sound Tryz.prog 122 UH:=by
 refine iJ Tryz.func122 ?_;rintro cvs m h K ⟨s,rfl,hK⟩;refine⟨Xu s m h,rfl,aF,M0 s m h K,by kernel_rfl,?_⟩;dsimp only[M0,push_cast];have hl:=Nc s;refine aB (λh1=>iC hK ?_) (λh1=>aE (λh2=>iC hK ?_) (λh2=>?_))
 .have:¬1<=s.size:=by have:(s.size:Int)=0:=(by simpa using h1);omega
  simp[mR,this]
 .have:¬s.size<=32:=by omega
  simp[mR,this]
 have h1:s.size≠0:=by intro e;rw[e]at h1;simp at h1
 obtain⟨c0,hc0⟩:∃c,s.data.toList[0]? =some c:=⟨s.data.toList[0]'(by simpa using(by omega:0<s.size)),List.getElem?_eq_getElem _⟩
 have hhd:(nE s).headD 0=c0.toNat:=by
  unfold nE;cases hcs:s.data.toList with
  |nil=>rw[hcs]at hc0;simp at hc0
  |cons x l=>rw[hcs]at hc0;simp at hc0;simp[hc0]
 refine⟨aC,c0,hc0,aE (λh3=>iC hK ?_) (λh3=>⟨aC,c0,hc0,aE (λh4=>iC hK ?_) (λh4=>?_)⟩)⟩
 .have:lower c0.toNat=false:=by simp only[lower,Bool.and_eq_false_iff,decide_eq_false_iff_not];omega
  simp only[mR,hhd,this,Bool.and_false,Bool.false_and]
 .have:lower c0.toNat=false:=by simp only[lower,Bool.and_eq_false_iff,decide_eq_false_iff_not];omega
  simp only[mR,hhd,this,Bool.and_false,Bool.false_and]
 refine⟨⟨0,⟨aC,by simp⟩,MT⟩,λi hi=>aE (λhlt=>?_) (λhge=>iC hK ?_)⟩
 .obtain⟨c,hc⟩:∃c,s.data.toList[i]? =some c:=⟨s.data.toList[i]'(by simpa using(by omega:i<s.size)),List.getElem?_eq_getElem _⟩
  have hcc:(nE s)[i]? =some c.toNat:=by simp[nE,hc]
  have stop:tU c.toNat=false->K (.val (.bool false)) m h:=λe=>iC hK (by simp[mR,yL hcc e]);have next:tU c.toNat=true->∃(y:Nat),(y<=s.size/\(List.take y (nE s)).all tU=true)/\s.size-y<s.size-i/\SV.at (At.val (Value.string s))=SV.at (At.val (Value.string s))/\SV.at (At.val (Value.int IntKind.i64 (IntKind.i64.wrap ((i:Int)+1))))=SV.at (At.val (Value.int IntKind.i64 (y:Int)))/\m=m/\h=h/\True:=λe=>⟨i+1,⟨aC,by rw[wI hcc,hi.2,e];rfl⟩,aC,MT⟩
  have hn:tU c.toNat=true↔(97<=c.toNat/\c.toNat<=122)\/(48<=c.toNat/\c.toNat<=57)\/c.toNat=95:=by
   simp only[tU,lower,Bool.or_eq_true,Bool.and_eq_true,decide_eq_true_eq,beq_iff_eq];omega
  have hn':tU c.toNat=false↔¬((97<=c.toNat/\c.toNat<=122)\/(48<=c.toNat/\c.toNat<=57)\/c.toNat=95):=by
   rw[<-hn];simp
  refine⟨aC,c,by simpa using hc,?_⟩;clear hK hi hhd hcc hn';rw[hn]at next
  have stop:=λe=>stop (by rw[<-Bool.not_eq_true,hn];exact e);clear hn
  repeat' (first|(refine aB (λ_=>?_) (λ_=>?_))|exact stop (by simp only[decide_eq_true_eq,decide_eq_false_iff_not,bne_iff_ne,ne_eq,beq_iff_eq,beq_eq_false_iff_ne,bne_eq_false_iff_eq,Bool.not_eq_true',Bool.not_eq_false']at*;omega)|exact next (by simp only[decide_eq_true_eq,decide_eq_false_iff_not,bne_iff_ne,ne_eq,beq_iff_eq,beq_eq_false_iff_ne,bne_eq_false_iff_eq,Bool.not_eq_true',Bool.not_eq_false']at*;omega))
 .have:=hi.2;rw[List.take_of_length_le aC]at this;have h5:lower c0.toNat=true:=by simp only[lower,Bool.and_eq_true,decide_eq_true_eq];omega
  have h1':1<=s.size:=by omega
  have h2':s.size<=32:=by omega
  simp only[mR,this,hhd,h5,decide_eq_true h1',decide_eq_true h2'];rfl
theorem NF:Tryz.prog.underlying 9=some .string:=by kernel_rfl
theorem Bj:KeyLaw Tryz.prog 9 (λv=>∃s,v= .string s):=by
 refine⟨⟨_,NF⟩,?_,?_,?_⟩
 .rintro _ w b ⟨s,rfl⟩
  have e:∀n:Nat,(Instr.checkKey b (n+1) 9 (.string s)).run Tryz.prog w= .ok () w:=λn=>by
   unfold Instr.checkKey;simp only[Sem.run_bind,run_underlying NF,Result.andThen];simp
  exact e 9999
 .rintro _ _ w ⟨s,rfl⟩ ⟨t,rfl⟩;refine⟨_,run_equalIn_string w 9999 9 s t NF,?_⟩;rw[beq_iff_eq];exact⟨λe=>by rw[yR e],λe=>by injection e with e;rw[e]⟩
 .rintro d _ _ r hd ⟨s,rfl⟩ ⟨t,rfl⟩ h;rw[NF]at hd;cases hd;simp only[Instr.sameNow,Option.some.injEq]at h;subst h;rw[beq_toListBytes,beq_iff_eq];exact⟨λe=>by rw[yR e],λe=>by injection e with e;rw[e]⟩
def fG{α:Type}(T:List α->α->Prop)(l:List α)(i:Nat):Prop:=∀j x,j<i->l[j]? =some x->T (l.take j) x
def Good{α:Type}(T:List α->α->Prop)(l:List α):Prop:=∀(j:Nat) x,l[j]? =some x->T (l.take j) x
theorem fG.zero{α:Type}{T:List α->α->Prop}{l:List α}:fG T l 0:=λ_ _ h=>by omega
theorem fG.succ{α:Type}{T:List α->α->Prop}{l:List α}{x:α}(h:fG T l i)(hx:l[i]? =some x)(t:T (l.take i) x):fG T l (i+1):=by
 intro j y hj hy;by_cases e:j=i
 .subst e;rw[hx]at hy;cases hy;exact t
 .exact h j y aC hy
theorem fG.all{α:Type}{T:List α->α->Prop}{l:List α}(h:fG T l i)(hi:l.length<=i):Good T l:=λj x hx=>h j x (by have:=(List.getElem?_eq_some_iff.1 hx).1;omega) hx
theorem Good.not{α:Type}{T:List α->α->Prop}{l:List α}{x:α}(hx:l[i]? =some x)(t:¬T (l.take i) x):¬Good T l:=λh=>t (h i x hx)
def Rn(pre:List mZ)(c:mZ):Prop:=mR c.name=true/\cT c.kind=true/\c.name∉pre.map mZ.name
def A9(pre:List wJ)(t:wJ):Prop:=mR t.name=true/\1<=t.key/\t.key<=t.columns.length/\t.name∉pre.map wJ.name/\Good Rn t.columns
def iI(s:pV)(t:Int):List Int:=if t<0 then[]else match s.tables[t.toNat]? with|none=>[]|some t=>t.columns.map mZ.kind
def uR(s:pV)(t:Int):Bool:=decide (0<=t)&&decide (t<s.tables.length)
def aS(v:bH):CV:=.val (.agg ⟨v.enc⟩)
def oY(s:pV):Prop:=∀t∈s.tables,t.columns.length<=8
def agJ:Vc.Spec:=λcvs m h K=>∃v s t,cvs=[aS v,cI t]/\gM h s v/\K (cB (uR s t)) m h
def wN:Vc.Spec:=λcvs m h K=>∃v s t,cvs=[aS v,cI t]/\gM h s v/\oY s/\∀sl h',PH.le h h'->Ints h' sl (iI s t)->K (cS sl) m h'
noncomputable def Oj(m:MH)(h:PH):Ctx:=
 dN [] [(5,{A:=Nat×Sl×List Int,st:=λx=>cE 35 37 [(5,.at (.lst 32)),(22,sv x.2.1),(23,iv x.2.1.len),(24,iv x.1)] [(32,.lst 3 1 (x.2.2.map eI))] m h})] [] [] false
noncomputable def YQ(m:MH)(h:PH):Ctx:=
 dN [(104,agJ)] [(5,{A:=Nat×Sl×List Int,st:=λx=>cE 38 40 [(5,.at (.lst 19)),(25,sv x.2.1),(26,iv x.2.1.len),(27,iv x.1)] [(19,.lst 3 1 (x.2.2.map eI))] m h})] [] [] false
noncomputable abbrev iG(a:bH):Int:=aG a.tables
attribute [push_cast] iG
def M7(v:bH)(t:Int)(m:MH)(h:PH)(K:CV->MH->PH->Prop):Prop:=
  gQ t 0 (K (A7 (decide (t<iG v))) m h) (K bA m h)
noncomputable abbrev qJ(a:bH):Option Addr:=a.tables.a
noncomputable abbrev aR(a:Sl):List Value:=j6 (eR a)
abbrev Jb(a:bH)(b:Int)(c:MH)(d:PH)(e g:Nat->Nat)(i:Nat)(j:Sl->Sl)(k:Sl->(Nat×Sl×List Int->Prop)->(Nat×Sl×List Int)->Prop)(l:(Nat×Sl×List Int->Prop)->(Nat×Sl×List Int->Nat)->(Nat×Sl×List Int)->Prop):Prop:=aT (λx x1=>aH (aU (qJ a) x x1) (0<=b) (b<aG a.tables) (∃(x2:Sl),aM c d (e x) (fL (g x1) b i+1) (aR (j x2))/\∃(x3:Nat×Sl×List Int->Prop)(x4:Nat×Sl×List Int->Nat),(∃(x5:Nat×Sl×List Int),k x2 x3 x5)/\∀(x5:Nat×Sl×List Int),l x3 x4 x5))
abbrev aZ(a b:Sl):Prop:=Yl a=Yl b
noncomputable abbrev lJ(a:Nat×Sl×List Int):Sl:=a.2.1
abbrev cH(a b:Sl):Prop:=bX a.len=bX b.len
noncomputable abbrev dJ(a b:Nat)(c:List (List Value)):Option Go.Vc.Own:=Option.some (Own.lst a b c)
noncomputable abbrev G4(a:List Int):Option Go.Vc.Own:=dJ 3 1 (List.map eI a)
abbrev qY(a:List Int):Prop:=dJ 3 1 []=G4 a
noncomputable abbrev rI(a:Nat×Sl×List Int):List Int:=a.2.2
abbrev iB(a:Nat):Prop:=a<=140737488355328
noncomputable abbrev gZ(a:List Int):List (List Value):=List.map eI a
abbrev DG(a:List Int):Prop:=iB (((gZ a).length+1)*8)
abbrev iX(a:List (List Value)):Prop:=a.length<140737488355328
abbrev Ja(a:Prop)(b:Nat×Sl×List Int)(c:Int)(d:Nat->Nat->mZ->Prop)(e:mZ->(Nat×Sl×List Int)->Prop)(g:Prop):Prop:=a->bD (↑b.1:Int) (aG (lJ b)) (aT (λx x1=>aH (aU (lJ b).a x x1) (c<=(↑b.1:Int)) ((↑b.1:Int)<aG (lJ b)) (∃(x2:mZ),aH (d x x1 x2) (DG (rI b)) (iX (gZ (rI b))) (∃(x3:Nat×Sl×List Int),e x2 x3)))) g
noncomputable abbrev pG(a:ByteArray)(b:Int):List Value:=kX (Value.string a) (eW b)
noncomputable abbrev bL(a:List Value):List (List Value):=[a]
abbrev qZ(a:List Int)(b:Int)(c:List Int):Prop:=dJ 3 1 (gZ a++bL (cK b))=G4 c
abbrev kP(a:Sl->PH->Prop):Prop:=∀(x:Sl)(x1:PH),a x x1
abbrev dZ(a b:PH)(c d:Prop):Prop:=bC (PH.le a b) c d
abbrev aX(a:PH)(b:Nat)(c:List (List Value))(d:Sl->PH->Prop):Prop:=kP (λx x1=>dZ a x1 (cW x1 x b c) (d x x1))
attribute [push_cast] qJ aR Jb aZ lJ cH dJ G4 qY rI iB gZ DG iX Ja pG bL qZ kP dZ aX
def Qm(v:bH)(t:Int)(m:MH)(h:PH)(K:CV->MH->PH->Prop):Prop:=
  bD t 0 (K Dc m h) (gQ t (iG v) (K Dc m h) (Jb v t m h (λb=>b) (λo=>o) 5 (λy=>y) (λy I x=>aA (I x) (eL 32) (aA (aZ y (lJ x)) (cH y (lJ x)) (aA (bG x.1) (qY (rI x)) (aA (m=m) (h=h) True)))) (λI m1 x=>Ja (I x) x 0 (λb o y=>aM m h b (bB o x.1 2) (pG y.name y.kind)) (λy x1=>aA (I x1) (m1 x1<m1 x) (aA (eL 32) (aZ (lJ x) (lJ x1)) (aA (cH (lJ x) (lJ x1)) (gS (aW x.1 1)=bX x1.1) (aA (qZ (rI x) y.kind (rI x1)) (m=m) (dC h h))))) (aX h 1 (gZ (rI x)) (λs h1=>K (kU s) m h1)))))
abbrev jX(a:bH->pV->Prop):Prop:=∃(x:bH)(x1:pV),a x x1
noncomputable abbrev tW(a:bH):Value:=eW a.version
noncomputable abbrev tV(a:bH):Value:=eR a.tables
noncomputable abbrev bR(a:bH):List Value:=kX (tW a) (tV a)
abbrev pK(a:Int):Prop:=a<=281474976710656
attribute [push_cast] jX tW tV bR pK
def Qb(v:bH)(t:Int)(m:MH)(h:PH)(K:CV->MH->PH->Prop):Prop:=
  jX (λv1 s=>∃(t1:Int),aA (bU (jM (bR v)) t=bU (jM (bR v1)) t1) (gM h s v1) (branch (!(uR s t1)) (K Dc m h) (aT (λb o=>aH (aU (qJ v) b o) (0<=t) (t<aG v.tables) (∃(y:Sl),aA (aM m h b (fL o t 5+1) (aR y)) (cN 0) (aA (cN (aG y)) (pK (aG y*8)) (pK (aG y)/\Jb v t m h (λb1=>b1) (λo1=>o1) 5 (λy1=>y1) (λy1 I x=>aA (I x) (eL 19) (aA (aZ y1 (lJ x)) (cH y1 (lJ x)) (aA (bG x.1) (qY (rI x)) (aA (m=m) (h=h) True)))) (λI m1 x=>Ja (I x) x 0 (λb1 o1 y1=>aM m h b1 (bB o1 x.1 2) (pG y1.name y1.kind)) (λy1 x1=>aA (I x1) (m1 x1<m1 x) (aA (eL 19) (aZ (lJ x) (lJ x1)) (aA (cH (lJ x) (lJ x1)) (gS (aW x.1 1)=bX x1.1) (aA (qZ (rI x) y1.kind (rI x1)) (m=m)
 (dC h h))))) (aX h 1 (gZ (rI x)) (λs1 h1=>K (kU s1) m h1))))))))))
theorem bF.part{o:Nat}{l:List Value}(r:bF h b o l)(k n:Nat):bF h b (o+k) ((l.drop k).take n):=
 ⟨λi v e=>by
  have:l[k+i]? =some v:=by
   rw[List.getElem?_take]at e;split at e
   .rwa [List.getElem?_drop]at e
   .cases e
  have:=r.rd (k+i) v this
  rwa [<-Nat.add_assoc]at this⟩
theorem Cy.at{s:Sl}{l:List mZ}(r:Cy h s l){x:mZ}(hi:l[i]? =some x):∃b o,s.a=some ⟨b,o,none⟩/\bF h b (o+i*2) (mZ.enc x):=by
 obtain⟨b,o,v,e,k,rfl⟩:=bV.at r hi;exact⟨b,o,e,k⟩
theorem CT{t:Int}(h:¬(0<=t/\t<s.tables.length)):iI s t=[]:=by
 unfold iI;split
 .rfl
 .rw[List.getElem?_eq_none aC]
theorem Im{t:Int}{x:wJ}(h:0<=t)(hx:s.tables[t.toNat]? =some x):iI s t=x.columns.map mZ.kind:=by
 unfold iI;rw[if_neg aC,hx]
theorem gM.table{v:bH}(hs:gM h s v){t:Int}(h0:0<=t)(h1:t<(v.tables.len:Int)):∃x b o w,s.tables[t.toNat]? =some x/\v.tables.a=some ⟨b,o,none⟩/\bF h b (o+t.toNat*5) (cC.enc w)/\HW h x w:=by
 have hl:=hs.tables.slen;have hx:s.tables[t.toNat]? =some (s.tables[t.toNat]'(by omega)):=List.getElem?_eq_getElem _;obtain⟨b,o,w,e,r,k⟩:=hs.tables.at hx;exact⟨_,b,o,w,hx,e,r,k⟩
theorem gO{α β:Type}{f:α->β}{l:List α}{x:α}(hx:l[i]? =some x):(l.take (i+1)).map f=(l.take i).map f++[f x]:=by
 rw[List.take_add_one,hx];simp
theorem K2:Sound Tryz.prog 104 agJ:=by
 refine iJ Tryz.func104 ?_;rintro cvs m h K ⟨v,s,t,rfl,hs,hK⟩;refine⟨dN [] [] [] [] false,rfl,aF,M7 v t m h K,by kernel_rfl,?_⟩;dsimp only[M7,push_cast];have hl:=hs.tables.slen;refine aE (λh1=>iC hK ?_) (λh1=>iC hK ?_)
 .have h1:0<=t:=h1;simp only[uR,hl,decide_eq_true h1,Bool.true_and]
 .have h1:¬0<=t:=by omega
  simp only[uR,decide_eq_false h1,Bool.false_and]
theorem D0:Sound Tryz.prog 44 wN:=by
 refine iJ Tryz.func44 ?_;rintro cvs m h K ⟨v,s,t,rfl,hs,h8,hK⟩;refine⟨Oj m h,rfl,aF,Qm v t m h K,by kernel_rfl,?_⟩;dsimp only[Qm,push_cast];have hl:=hs.tables.slen;have hnil:iI s t=[]->K (.val (.slice none 0 0)) m h:=λe=>hK ⟨none,0,0⟩ h (.refl _) (by rw[e];exact⟨.nil _ _,by simp⟩);refine aE (λh1=>hnil (CT aC)) (λh1=>aE (λh2=>hnil (CT aC)) (λh2=>?_));obtain⟨x,b,o,w,hx,ea,hr,hrep⟩:=hs.table (t:=t) aC aC;have hx8:=h8 x (List.mem_of_getElem? hx);have hcl:=bV.slen hrep.columns;rw[Im aC hx]at hK;refine⟨b,o,ea,aC,aC,w.columns,.imm (bF.part hr 1 1),λ⟨i,sl,l⟩=>sl=w.columns/\i<=x.columns.length/\l=(x.columns.take i).map mZ.kind,λ⟨i,_,_⟩=>x.columns.length-i,⟨(0,w.columns,[]),⟨rfl,by simp,by simp⟩,MT⟩,?_⟩;rintro⟨i,_,_⟩ ⟨rfl,hi,rfl⟩;dsimp only;refine aE (λhlt=>?_) (λhge sl h' hle hrow=>?_)
 .obtain⟨c,hc⟩:=fI hcl hlt;obtain⟨b,o,e,r⟩:=Cy.at hrep.columns hc;refine⟨b,o,e,aC,hlt,c,.imm r,?_,?_,(i+1,w.columns,(x.columns.take (i+1)).map mZ.kind),⟨rfl,aC,rfl⟩,by show x.columns.length-(i+1)<x.columns.length-i;omega,?_⟩
  .simp;omega
  .simp;omega
  .rw[gO hc,List.map_append];exact MT
 .rw[List.take_of_length_le aC]at hrow;exact hK sl h' hle ⟨hrow,by simp;omega⟩
theorem Mm:Sound Tryz.prog 72 wN:=by
 refine iJ Tryz.func72 ?_;rintro cvs m h K ⟨v,s,t,rfl,hs,h8,hK⟩;refine⟨YQ m h,rfl,aD K2 aF,Qb v t m h K,by kernel_rfl,?_⟩;dsimp only[Qb,push_cast];have hl:=hs.tables.slen;have hnil:iI s t=[]->K (.val (.slice none 0 0)) m h:=λe=>hK ⟨none,0,0⟩ h (.refl _) (by rw[e];exact⟨.nil _ _,by simp⟩);refine⟨v,s,t,rfl,hs,aB (λh1=>hnil (CT ?_)) (λh1=>?_)⟩
 .simp only[uR,Bool.not_eq_true',Bool.and_eq_false_iff,decide_eq_false_iff_not]at h1;omega
 simp only[uR,Bool.not_eq_false',Bool.and_eq_true,decide_eq_true_eq]at h1;obtain⟨x,b,o,w,hx,ea,hr,hrep⟩:=hs.table (t:=t) aC aC;have hx8:=h8 x (List.mem_of_getElem? hx);have hcl:=bV.slen hrep.columns;rw[Im aC hx]at hK;refine⟨b,o,ea,aC,aC,w.columns,.imm (bF.part hr 1 1),aC,aC,aC,aC,b,o,ea,aC,aC,w.columns,.imm (bF.part hr 1 1),λ⟨i,sl,l⟩=>sl=w.columns/\i<=x.columns.length/\l=(x.columns.take i).map mZ.kind,λ⟨i,_,_⟩=>x.columns.length-i,⟨(0,w.columns,[]),⟨rfl,by simp,by simp⟩,MT⟩,?_⟩;rintro⟨i,_,_⟩ ⟨rfl,hi,rfl⟩;dsimp only;refine aE (λhlt=>?_) (λhge sl h' hle hrow=>?_)
 .obtain⟨c,hc⟩:=fI hcl hlt;obtain⟨b,o,e,r⟩:=Cy.at hrep.columns hc;refine⟨b,o,e,aC,hlt,c,.imm r,?_,?_,(i+1,w.columns,(x.columns.take (i+1)).map mZ.kind),⟨rfl,aC,rfl⟩,by show x.columns.length-(i+1)<x.columns.length-i;omega,?_⟩
  .simp;omega
  .simp;omega
  .rw[gO hc,List.map_append];exact MT
 .rw[List.take_of_length_le aC]at hrow;exact hK sl h' hle ⟨hrow,by simp;omega⟩
def Sub(m m':MH):Prop:=∀b o,m b=some o->m' b=some o
theorem Sub.refl(m:MH):Sub m m:=λ_ _ e=>e
theorem Sub.free(h:Sub m m')(hb:m' b=none):m b=none:=by
 cases e:m b with
 |none=>rfl
 |some o=>rw[h b o e]at hb;cases hb
theorem Sub.upd{mx:MH}(h:Sub m mx)(hb:m b=none)(ho:∀b',b'≠b->m' b'=mx b'):Sub m m':=λb' o e=>by
 have hne:b'≠b:=λe'=>by rw[e',hb]at e;cases e
 rw[ho b' hne,h b' o e]
def HX(m:MH)(b:Nat)(ns:List ByteArray):Prop:=AD m b (ns.map λn=>(.string n,.bool true))
theorem HX.other{b':Nat}{ns:List ByteArray}(h:HX m b ns)(hne:b≠b')(ho:∀c,c≠b'->m' c=m c):HX m' b ns:=by
 obtain⟨es,cl,h1,h2⟩:=h.ex;exact⟨es,cl,by rw[ho b hne,h1],h2⟩
def X3:Vc.Spec:=λcvs m h K=>∃v s,cvs=[aS v]/\gM h s v/\∀r:Bool,(r=true↔Good A9 s.tables)->K (cB r) m h
def XP:Vc.Spec:=λcvs m h K=>∃v s t,∃i:Nat,cvs=[aS v,cI i]/\gM h s v/\s.tables[i]? =some t/\∀r:Bool,(r=true↔A9 (s.tables.take i) t)->K (cB r) m h
noncomputable def Xy(v:bH)(h:PH):Ctx:=
 dN [(135,UH)] [(3,{A:=Nat×Nat×MH,st:=λ⟨i,b1,mx⟩=>cE 79 80 [(3,vv (.map (some b1))),(11,sv v.tables),(12,iv v.tables.len),(13,iv i)] [] mx h}),
  (10,{A:=Nat×Nat×Nat×Nat×Sl×MH,st:=λ⟨i,k,b1,b2,sl,mx⟩=>cE 79 80 [(3,vv (.map (some b1))),(6,vv (.map (some b2))),(11,sv v.tables),(12,iv v.tables.len),(13,iv i),(45,sv sl),(46,iv sl.len),(47,iv k)] [] mx h})] [] [] false
noncomputable def YI(v:bH)(i:Nat)(m:MH)(h:PH):Ctx:=
 dN [(122,UH),(93,X5)] [(5,{A:=Nat×cC,st:=λ⟨k,w⟩=>cE 94 96 [(1,iv i),(2,.at (.ptr 2 0)),(5,.at (.ptr 5 0)),(6,iv k)] [(2,.cells 43 (v.enc.map .val)),(5,.cells 86 (w.enc.map .val))] m h}),
  (10,{A:=Nat×cC,st:=λ⟨k,w⟩=>cE 94 96 [(5,.at (.ptr 5 0)),(53,iv w.columns.len),(54,iv k)] [(5,.cells 86 (w.enc.map .val))] m h}),
  (15,{A:=Nat×Nat×cC,st:=λ⟨k,j,w⟩=>cE 94 96 [(5,.at (.ptr 5 0)),(7,iv k),(8,iv j),(53,iv w.columns.len),(54,iv k)] [(5,.cells 86 (w.enc.map .val))] m h})] [] [] false
abbrev BR(a:MH)(b:PH)(c:Nat)(d:Nat->MH->Prop):Prop:=∀(x:Nat)(x1:MH),bC (cM a b x) (fV a x1 x (Obj.map (Array.mk []) c)) (d x x1)
abbrev EO(a b:Nat):Prop:=SV.at (At.val (Value.map (Option.some a)))=SV.at (At.val (Value.map (Option.some b)))
abbrev mC(a:bH):Prop:=aK a.tables
abbrev gV(a:bH):Prop:=bK a.tables
abbrev Ds(a:Prop)(b:Nat)(c:bH)(d:Nat->Nat->cC->Prop)(e:Prop):Prop:=a->bD (↑b:Int) (aG c.tables) (aT (λx x1=>aH (aU (qJ c) x x1) (0<=(↑b:Int)) ((↑b:Int)<aG c.tables) (∃(x2:cC),d x x1 x2))) e
noncomputable abbrev vP(a:cC):List Value:=aY (Value.string a.name) (eR a.columns) (aY (eW a.key) (eR a.references) (aR a.checks))
noncomputable abbrev jW(a:ByteArray):CV:=CV.val (Value.string a)
abbrev nG(a:CV->MH->PH->Prop)(b:Nat×Nat×MH)(c:PH):Prop:=a bA (gI b) c
abbrev rH(a:Value->Prop):Prop:=KeyLaw Proofs.Tryz.prog 9 a
abbrev Jl(a:MH)(b:Nat)(c:(Value->Prop)->Prop)(d:(List (Value×Bool))->(Value×Bool)->Prop)(e:Prop)(g:Value)(i:Prop):Prop:=∃(x:List (Value×Bool))(x1:Value->Prop),aA (AD a b (List.map (fun(x2:Value×Bool)=>(x2.1,Value.bool x2.2)) x)) (rH x1) (aA (c x1) (∀(x2:Value×Bool),List.Mem x2 x->x1 x2.1) (((∀(x2:Value×Bool),d x x2)->e)/\∀(x2:Bool),gU (List.Mem (g,x2) x) x2 i e))
noncomputable abbrev DU(a:cC):Value:=Value.string a.name
abbrev pJ(a b:Prop):Prop:=bC a b False
noncomputable abbrev Bv(a:cC):Int:=aG a.columns
abbrev wT(a:(List (Value×Value))->(Value->Prop)->Prop):Prop:=∃(x:List (Value×Value))(x1:Value->Prop),a x x1
abbrev rE(a:Value×Value)(b:List (Value×Value))(c:Value->Prop):Prop:=List.Mem a b->c a.1
noncomputable abbrev lL(a b:Value)(c:List (Value×Value)):List (Value×Value):=(a,b)::c
noncomputable abbrev wQ(a b:Value):List (Value×Value):=lL a b []
noncomputable abbrev BC:Value:=Value.bool true
abbrev N1(a:Nat->Option Obj)(b:Nat)(c:(Value->Prop)->Prop)(d:Value)(e:MH->Prop):Prop:=wT (λx x1=>aA (AD a b x) (rH x1) (aA (c x1) (∀(x2:Value×Value),rE x2 x x1) ((∀(x2:Value×Value),pJ (List.Mem x2 x) (x2.1=d))/\∀(x2:MH),bC (jD a x2 b) (AD x2 b (x++wQ d BC)) (e x2))))
noncomputable abbrev G6(a:Nat×Nat×Nat×Nat×Sl×MH):Nat:=a.2.2.2.1
abbrev bY(a b:Nat):Prop:=bX a=bX b
noncomputable abbrev AK(a:Nat×Nat×Nat×Nat×Sl×MH):Sl:=a.2.2.2.2.1
noncomputable abbrev zD(a:Nat×Nat×Nat×Nat×Sl×MH):Nat->Option Obj:=a.2.2.2.2.2
noncomputable abbrev G3(a:mZ):Value:=Value.string a.name
abbrev Jx(a:mZ)(b:Int)(c:Prop)(d:(Nat×Nat×Nat×Nat×Sl×MH)->Prop):Prop:=branch (a.kind !=b) c (∃(x:Nat×Nat×Nat×Nat×Sl×MH),d x)
abbrev Jr(a b:Nat×Nat×Nat×Nat×Sl×MH):Prop:=EO a.2.2.1 b.2.2.1
abbrev Js(a b:Nat×Nat×Nat×Nat×Sl×MH):Prop:=EO (G6 a) (G6 b)
abbrev Jt(a b:Nat×Nat×Nat×Nat×Sl×MH):Prop:=bY a.1 b.1
abbrev Ju(a b:Nat×Nat×Nat×Nat×Sl×MH):Prop:=aZ (AK a) (AK b)
abbrev Jv(a b:Nat×Nat×Nat×Nat×Sl×MH):Prop:=cH (AK a) (AK b)
abbrev Jw(a b:Nat×Nat×Nat×Nat×Sl×MH):Prop:=gS (aW a.2.1 1)=bX b.2.1
attribute [push_cast] BR EO mC gV Ds vP jW nG rH Jl DU pJ Bv wT rE lL wQ BC N1 G6 bY AK zD G3 Jx Jr Js Jt Ju Jv Jw
def HJ(v:bH)(m:MH)(h:PH)(K:CV->MH->PH->Prop):Prop:=
  BR m h 0 (λb m1=>∃(I:Nat×Nat×MH->Prop)(m2:Nat×Nat×MH->Nat),Jy (λx=>aA (I x) (EO b (iV x)) (aA (mC v) (gV v) (dE (bG x.1) m1 (gI x) h h))) (λx=>Ds (I x) x.1 v (λb1 o y=>aM (gI x) h b1 (bB o x.1 5) (vP y)/\∃(s:ByteArray),hP (fH (jW y.name) (jW s)) (!(mR s)) (nG K x h) (Jl (gI x) (iV x) (λO=>O (DU y)) (λk e=>pJ (List.Mem e k) (e.1=DU y)) (bD y.key 1 (nG K x h) (fC y.key (Bv y) (nG K x h) (N1 (gI x) (iV x) (λO=>O (DU y)) (DU y) (λm3=>BR m3 h 0 (λb2 m4=>∃(I1:Nat×Nat×Nat×Nat×Sl×MH->Prop)(m5:Nat×Nat×Nat×Nat×Sl×MH->Nat),(∃(x1:Nat×Nat×Nat×Nat×Sl×MH),aA (I1 x1) (EO (iV x) x1.2.2.1) (aA (EO b2 (G6 x1)) (mC
 v) (aA (gV v) (bY x.1 x1.1) (aA (aZ y.columns (AK x1)) (cH y.columns (AK x1)) (dE (bG x1.2.1) m4 (zD x1) h h)))))/\∀(x1:Nat×Nat×Nat×Nat×Sl×MH),I1 x1->bD (↑x1.2.1:Int) (aG (AK x1)) (aT (λb3 o1=>aH (aU (AK x1).a b3 o1) (0<=(↑x1.2.1:Int)) ((↑x1.2.1:Int)<aG (AK x1)) (∃(y1:mZ),aM (zD x1) h b3 (bB o1 x1.2.1 2) (pG y1.name y1.kind)/\∃(s1:ByteArray),hP (fH (jW y1.name) (jW s1)) (!(mR s1)) (K bA (zD x1) h) (Jl (zD x1) (G6 x1) (λO=>O (G3 y1)) (λk e=>pJ (List.Mem e k) (e.1=G3 y1)) (N1 (zD x1) (G6 x1) (λO=>O (G3 y1)) (G3 y1) (λm6=>Jx y1 3 (Jx y1 4 (Jx y1 5 (K bA m6 h) (λx2=>aA (I1 x2) (m5 x2<m5 x1) (aA (Jr x1 x2) (Js x1 x2) (aA (mC v)
 (gV v) (aA (Jt x1 x2) (Ju x1 x2) (aA (Jv x1 x2) (Jw x1 x2) (aA (m6=zD x2) (h=h) True))))))) (λx2=>aA (I1 x2) (m5 x2<m5 x1) (aA (Jr x1 x2) (Js x1 x2) (aA (mC v) (gV v) (aA (Jt x1 x2) (Ju x1 x2) (aA (Jv x1 x2) (Jw x1 x2) (aA (m6=zD x2) (h=h) True))))))) (λx2=>aA (I1 x2) (m5 x2<m5 x1) (aA (Jr x1 x2) (Js x1 x2) (aA (mC v) (gV v) (aA (Jt x1 x2) (Ju x1 x2) (aA (Jv x1 x2) (Jw x1 x2) (aA (m6=zD x2) (h=h) True)))))))) (G3 y1) (K bA (zD x1) h))))) (∃(x2:Nat×Nat×MH),aA (I x2) (m2 x2<m2 x) (aA (EO x1.2.2.1 (iV x2)) (mC v) (aA (gV v) (gS (aW x1.1 1)=bX x2.1) (aA (zD x1=gI x2) (h=h) True))))))))) (DU y) (nG K x h))) (K gE (gI x) h)))
abbrev IZ(a:(Nat×cC->Prop)->(Nat×cC)->Prop)(b:(Nat×cC->Prop)->(Nat×cC->Nat)->(Nat×cC)->Prop):Prop:=∃(x:Nat×cC->Prop)(x1:Nat×cC->Nat),(∃(x2:Nat×cC),a x x2)/\∀(x2:Nat×cC),b x x1 x2
noncomputable abbrev tX(a:Int)(b:At):List At:=gR (hX a) b []
noncomputable abbrev Ii(a:bH):List At:=tX a.version (tZ a.tables)
abbrev cG(a:bH):Prop:=eQ (oQ 43 (Ii a))
noncomputable abbrev mF(a:At):List At:=[a]
noncomputable abbrev w8(a:Sl):List At:=mF (tZ a)
noncomputable abbrev fP(a:cC):List At:=gR (Oz a.name) (tZ a.columns) (gR (hX a.key) (tZ a.references) (w8 a.checks))
abbrev BU(a:cC)(b:Nat×cC):Prop:=oQ 86 (fP a)=oQ 86 (fP b.2)
noncomputable abbrev eC(a:Nat):Nat:=a+0
noncomputable abbrev nK(a:Nat×Nat×cC):Nat:=a.2.1
noncomputable abbrev kD(a:Nat×Nat×cC):cC:=a.2.2
attribute [push_cast] IZ tX Ii cG mF w8 fP BU eC nK kD
def P1(v:bH)(i:Nat)(m:MH)(h:PH)(K:CV->MH->PH->Prop):Prop:=
  aT (λb o=>aH (aU (qJ v) b o) (0<=(↑i:Int)) ((↑i:Int)<aG v.tables) (∃(y:cC),aM m h b (bB o i 5) (vP y)/\∃(s:ByteArray),fH (jW y.name) (jW s)/\dH (!(mR s)) (K bA m h) (Bv y==0) (K bA m h) (bD y.key 1 (K bA m h) (fC y.key (Bv y) (K bA m h) (IZ (λI x=>aA (I x) (eQ (bX i)) (aA fN dU (aA (bG x.1) (cG v) (aA (BU y x) (m=m) (dC h h))))) (λI m1 x=>I x->bD (↑x.1:Int) (↑i:Int) (aT (λb1 o1=>aH (aU (qJ v) b1 o1) (0<=(↑x.1:Int)) ((↑x.1:Int)<aG v.tables) (∃(y1:ByteArray),aM m h b1 (eC (bB o1 x.1 5)) (j6 (Value.string y1))/\branch (y1.toList==x.2.name.toList) (K bA m h) (∃(x1:Nat×cC),aA (I x1) (m1 x1<m1 x) (aA (eQ (bX i)) fN (aA dU (gS (aW x.1 1)=bX x1.1)
 (aA (cG v) (BU x.2 x1) (eH m m h h)))))))) (IZ (λI1 x1=>aA (I1 x1) dU (aA (cH x.2.columns x1.2.columns) (bG x1.1) (dE (BU x.2 x1) m m h h))) (λI1 m2 x1=>I1 x1->bD (↑x1.1:Int) (aG x1.2.columns) (aT (λb1 o1=>aH (aU x1.2.columns.a b1 o1) (0<=(↑x1.1:Int)) ((↑x1.1:Int)<aG x1.2.columns) (∃(y1:ByteArray),aM m h b1 (eC (bB o1 x1.1 2)) (j6 (Value.string y1))/\∃(s1:ByteArray),hP (fH (jW y1) (jW s1)) (!(mR s1)) (K bA m h) (aT (λb2 o2=>aH (aU x1.2.columns.a b2 o2) (0<=(↑x1.1:Int)) ((↑x1.1:Int)<aG x1.2.columns) (∃(y2:Int),aM m h b2 (bB o2 x1.1 2+1) (cK y2)/\∃(k:Int),hP (pH y2 k) (!(cT k)) (K bA m h) (∃(I2:Nat×Nat×cC->Prop)(m3:Nat×Nat×cC->Nat),(∃(x2:Nat×Nat×cC),aA (I2 x2)
 dU (aA (bY x1.1 x2.1) (bG (nK x2)) (aA (cH x1.2.columns (kD x2).columns) (bY x1.1 x2.1) (aA (oQ 86 (fP x1.2)=oQ 86 (fP (kD x2))) (m=m) (dC h h)))))/\∀(x2:Nat×Nat×cC),I2 x2->bD (↑(nK x2):Int) (↑x2.1:Int) (aT (λb3 o3=>aH (aU (kD x2).columns.a b3 o3) (0<=(↑(nK x2):Int)) ((↑(nK x2):Int)<aG (kD x2).columns) (∃(y3:ByteArray),aM m h b3 (eC (bB o3 (nK x2) 2)) (j6 (Value.string y3))/\aT (λb4 o4=>aH (aU (kD x2).columns.a b4 o4) (0<=(↑x2.1:Int)) ((↑x2.1:Int)<aG (kD x2).columns) (∃(y4:ByteArray),aM m h b4 (eC (bB o4 x2.1 2)) (j6 (Value.string y4))/\branch (y3.toList==y4.toList) (K bA m h) (∃(x3:Nat×Nat×cC),aA (I2 x3) (m3 x3<m3 x2) (aA dU (bY x2.1 x3.1) (aA (gS (aW
 (nK x2) 1)=bX (nK x3)) (cH (kD x2).columns (kD x3).columns) (aA (bY x2.1 x3.1) (oQ 86 (fP (kD x2))=oQ 86 (fP (kD x3))) (eH m m h h)))))))))) (∃(x3:Nat×cC),aA (I1 x3) (m2 x3<m2 x1) (aA dU (cH (kD x2).columns x3.2.columns) (aA (gS (aW x2.1 1)=bX x3.1) (BU (kD x2) x3) (aA (m=m) (h=h) True))))))))))) (K gE m h)))))))))
theorem HX.snoc{ns:List ByteArray}{n:ByteArray}(h:AD m b ((ns.map λn=>(Value.string n,Value.bool true))++[(.string n,.bool true)])):HX m b (ns++[n]):=by
 unfold HX;rw[List.map_append];exact h
theorem HX.look{ns:List ByteArray}(h:HX m b ns):AD m b (List.map (λp:Value×Bool=>(p.fst,Value.bool p.snd)) (ns.map λn=>(Value.string n,true))):=by
 rw[List.map_map];exact h
theorem FE{β:Type}{ns:List ByteArray}{x:β}:∀e:Value×β,e∈(ns.map λn=>(Value.string n,x))->∃s,e.fst= .string s:=λe he=>by
 obtain⟨n,_,rfl⟩:=List.mem_map.1 he;exact⟨n,rfl⟩
theorem PA{β:Type}{ns:List ByteArray}{x:β}{n:ByteArray}(h:n∉ns):∀e:Value×β,e∈(ns.map λn=>(Value.string n,x))->e.fst= .string n->False:=λe he h'=>by
 obtain⟨n',hn,rfl⟩:=List.mem_map.1 he;exact h (by have:n'=n:=(by injection h');rwa [<-this])
theorem Dr{β:Type}{ns:List ByteArray}{x:β}{n:ByteArray}(h:∀e:Value×β,e∈(ns.map λn=>(Value.string n,x))->e.fst= .string n->False):n∉ns:=λhn=>h (.string n,x) (List.mem_map.2 ⟨n,hn,rfl⟩) rfl
theorem PB{β:Type}{ns:List ByteArray}{x y:β}{n:ByteArray}(h:(Value.string n,y)∈(ns.map λn=>(Value.string n,x))):n∈ns/\y=x:=by
 obtain⟨n',hn,e⟩:=List.mem_map.1 h;injection e with e1 e2;injection e1 with e1;exact⟨by rwa [<-e1],e2.symm⟩
theorem Tb:Sound Tryz.prog 111 X3:=by
 refine Gm Tryz.func111 ?_;rintro cvs m h K ⟨v,s,rfl,hs,hK⟩;refine⟨Xy v h,rfl,aD SN aF,HJ v m h (lE h K),by kernel_rfl,?_⟩;show HJ v m h (lE h K);dsimp only[HJ,push_cast];have hl:=hs.tables.slen;have hlen:=hs.tables.len;have hf:¬Good A9 s.tables->K (cB false) m h:=λh=>hK false ⟨λe=>(by cases e),λe=>(h e).elim⟩;intro b m1 hb hm1;refine⟨λ⟨i,b1,mx⟩=>i<=s.tables.length/\Sub m mx/\m b1=none/\HX mx b1 ((s.tables.take i).map wJ.name)/\fG A9 s.tables i,λ⟨i,_,_⟩=>s.tables.length-i,⟨(0,b,m1),⟨aC,(Sub.refl m).upd hb.m_ hm1.other,hb.m_,⟨_,_,hm1.at_,rfl⟩,.zero⟩,MT⟩,?_⟩;rintro⟨i,b1,mx⟩ ⟨hi,hsub,hb1,hmap,hgood⟩;dsimp only;refine aE (λhlt=>?_) (λhge=>.sub hsub (hK true ⟨λ_=>hgood.all aC,λ_=>rfl⟩));obtain⟨t,hx⟩:=fI hl hlt;obtain⟨bb,o,w,ea,hr,hrep⟩:=hs.tables.at hx;have hcl:=bV.slen hrep.columns;have hcb:=bV.len hrep.columns;have hnm:=hrep.name;have hky:=hrep.key;have bad:¬A9 (s.tables.take i) t->lE h K (.val (.bool false)) mx h:=λhn=>.sub hsub (hf (Good.not hx hn));have rest:t.name∉(s.tables.take i).map wJ.name->mR w.name=true->1<=w.key->w.key<=w.columns.len->Good Rn t.columns->A9 (s.tables.take i) t:=λh1 h2 h3 h4 h5=>⟨by rw[<-hnm];exact h2,by rw[<-hky];exact h3,by rw[<-hky];omega,h1,h5⟩
 refine⟨bb,o,ea,aC,hlt,w,.imm hr,w.name,rfl,aB (λh1=>bad λht=>?_) (λh1=>⟨_,_,hmap.look,Bj,⟨_,rfl⟩,FE,λhno=>aE (λh2=>bad λht=>?_) (λh2=>aE (λh3=>bad λht=>?_) (λh3=>⟨_,_,hmap,Bj,⟨_,rfl⟩,FE,PA (Dr hno),λm2 hs2 hm2 b2 m3 hb2 hm3=>?_⟩)),λy hy=>?_⟩)⟩
 .have:=ht.1;rw[<-hnm]at this;rw[this]at h1;cases h1
 .have:=ht.2.1;omega
 .have:=ht.2.2.1;omega
 .have hm2:=HX.snoc hm2;have hsub2:Sub m m2:=hsub.upd hb1 hs2.other;have hsub3:Sub m m3:=hsub2.upd (hsub2.free hb2.m_) hm3.other
  have hne:b1≠b2:=λe=>by
   obtain⟨es,cl,e1,_⟩:=hm2.ex;rw[e,hb2.m_]at e1;cases e1
  have hno':t.name∉(s.tables.take i).map wJ.name:=by rw[<-hnm];exact Dr hno
  rw[hnm, <-gO hx]at hm2
  refine⟨λ⟨i',k,b1',b2',sl,my⟩=>i'=i/\b1'=b1/\b2'=b2/\sl=w.columns/\k<=t.columns.length/\Sub m my/\HX my b1 ((s.tables.take (i+1)).map wJ.name)/\HX my b2 ((t.columns.take k).map mZ.name)/\fG Rn t.columns k,λ⟨_,k,_,_,_,_⟩=>t.columns.length-k,
   ⟨(i,0,b1,b2,w.columns,m3),⟨rfl,rfl,rfl,rfl,aC,hsub3,hm2.other hne hm3.other,⟨_,_,hm3.at_,rfl⟩,.zero⟩,MT⟩,?_⟩
  rintro⟨i,k,b1,b2,_,my⟩ ⟨rfl,rfl,rfl,rfl,hk,hsuby,hmy1,hmy2,hg2⟩;dsimp only;refine aE (λhlt2=>?_) (λhge2=>?_)
  .obtain⟨c,hc⟩:=fI hcl hlt2;obtain⟨bc,oc,ec,rc⟩:=Cy.at hrep.columns hc;have cbad:∀mz,Sub m mz->¬Rn (t.columns.take k) c->lE h K (.val (.bool false)) mz h:=λmz hz hn=>.sub hz (hf (Good.not hx (λht=>Good.not hc hn ht.2.2.2.2)));refine⟨bc,oc,ec,aC,hlt2,c,.imm rc,c.name,rfl,aB (λh4=>cbad my hsuby λht=>?_) (λh4=>⟨_,_,hmy2.look,Bj,⟨_,rfl⟩,FE,λhno2=>⟨_,_,hmy2,Bj,⟨_,rfl⟩,FE,PA (Dr hno2),λm4 hs4 hm4=>?_⟩,λy hy=>?_⟩)⟩
   .rw[ht.1]at h4;cases h4
   .have hm4:=HX.snoc hm4;rw[<-gO hc]at hm4;have hsub4:Sub m m4:=hsuby.upd (hsub2.free hb2.m_) hs4.other;have cgood:cT c.kind=true->Rn (t.columns.take k) c:=λe=>⟨by simpa using h4,e,Dr hno2⟩
    have ckind:cT c.kind=false->¬Rn (t.columns.take k) c:=λe ht=>by rw[ht.2.1]at e;cases e
    have m1':=hmy1.other hne hs4.other
    repeat' (first|(refine aB (λ_=>?_) (λ_=>?_))|(refine cbad m4 hsub4 (ckind ?_);simp_all [cT];done)|exact⟨(i,k+1,b1,b2,w.columns,m4),⟨rfl,rfl,rfl,rfl,by show k+1<=t.columns.length;omega,hsub4,m1',hm4,hg2.succ hc (cgood (by simp_all [cT]))⟩,by show t.columns.length-(k+1)<t.columns.length-k;omega,MT⟩)
   .obtain⟨hin,rfl⟩:=PB hy;exact aB (λ_=>cbad my hsuby λht=>ht.2.2 hin) (λe=>by cases e)
  .refine⟨(i+1,b1,my),⟨aC,hsuby,hb1,hmy1,hgood.succ hx (rest hno' (by simpa using h1) aC aC (hg2.all aC))⟩,?_,MT⟩;show s.tables.length-(i+1)<s.tables.length-i;omega
 .obtain⟨hin,rfl⟩:=PB hy;exact aB (λ_=>bad λht=>ht.2.2.2.1 (by rw[<-hnm];exact hin)) (λe=>by cases e)
theorem Ke{α:Type}{f:α->ByteArray}{l:List α}{x:α}{n:ByteArray}(hx:l[i]? =some x)(h:n∉(l.take i).map f)(hn:f x≠n):n∉(l.take (i+1)).map f:=by
 rw[gO hx,List.mem_append];rintro(e|e)
 .exact h e
 .simp at e;exact hn e.symm
theorem ZP{α:Type}{f:α->ByteArray}{l:List α}{x:α}{n:ByteArray}(hx:l[i]? =some x)(hi:i<k)(hn:f x=n):n∈(l.take k).map f:=
 List.mem_map.2 ⟨x,List.mem_of_getElem? (i:=i) (by rw[List.getElem?_take,if_pos hi,hx]),hn⟩
theorem Vn:Sound Tryz.prog 91 XP:=by
 refine iJ Tryz.func91 ?_;rintro cvs m h K ⟨v,s,t,i,rfl,hs,hx,hK⟩;refine⟨YI v i m h,rfl,aD SZ (aD Mj aF),P1 v i m h K,by kernel_rfl,?_⟩;dsimp only[P1,push_cast];have hl:=hs.tables.slen;have hlen:=hs.tables.len;have hil:i<s.tables.length:=(List.getElem?_eq_some_iff.1 hx).1;have bad:¬A9 (s.tables.take i) t->K (.val (.bool false)) m h:=λh=>hK false ⟨λe=>(by cases e),λe=>(h e).elim⟩;obtain⟨bb,o,w,ea,hr,hrep⟩:=hs.tables.at hx;have hcl:=bV.slen hrep.columns;have hcb:=bV.len hrep.columns;have hnm:=hrep.name;have hky:=hrep.key;refine⟨bb,o,ea,aC,aC,w,.imm hr,w.name,rfl,aB (λh1=>bad λht=>?_) (λh1=>aB (λh2=>bad λht=>?_) (λh2=>aE (λh3=>bad λht=>?_) (λh3=>aE (λh4=>bad λht=>?_) (λh4=>?_))))⟩
 .have:=ht.1;rw[<-hnm]at this;rw[this]at h1;cases h1
 .have:=ht.2.1;have:=ht.2.2.1;have:(w.columns.len:Int)=0:=(by simpa using h2);omega
 .have:=ht.2.1;omega
 .have:=ht.2.2.1;omega
 refine⟨λ⟨k,w'⟩=>w'=w/\k<=i/\t.name∉(s.tables.take k).map wJ.name,λ⟨k,_⟩=>i-k,⟨(0,w),⟨rfl,aC,by simp⟩,MT⟩,?_⟩;rintro⟨k,w⟩ ⟨rfl,hk,hno⟩;dsimp only;refine aE (λhlt=>?_) (λhge=>?_)
 .obtain⟨t',hx'⟩:∃t',s.tables[k]? =some t':=⟨s.tables[k]'(by omega),List.getElem?_eq_getElem _⟩
  obtain⟨b',o',w',ea',hr',hrep'⟩:=hs.tables.at hx';refine⟨b',o',ea',aC,aC,w'.name,.imm (bF.part hr' 0 1),aB (λe=>bad λht=>?_) (λe=>?_)⟩
  .refine ht.2.2.2.1 (ZP hx' aC ?_);rw[<-hrep'.name, <-hnm];exact yR (by simpa using e)
  .refine⟨(k+1,w),⟨rfl,aC,Ke hx' hno λe'=>?_⟩,by show i-(k+1)<i-k;omega,MT⟩;rw[<-hrep'.name, <-hnm]at e';rw[e']at e;simp at e
 .have hki:k=i:=by omega
  subst hki;refine⟨λ⟨k,w'⟩=>w'=w/\k<=t.columns.length/\fG Rn t.columns k,λ⟨k,_⟩=>t.columns.length-k,⟨(0,w),⟨rfl,aC,.zero⟩,MT⟩,?_⟩;rintro⟨c,w⟩ ⟨rfl,hc,hg⟩;dsimp only;refine aE (λhlt=>?_) (λhge2=>hK true ⟨λ_=>⟨by rw[<-hnm];simpa using h1,aC,aC,hno,hg.all aC⟩,λ_=>rfl⟩);obtain⟨x,hxc⟩:=fI hcl hlt;obtain⟨bc,oc,ec,rc⟩:=Cy.at hrep.columns hxc;have cbad:¬Rn (t.columns.take c) x->K (.val (.bool false)) m h:=λhn=>bad λht=>Good.not hxc hn ht.2.2.2.2;refine⟨bc,oc,ec,aC,hlt,x.name,.imm (bF.part rc 0 1),x.name,rfl,aB (λe1=>cbad λht=>?_) (λe1=>⟨bc,oc,ec,aC,hlt,x.kind,.imm (bF.part rc 1 1),x.kind,rfl,aB (λe2=>cbad λht=>?_) (λe2=>?_)⟩)⟩
  .rw[ht.1]at e1;cases e1
  .rw[ht.2.1]at e2;cases e2
  refine⟨λ⟨c',j,w'⟩=>w'=w/\c'=c/\j<=c/\x.name∉(t.columns.take j).map mZ.name,λ⟨_,j,_⟩=>c-j,⟨(c,0,w),⟨rfl,rfl,aC,by simp⟩,MT⟩,?_⟩;rintro⟨c,j,w⟩ ⟨rfl,rfl,hj,hnoj⟩;dsimp only;refine aE (λhlt3=>?_) (λhge3=>?_)
  .obtain⟨y,hy⟩:∃y,t.columns[j]? =some y:=⟨t.columns[j]'(by omega),List.getElem?_eq_getElem _⟩
   obtain⟨by',oy,ey,ry⟩:=Cy.at hrep.columns hy;refine⟨by',oy,ey,aC,aC,y.name,.imm (bF.part ry 0 1),bc,oc,ec,aC,hlt,x.name,.imm (bF.part rc 0 1),aB (λe=>cbad λht=>?_) (λe=>?_)⟩
   .exact ht.2.2 (ZP hy aC (yR (by simpa using e)))
   .refine⟨(c,j+1,w),⟨rfl,rfl,by show j+1<=c;omega,Ke hy hnoj λe'=>?_⟩,by show c-(j+1)<c-j;omega,MT⟩;rw[e']at e;simp at e
  .have:j=c:=by omega
   subst this;exact⟨(j+1,w),⟨rfl,aC,hg.succ hxc ⟨by simpa using e1,by simpa using e2,hnoj⟩⟩,by show t.columns.length-(j+1)<t.columns.length-j;omega,MT⟩
def E7(t g:wJ)(k:Nat)(c:Int):Prop:=0<=c/\c<t.columns.length/\∃x y,t.columns[c.toNat]? =some x/\g.columns[k]? =some y/\x.kind=y.kind
def XY(tabs:List wJ)(t:wJ)(_:List Ref)(r:Ref):Prop:=0<=r.table/\r.table<tabs.length/\∃g,tabs[r.table.toNat]? =some g/\(r.columns.length:Int)=g.key/\Good (λpre c=>E7 t g pre.length c) r.columns
def Cs(tabs:List wJ)(_:List wJ)(t:wJ):Prop:=Good (XY tabs t) t.refs
def XX:Vc.Spec:=λcvs m h K=>∃v s,cvs=[aS v]/\gM h s v/\Good A9 s.tables/\∀r:Bool,(r=true↔Good (Cs s.tables) s.tables)->K (cB r) m h
def UA:Vc.Spec:=λcvs m h K=>∃v s t,∃i:Nat,cvs=[aS v,cI i]/\gM h s v/\Good A9 s.tables/\s.tables[i]? =some t/\∀r:Bool,(r=true↔Cs s.tables [] t)->K (cB r) m h
noncomputable def Xx(v:bH)(m:MH)(h:PH):Ctx:=
 dN [] [(2,{A:=Nat,st:=λi=>cE 82 83 [(1,.at (.ptr 1 0)),(11,sv v.tables),(12,iv v.tables.len),(13,iv i)] [(1,.cells 43 (v.enc.map .val))] m h}),
  (5,{A:=Nat×Nat×cC,st:=λ⟨i,k,w⟩=>cE 82 83 [(1,.at (.ptr 1 0)),(4,.at (.ptr 4 0)),(11,sv v.tables),(12,iv v.tables.len),(13,iv i),(18,sv w.references),(19,iv w.references.len),(20,iv k)] [(1,.cells 43 (v.enc.map .val)),(4,.cells 86 (w.enc.map .val))] m h}),
  (13,{A:=Nat×Nat×Nat×cC×cC×Sl,st:=λ⟨i,k,j,w,g,sl⟩=>cE 82 83 [(1,.at (.ptr 1 0)),(4,.at (.ptr 4 0)),(7,.at (.ptr 7 0)),(11,sv v.tables),(12,iv v.tables.len),(13,iv i),(18,sv w.references),(19,iv w.references.len),(20,iv k),(48,sv sl),(49,iv sl.len),(50,iv j)] [(1,.cells 43 (v.enc.map .val)),(4,.cells 86 (w.enc.map .val)),(7,.cells 86 (g.enc.map .val))] m h})] [] [] false
noncomputable def YH(v:bH)(m:MH)(h:PH):Ctx:=
 dN [] [(3,{A:=Nat×cC,st:=λ⟨k,w⟩=>cE 85 87 [(2,.at (.ptr 2 0)),(5,.at (.ptr 5 0)),(16,sv w.references),(17,iv w.references.len),(18,iv k)] [(2,.cells 43 (v.enc.map .val)),(5,.cells 86 (w.enc.map .val))] m h}),
  (8,{A:=Nat×Nat×cC×Cw,st:=λ⟨k,j,w,r⟩=>cE 85 87 [(2,.at (.ptr 2 0)),(5,.at (.ptr 5 0)),(7,.at (.ptr 7 0)),(16,sv w.references),(17,iv w.references.len),(18,iv k),(47,sv r.columns),(48,iv r.columns.len),(49,iv j)] [(2,.cells 43 (v.enc.map .val)),(5,.cells 86 (w.enc.map .val)),(7,.cells 118 (r.enc.map .val))] m h})] [] [] false
abbrev mT(a:(Nat->Prop)->Nat->Prop)(b:(Nat->Prop)->(Nat->Nat)->Nat->Prop):Prop:=∃(x:Nat->Prop)(x1:Nat->Nat),gY (∃(x2:Nat),a x x2) (λx2=>b x x1 x2)
abbrev fO:Prop:=eP 1
abbrev Bx(a b:cC):Prop:=aZ a.references b.references
abbrev By(a b:cC):Prop:=cH a.references b.references
abbrev Du(a:bH)(b:Int)(c:Nat->Nat->Prop):Prop:=aT (λx x1=>aH (aU (qJ a) x x1) (0<=b) (b<aG a.tables) (c x x1))
noncomputable abbrev qH(a:Nat×Nat×Nat×cC×cC×Sl):cC:=a.2.2.2.1
noncomputable abbrev vD(a:Nat×Nat×Nat×cC×cC×Sl):Sl:=a.2.2.2.2.2
noncomputable abbrev sU(a:Nat×Nat×Nat×cC×cC×Sl):Nat:=a.2.2.1
noncomputable abbrev G1(a:Nat×Nat×Nat×cC×cC×Sl):cC:=a.2.2.2.2.1
attribute [push_cast] mT fO Bx By Du qH vD sU G1
def HI(v:bH)(m:MH)(h:PH)(K:CV->MH->PH->Prop):Prop:=
  mT (λI x=>aA (I x) fO (aA (mC v) (gV v) (aA (bG x) (cG v) (aA (m=m) (h=h) True)))) (λI m1 x=>Ds (I x) x v (λb o y=>aM m h b (bB o x 5) (vP y)/\∃(I1:Nat×Nat×cC->Prop)(m2:Nat×Nat×cC->Nat),(∃(x1:Nat×Nat×cC),aA (I1 x1) fO (aA (eP 4) (mC v) (aA (gV v) (bY x x1.1) (aA (Bx y (kD x1)) (By y (kD x1)) (aA (bG (nK x1)) (cG v) (aA (oQ 86 (fP y)=oQ 86 (fP (kD x1))) (m=m) (dC h h)))))))/\∀(x1:Nat×Nat×cC),I1 x1->bD (↑(nK x1):Int) (aG (kD x1).references) (aT (λb1 o1=>aH (aU (kD x1).references.a b1 o1) (0<=(↑(nK x1):Int)) ((↑(nK x1):Int)<aG (kD x1).references) (∃(y1:Cw),aM m h b1 (bB o1 (nK x1) 2) (kX (eR y1.columns) (eW y1.table))/\
 bD y1.table 0 (K bA m h) (gQ y1.table (iG v) (K bA m h) (Du v y1.table (λb2 o2=>∃(y2:cC),aM m h b2 (fL o2 y1.table 5) (vP y2)/\fQ (aG y1.columns) y2.key (K bA m h) (∃(I2:Nat×Nat×Nat×cC×cC×Sl->Prop)(m3:Nat×Nat×Nat×cC×cC×Sl->Nat),(∃(x2:Nat×Nat×Nat×cC×cC×Sl),aA (I2 x2) fO (aA (eP 4) (eP 7) (aA (mC v) (gV v) (aA (bY x1.1 x2.1) (Bx (kD x1) (qH x2)) (aA (By (kD x1) (qH x2)) (bY (nK x1) x2.2.1) (aA (aZ y1.columns (vD x2)) (cH y1.columns (vD x2)) (aA (bG (sU x2)) (cG v) (aA (oQ 86 (fP (kD x1))=oQ 86 (fP (qH x2))) (oQ 86 (fP y2)=oQ 86 (fP (G1 x2))) (eH m m h h)))))))))/\∀(x2:Nat×Nat×Nat×cC×cC×Sl),I2 x2->bD (↑(sU x2):Int) (aG
 (vD x2)) (aT (λb3 o3=>aH (aU (vD x2).a b3 o3) (0<=(↑(sU x2):Int)) ((↑(sU x2):Int)<aG (vD x2)) (∃(y3:Int),aM m h b3 (bB o3 (sU x2) 1) (cK y3)/\bD y3 0 (K bA m h) (gQ y3 (Bv (qH x2)) (K bA m h) (aT (λb4 o4=>aH (aU (qH x2).columns.a b4 o4) (0<=y3) (y3<aG (qH x2).columns) (∃(y4:Int),aM m h b4 (fL o4 y3 2+1) (cK y4)/\aT (λb5 o5=>aH (aU (G1 x2).columns.a b5 o5) (0<=(↑(sU x2):Int)) ((↑(sU x2):Int)<aG (G1 x2).columns) (∃(y5:Int),aM m h b5 (bB o5 (sU x2) 2+1) (cK y5)/\fQ y4 y5 (K bA m h) (∃(x3:Nat×Nat×Nat×cC×cC×Sl),aA (I2 x3) (m3 x3<m3 x2) (aA fO (eP 4) (aA (eP 7) (mC v) (aA (gV v) (bY x2.1 x3.1) (aA (Bx (qH x2) (qH x3)) (By
 (qH x2) (qH x3)) (aA (bY x2.2.1 x3.2.1) (aZ (vD x2) (vD x3)) (aA (cH (vD x2) (vD x3)) (gS (aW (sU x2) 1)=bX (sU x3)) (aA (cG v) (oQ 86 (fP (qH x2))=oQ 86 (fP (qH x3))) (dE (oQ 86 (fP (G1 x2))=oQ 86 (fP (G1 x3))) m m h h)))))))))))))))))) (∃(x3:Nat×Nat×cC),aA (I1 x3) (m2 x3<m2 x1) (aA fO (eP 4) (aA (mC v) (gV v) (aA (bY x2.1 x3.1) (Bx (qH x2) (kD x3)) (aA (By (qH x2) (kD x3)) (gS (aW x2.2.1 1)=bX (nK x3)) (aA (cG v) (oQ 86 (fP (qH x2))=oQ 86 (fP (kD x3))) (eH m m h h)))))))))))))) (∃(x2:Nat),aA (I x2) (m1 x2<m1 x) (aA fO (mC v) (aA (gV v) (gS (aW x1.1 1)=bX x2) (aA (cG v) (m=m) (dC h h)))))) (K gE m h))
noncomputable abbrev qI(a:Nat×Nat×cC×Cw):cC:=a.2.2.1
noncomputable abbrev p5(a:Nat×Nat×cC×Cw):Sl:=a.2.2.2.columns
noncomputable abbrev BT(a:Nat×Nat×cC×Cw):Int:=a.2.2.2.table
attribute [push_cast] qI p5 BT
def KC(v:bH)(i:Nat)(m:MH)(h:PH)(K:CV->MH->PH->Prop):Prop:=
  aT (λb o=>aH (aU (qJ v) b o) (0<=(↑i:Int)) ((↑i:Int)<aG v.tables) (∃(y:cC),aM m h b (bB o i 5) (vP y)/\IZ (λI x=>aA (I x) fN (aA dU (Bx y x.2) (aA (By y x.2) (bG x.1) (aA (cG v) (BU y x) (eH m m h h))))) (λI m1 x=>I x->bD (↑x.1:Int) (aG x.2.references) (aT (λb1 o1=>aH (aU x.2.references.a b1 o1) (0<=(↑x.1:Int)) ((↑x.1:Int)<aG x.2.references) (∃(y1:Cw),aM m h b1 (bB o1 x.1 2) (kX (eR y1.columns) (eW y1.table))/\bD y1.table 0 (K bA m h) (gQ y1.table (iG v) (K bA m h) (aT (λb2 o2=>aH (aU (qJ v) b2 o2) (0<=y1.table) (y1.table<aG v.tables) (∃(y2:Int),aM m h b2 (fL o2 y1.table 5+2) (cK y2)/\fQ (aG y1.columns) y2 (K bA m h) (∃(I1:Nat×Nat×cC×Cw->Prop)(m2:
 Nat×Nat×cC×Cw->Nat),(∃(x1:Nat×Nat×cC×Cw),aA (I1 x1) fN (aA dU (eP 7) (aA (Bx x.2 (qI x1)) (By x.2 (qI x1)) (aA (bY x.1 x1.1) (aZ y1.columns (p5 x1)) (aA (cH y1.columns (p5 x1)) (bG x1.2.1) (aA (cG v) (oQ 86 (fP x.2)=oQ 86 (fP (qI x1))) (dE (oQ 118 (gR (tZ y1.columns) (hX y1.table) [])=oQ 118 (gR (tZ (p5 x1)) (hX (BT x1)) [])) m m h h)))))))/\∀(x1:Nat×Nat×cC×Cw),I1 x1->bD (↑x1.2.1:Int) (aG (p5 x1)) (aT (λb3 o3=>aH (aU (p5 x1).a b3 o3) (0<=(↑x1.2.1:Int)) ((↑x1.2.1:Int)<aG (p5 x1)) (∃(y3:Int),aM m h b3 (bB o3 x1.2.1 1) (cK y3)/\bD y3 0 (K bA m h) (gQ y3 (Bv (qI x1)) (K bA m h) (aT (λb4 o4=>aH (aU (qI x1).columns.a b4 o4) (0<=y3) (y3<aG
 (qI x1).columns) (∃(y4:Int),aM m h b4 (fL o4 y3 2+1) (cK y4)/\aT (λb5 o5=>aH (aU (qJ v) b5 o5) (0<=BT x1) (BT x1<aG v.tables) (∃(y5:Sl),aM m h b5 (fL o5 (BT x1) 5+1) (aR y5)/\aT (λb6 o6=>aH (aU y5.a b6 o6) (0<=(↑x1.2.1:Int)) ((↑x1.2.1:Int)<aG y5) (∃(y6:Int),aM m h b6 (bB o6 x1.2.1 2+1) (cK y6)/\fQ y4 y6 (K bA m h) (∃(x2:Nat×Nat×cC×Cw),aA (I1 x2) (m2 x2<m2 x1) (aA fN dU (aA (eP 7) (Bx (qI x1) (qI x2)) (aA (By (qI x1) (qI x2)) (bY x1.1 x2.1) (aA (aZ (p5 x1) (p5 x2)) (cH (p5 x1) (p5 x2)) (aA (gS (aW x1.2.1 1)=bX x2.2.1) (cG v) (aA (oQ 86 (fP (qI x1))=oQ 86 (fP (qI x2))) (oQ 118 (gR (tZ (p5 x1)) (hX (BT x1)) [])=oQ 118 (gR
 (tZ (p5 x2)) (hX (BT x2)) [])) (aA (m=m) (h=h) True))))))))))))))))))) (∃(x2:Nat×cC),aA (I x2) (m1 x2<m1 x) (aA fN dU (aA (Bx (qI x1) x2.2) (By (qI x1) x2.2) (aA (gS (aW x1.1 1)=bX x2.1) (cG v) (dE (BU (qI x1) x2) m m h h))))))))))))) (K gE m h))))
theorem Ints.at'{s:Sl}(r:Ints h s l){x:Int}(hi:l[i]? =some x):∃b o,s.a=some ⟨b,o,none⟩/\bF h b (o+i*1) [.int .i64 x]:=by
 obtain⟨b,o,e,k⟩:=r.at hi;exact⟨b,o,e,by rwa [Nat.mul_one]⟩
theorem O4{α:Type}{l:List α}{x:α}(h:l[i]? =some x):(l.take i).length=i:=by
 have:=(List.getElem?_eq_some_iff.1 h).1;rw[List.length_take];omega
theorem Good.key_le{tabs:List wJ}(h:Good A9 tabs){g:wJ}(hg:tabs[i]? =some g):g.key<=g.columns.length:=(h i g hg).2.2.1
theorem Zw{v:bH}(hs:gM h s v)(hgood:Good A9 s.tables)(hK:∀r:Bool,(r=true↔Good (Cs s.tables) s.tables)->K (cB r) m h):HI v m h K:=by
 dsimp only[HI,push_cast];have hl:=hs.tables.slen;have hlen:=hs.tables.len;have hf:¬Good (Cs s.tables) s.tables->K (.val (.bool false)) m h:=λh=>hK false ⟨λe=>(by cases e),λe=>(h e).elim⟩;refine⟨λi=>i<=s.tables.length/\fG (Cs s.tables) s.tables i,λi=>s.tables.length-i,⟨0,⟨aC,.zero⟩,MT⟩,λi⟨hi,hg⟩=>aE (λhlt=>?_) (λhge=>hK true ⟨λ_=>hg.all aC,λ_=>rfl⟩)⟩;obtain⟨t,hx⟩:=fI hl hlt;obtain⟨b,o,w,ea,hr,hrep⟩:=hs.tables.at hx;have hcl:=bV.slen hrep.columns;have hrl:=bV.slen hrep.refs;have hrb:=bV.len hrep.refs;refine⟨b,o,ea,aC,hlt,w,.imm hr,λ⟨i',k,w'⟩=>i'=i/\w'=w/\k<=t.refs.length/\fG (XY s.tables t) t.refs k,λ⟨_,k,_⟩=>t.refs.length-k,⟨(i,0,w),⟨rfl,rfl,aC,.zero⟩,MT⟩,?_⟩;rintro⟨i,k,w⟩ ⟨rfl,rfl,hk,hg2⟩;dsimp only;refine aE (λhlt2=>?_) (λhge2=>⟨i+1,⟨aC,hg.succ hx (hg2.all aC)⟩,by show s.tables.length-(i+1)<s.tables.length-i;omega,MT⟩);obtain⟨r,hrx⟩:=fI hrl hlt2;obtain⟨b2,o2,rv,ea2,hr2,hrep2⟩:=hrep.refs.at hrx;have rcl:=hrep2.columns.slen;have rcb:=hrep2.columns.len;have rt:=hrep2.table;have bad:¬XY s.tables t (t.refs.take k) r->K (.val (.bool false)) m h:=λhn=>hf (Good.not hx (Good.not hrx hn));refine⟨b2,o2,ea2,aC,hlt2,rv,.imm hr2,aE (λh1=>bad λht=>?_) (λh1=>aE (λh2=>bad λht=>?_) (λh2=>?_))⟩
 .have:=ht.1;omega
 .have:=ht.2.1;omega
 obtain⟨g,b3,o3,gv,hgx,ea3,hr3,hrep3⟩:=hs.table (t:=rv.table) aC aC;have gcl:=bV.slen hrep3.columns;have hkey:=hgood.key_le hgx;have gk:=hrep3.key;refine⟨b3,o3,ea3,aC,aC,gv,.imm hr3,aB (λh3=>bad λht=>?_) (λh3=>?_)⟩
 .obtain⟨_,_,g',hg',hk',_⟩:=ht;rw[<-rt,hgx]at hg';cases hg';have:(rv.columns.len:Int)≠gv.key:=by simpa using h3
  omega
 have h3:(rv.columns.len:Int)=gv.key:=by simpa using h3
 refine⟨λ⟨i',k',j,w',g',sl⟩=>i'=i/\k'=k/\w'=w/\g'=gv/\sl=rv.columns/\j<=r.columns.length/\fG (λpre c=>E7 t g pre.length c) r.columns j,λ⟨_,_,j,_,_,_⟩=>r.columns.length-j,⟨(i,k,0,w,gv,rv.columns),⟨rfl,rfl,rfl,rfl,rfl,aC,.zero⟩,MT⟩,?_⟩;rintro⟨i,k,j,w,gv,_⟩ ⟨rfl,rfl,rfl,rfl,rfl,hj,hg3⟩;dsimp only;refine aE (λhlt3=>?_) (λhge3=>⟨(i,k+1,w),⟨rfl,rfl,by show k+1<=t.refs.length;omega,hg2.succ hrx ⟨aC,aC,g,by rw[<-rt];exact hgx,aC,hg3.all aC⟩⟩,by show t.refs.length-(k+1)<t.refs.length-k;omega,MT⟩);obtain⟨c,hc⟩:=fI rcl hlt3;obtain⟨b4,o4,ea4,hr4⟩:=hrep2.columns.at' hc;have htl:=O4 hc
 have cbad:¬E7 t g j c->K (.val (.bool false)) m h:=λhn=>bad λht=>by
  obtain⟨_,_,g',hg',_,hgo⟩:=ht;rw[<-rt,hgx]at hg';cases hg';have:=hgo j c hc;dsimp only at this;rw[htl]at this;exact hn this
 refine⟨b4,o4,ea4,aC,hlt3,c,.imm hr4,aE (λh5=>cbad λht=>?_) (λh5=>aE (λh6=>cbad λht=>?_) (λh6=>?_))⟩
 .have:=ht.1;omega
 .have:=ht.2.1;omega
 obtain⟨x,hxx⟩:∃x,t.columns[c.toNat]? =some x:=⟨t.columns[c.toNat]'(by omega),List.getElem?_eq_getElem _⟩
 obtain⟨y,hyy⟩:∃y,g.columns[j]? =some y:=⟨g.columns[j]'(by omega),List.getElem?_eq_getElem _⟩
 obtain⟨b5,o5,ea5,hr5⟩:=Cy.at hrep.columns hxx;obtain⟨b6,o6,ea6,hr6⟩:=Cy.at hrep3.columns hyy;refine⟨b5,o5,ea5,aC,aC,x.kind,.imm (bF.part hr5 1 1),b6,o6,ea6,aC,aC,y.kind,.imm (bF.part hr6 1 1),aB (λh7=>cbad λht=>?_) (λh7=>?_)⟩
 .obtain⟨_,_,x',y',e1,e2,e3⟩:=ht;rw[hxx]at e1;rw[hyy]at e2;cases e1;cases e2;rw[e3]at h7;simp at h7
 .exact⟨(i,k,j+1,w,gv,rv.columns),⟨rfl,rfl,rfl,rfl,rfl,by show j+1<=r.columns.length;omega,hg3.succ hc (by show E7 t g (List.take j r.columns).length c;rw[htl];exact⟨aC,aC,x,y,hxx,hyy,by simpa using h7⟩)⟩,by show r.columns.length-(j+1)<r.columns.length-j;omega,MT⟩
theorem Ta:Sound Tryz.prog 112 XX:=by
 refine iJ Tryz.func112 ?_;rintro cvs m h K ⟨v,s,rfl,hs,hg,hK⟩;refine⟨Xx v m h,rfl,aF,HI v m h K,by kernel_rfl,?_⟩;exact Zw hs hg hK
theorem aeQ{v:bH}{t:wJ}(hs:gM h s v)(hgood:Good A9 s.tables)(hx:s.tables[i]? =some t)(hK:∀r:Bool,(r=true↔Cs s.tables [] t)->K (cB r) m h):KC v i m h K:=by
 dsimp only[KC,push_cast];have hl:=hs.tables.slen;have hlen:=hs.tables.len;have hil:i<s.tables.length:=(List.getElem?_eq_some_iff.1 hx).1;have hf:¬Cs s.tables [] t->K (.val (.bool false)) m h:=λh=>hK false ⟨λe=>(by cases e),λe=>(h e).elim⟩;obtain⟨b,o,w,ea,hr,hrep⟩:=hs.tables.at hx;have hcl:=bV.slen hrep.columns;have hrl:=bV.slen hrep.refs;have hrb:=bV.len hrep.refs;refine⟨b,o,ea,aC,aC,w,.imm hr,λ⟨k,w'⟩=>w'=w/\k<=t.refs.length/\fG (XY s.tables t) t.refs k,λ⟨k,_⟩=>t.refs.length-k,⟨(0,w),⟨rfl,aC,.zero⟩,MT⟩,?_⟩;rintro⟨k,w⟩ ⟨rfl,hk,hg2⟩;dsimp only;refine aE (λhlt2=>?_) (λhge2=>hK true ⟨λ_=>hg2.all aC,λ_=>rfl⟩);obtain⟨r,hrx⟩:=fI hrl hlt2;obtain⟨b2,o2,rv,ea2,hr2,hrep2⟩:=hrep.refs.at hrx;have rcl:=hrep2.columns.slen;have rcb:=hrep2.columns.len;have rt:=hrep2.table;have bad:¬XY s.tables t (t.refs.take k) r->K (.val (.bool false)) m h:=λhn=>hf (Good.not hrx hn);refine⟨b2,o2,ea2,aC,hlt2,rv,.imm hr2,aE (λh1=>bad λht=>?_) (λh1=>aE (λh2=>bad λht=>?_) (λh2=>?_))⟩
 .have:=ht.1;omega
 .have:=ht.2.1;omega
 obtain⟨g,b3,o3,gv,hgx,ea3,hr3,hrep3⟩:=hs.table (t:=rv.table) aC aC;have gcl:=bV.slen hrep3.columns;have hkey:=hgood.key_le hgx;have gk:=hrep3.key;refine⟨b3,o3,ea3,aC,aC,gv.key,.imm (bF.part hr3 2 1),aB (λh3=>bad λht=>?_) (λh3=>?_)⟩
 .obtain⟨_,_,g',hg',hk',_⟩:=ht;rw[<-rt,hgx]at hg';cases hg';have:(rv.columns.len:Int)≠gv.key:=by simpa using h3
  omega
 have h3:(rv.columns.len:Int)=gv.key:=by simpa using h3
 refine⟨λ⟨k',j,w',r'⟩=>k'=k/\w'=w/\r'=rv/\j<=r.columns.length/\fG (λpre c=>E7 t g pre.length c) r.columns j,λ⟨_,j,_,_⟩=>r.columns.length-j,⟨(k,0,w,rv),⟨rfl,rfl,rfl,aC,.zero⟩,MT⟩,?_⟩;rintro⟨k,j,w,rv⟩ ⟨rfl,rfl,rfl,hj,hg3⟩;dsimp only;refine aE (λhlt3=>?_) (λhge3=>⟨(k+1,w),⟨rfl,by show k+1<=t.refs.length;omega,hg2.succ hrx ⟨aC,aC,g,by rw[<-rt];exact hgx,aC,hg3.all aC⟩⟩,by show t.refs.length-(k+1)<t.refs.length-k;omega,MT⟩);obtain⟨c,hc⟩:=fI rcl hlt3;obtain⟨b4,o4,ea4,hr4⟩:=hrep2.columns.at' hc;have htl:=O4 hc
 have cbad:¬E7 t g j c->K (.val (.bool false)) m h:=λhn=>bad λht=>by
  obtain⟨_,_,g',hg',_,hgo⟩:=ht;rw[<-rt,hgx]at hg';cases hg';have:=hgo j c hc;dsimp only at this;rw[htl]at this;exact hn this
 refine⟨b4,o4,ea4,aC,hlt3,c,.imm hr4,aE (λh5=>cbad λht=>?_) (λh5=>aE (λh6=>cbad λht=>?_) (λh6=>?_))⟩
 .have:=ht.1;omega
 .have:=ht.2.1;omega
 obtain⟨x,hxx⟩:∃x,t.columns[c.toNat]? =some x:=⟨t.columns[c.toNat]'(by omega),List.getElem?_eq_getElem _⟩
 obtain⟨y,hyy⟩:∃y,g.columns[j]? =some y:=⟨g.columns[j]'(by omega),List.getElem?_eq_getElem _⟩
 obtain⟨b5,o5,ea5,hr5⟩:=Cy.at hrep.columns hxx;obtain⟨b6,o6,ea6,hr6⟩:=Cy.at hrep3.columns hyy;refine⟨b5,o5,ea5,aC,aC,x.kind,.imm (bF.part hr5 1 1),b3,o3,ea3,aC,aC,gv.columns,.imm (bF.part hr3 1 1),b6,o6,ea6,aC,aC,y.kind,.imm (bF.part hr6 1 1),aB (λh7=>cbad λht=>?_) (λh7=>?_)⟩
 .obtain⟨_,_,x',y',e1,e2,e3⟩:=ht;rw[hxx]at e1;rw[hyy]at e2;cases e1;cases e2;rw[e3]at h7;simp at h7
 .exact⟨(k,j+1,w,rv),⟨rfl,rfl,rfl,by show j+1<=r.columns.length;omega,hg3.succ hc (by show E7 t g (List.take j r.columns).length c;rw[htl];exact⟨aC,aC,x,y,hxx,hyy,by simpa using h7⟩)⟩,by show r.columns.length-(j+1)<r.columns.length-j;omega,MT⟩
theorem Vm:Sound Tryz.prog 92 UA:=by
 refine iJ Tryz.func92 ?_;rintro cvs m h K ⟨v,s,t,i,rfl,hs,hg,hx,hK⟩;refine⟨YH v m h,rfl,aF,KC v i m h K,by kernel_rfl,?_⟩;exact aeQ hs hg hx hK
def Lf(t:wJ):Prop:=t.columns.length<=8/\t.refs.length<=4/\t.checks.length<=4
def Ci(s:pV):Prop:=s.tables.length<=8/\Good (λ_ t=>Lf t) s.tables
def IF(s:pV):Prop:=0<=s.version/\s.version<=1000/\Good A9 s.tables/\Good (Cs s.tables) s.tables
def qS:List Int->Int
 |[]=>0
 |e::r=>if e=0 then qS r else e
def sA(s:pV)(i:Nat):List Int:=match s.tables[i]? with|some t=>t.checks.map (iS (iI s i) [])|none=>[]
theorem wV(a b:List Int)(h:∀e∈a,e=0):qS (a++b)=qS b:=by
 induction a with
 |nil=>rfl
 |cons x a ih=>
  simp only[List.cons_append,qS];rw[if_pos (h x (by simp)),ih λe he=>h e (by simp[he])]
theorem AQ(a:List Int)(h:∀e∈a,e=0):qS a=0:=by
 have:=wV a [] h;simpa[qS]using this
theorem Iv{n:Nat}{f:Nat->List Int}{e:Int}(hi:i<n)(h1:∀j<i,∀x∈f j,x=0)(h2:∀x∈(f i).take k,x=0)(h3:(f i)[k]? =some e)(he:e≠0):qS ((List.range n).flatMap f)=e:=by
 obtain⟨r,rfl⟩:∃r,n=i+(1+r):=⟨n-i-1,aC⟩
 rw[List.range_add,List.flatMap_append,wV]
 .rw[show(List.range (1+r)).map (i+ ·)=i::(List.range' (i+1) r)from ?_,List.flatMap_cons, <-List.take_append_drop k (f i),List.append_assoc,wV _ _ h2,drop_cons h3]
  .simp[qS,he]
  .rw[Nat.add_comm 1 r,List.range_succ_eq_map];simp[List.range'_eq_map_range,Nat.add_assoc,Nat.add_comm 1]
 .intro x hx;obtain⟨j,hj,hx⟩:=List.mem_flatMap.1 hx;exact h1 j (List.mem_range.1 hj) x hx
open Classical in
noncomputable def eG(s:pV):Int:=if Ci s then(if IF s then qS ((List.range s.tables.length).flatMap (sA s))else 70)else 2
def yT:Vc.Spec:=λcvs m h K=>∃v s,cvs=[aS v]/\gM h s v/\K (cI (eG s)) m h
noncomputable def YO(v:bH)(m:MH)(h:PH):Ctx:=
 dN [(111,X3),(112,XX),(72,wN),(113,rT)] [(4,{A:=Nat,st:=λi=>cE 83 84 [(1,.at (.ptr 1 0)),(16,sv v.tables),(17,iv v.tables.len),(18,iv i)] [(1,.cells 43 (v.enc.map .val))] m h}),
  (12,{A:=Nat×PH,st:=λ⟨i,hx⟩=>cE 83 84 [(1,.at (.ptr 1 0)),(58,sv v.tables),(59,iv v.tables.len),(60,iv i)] [(1,.cells 43 (v.enc.map .val))] m hx}),
  (16,{A:=Nat×Nat×Sl×Sl×PH,st:=λ⟨i,k,ks,cs,hx⟩=>cE 83 84 [(1,.at (.ptr 1 0)),(7,sv ks),(58,sv v.tables),(59,iv v.tables.len),(60,iv i),(69,sv cs),(70,iv cs.len),(71,iv k)] [(1,.cells 43 (v.enc.map .val))] m hx})] [] [] false
noncomputable def YY(v:bH)(m:MH)(h:PH):Ctx:=
 dN [(91,XP),(92,UA),(44,wN),(69,rT)] [(4,{A:=Nat,st:=λi=>cE 96 97 [(1,.at (.ptr 1 0)),(16,sv v.tables),(17,iv v.tables.len),(18,iv i)] [(1,.cells 43 (v.enc.map .val))] m h}),
  (12,{A:=Nat,st:=λi=>cE 96 97 [(1,.at (.ptr 1 0)),(49,iv v.tables.len),(50,iv i)] [(1,.cells 43 (v.enc.map .val))] m h}),
  (18,{A:=Nat,st:=λi=>cE 96 97 [(1,.at (.ptr 1 0)),(60,iv v.tables.len),(61,iv i)] [(1,.cells 43 (v.enc.map .val))] m h}),
  (24,{A:=Nat×PH,st:=λ⟨i,hx⟩=>cE 96 97 [(1,.at (.ptr 1 0)),(71,iv v.tables.len),(72,iv i)] [(1,.cells 43 (v.enc.map .val))] m hx}),
  (27,{A:=Nat×Nat×Sl×PH,st:=λ⟨i,k,cs,hx⟩=>cE 96 97 [(1,.at (.ptr 1 0)),(7,iv i),(71,iv v.tables.len),(72,iv i),(80,sv cs),(81,iv cs.len),(82,iv k)] [(1,.cells 43 (v.enc.map .val))] m hx})] [] [] false
abbrev BP(a:List CV)(b:Nat->Nat->Option Value)(c:Sl->PH->Prop):Prop:=jX (λx x1=>∃(x2:Int),aH (a=bU (jM (bR x)) x2) (gM b x1 x) (oY x1) (kP (λx3 x4=>dZ b x4 (Ints x4 x3 (iI x1 x2)) (c x3 x4))))
noncomputable abbrev vE(a:Nat×Nat×Sl×Sl×PH):Sl:=a.2.2.2.1
noncomputable abbrev Ak(a:Nat×Nat×Sl×Sl×PH):Nat->Nat->Option Value:=a.2.2.2.2
abbrev DB(a:List CV)(b:PH)(c:(List Int)->(List Int)->Pred->Prop):Prop:=kV (λx x1=>∃(x2:PV),qK (λx3 x4=>∃(x5:Pred),aA (a=dP x (fW x1 (eN x2))) (Ints b x x3) (aA (Ints b x1 x4) (fF b x5 x2) (c x3 x4 x5))))
attribute [push_cast] BP vE Ak DB
def KF(v:bH)(m:MH)(h:PH)(K:CV->MH->PH->Prop):Prop:=
  fC (iG v) 8 (K (fK 2) m h) (mT (λI x=>aA (I x) fO (aA (mC v) (gV v) (aA (bG x) (cG v) (aA (m=m) (h=h) True)))) (λI m1 x=>Ds (I x) x v (λb o y=>aM m h b (bB o x 5) (vP y)/\dH (decide (Bv y>8)) (K (fK 2) m h) (decide (aG y.references>4)) (K (fK 2) m h) (fC (aG y.checks) 4 (K (fK 2) m h) (∃(x1:Nat),aA (I x1) (m1 x1<m1 x) (aA fO (mC v) (aA (gV v) (gS (aW x 1)=bX x1) (aA (cG v) (m=m) (dC h h))))))) (bD v.version 0 (K (fK 70) m h) (fC v.version 1000 (K (fK 70) m h) (jX (λv1 s=>aA (fH (jM (bR v)) (jM (bR v1))) (gM h s v1) (∀(r:Bool),gU (gC r (Good A9 s.tables)) (!r) (K (fK 70) m h) (jX (λv2 s1=>aH (fH (jM (bR v)) (jM (bR v2))) (gM h s1 v2) (Good A9 s1.tables) (∀(r1:
 Bool),gU (gC r1 (Good (Cs s1.tables) s1.tables)) (!r1) (K (fK 70) m h) (∃(I1:Nat×PH->Prop)(m2:Nat×PH->Nat),(∃(x1:Nat×PH),aA (I1 x1) fO (aA (mC v) (gV v) (aA (bG x1.1) (cG v) (aA (m=m) (h=x1.2) True))))/\∀(x1:Nat×PH),Ds (I1 x1) x1.1 v (λb o y=>aM m x1.2 b (bB o x1.1 5) (vP y)/\BP (bU (jM (bR v)) (↑x1.1:Int)) x1.2 (λs2 h1=>∃(I2:Nat×Nat×Sl×Sl×PH->Prop)(m3:Nat×Nat×Sl×Sl×PH->Nat),(∃(x2:Nat×Nat×Sl×Sl×PH),aA (I2 x2) fO (aA (aZ s2 x2.2.2.1) (mC v) (aA (gV v) (bY x1.1 x2.1) (aA (aZ y.checks (vE x2)) (cH y.checks (vE x2)) (aA (bG x2.2.1) (cG v) (aA (m=m) (h1=Ak x2) True))))))/\∀(x2:Nat×Nat×Sl×Sl×PH),I2 x2->bD (↑x2.2.1:Int) (aG (vE x2)) (aT (λb1 o1
 =>aH (aU (vE x2).a b1 o1) (0<=(↑x2.2.1:Int)) ((↑x2.2.1:Int)<aG (vE x2)) (∃(y1:PV),aM m (Ak x2) b1 (bB o1 x2.2.1 13) y1.enc/\DB (dP x2.2.2.1 (bI Dc (eN y1))) (Ak x2) (λc p p1=>fQ (iS c p p1) 0 (K (fK (iS c p p1)) m (Ak x2)) (∃(x3:Nat×Nat×Sl×Sl×PH),aA (I2 x3) (m3 x3<m3 x2) (aA fO (aZ x2.2.2.1 x3.2.2.1) (aA (mC v) (gV v) (aA (bY x2.1 x3.1) (aZ (vE x2) (vE x3)) (aA (cH (vE x2) (vE x3)) (gS (aW x2.2.1 1)=bX x3.2.1) (aA (cG v) (m=m) (dC (Ak x2) (Ak x3)))))))))))) (∃(x3:Nat×PH),aA (I1 x3) (m2 x3<m2 x1) (aA fO (mC v) (aA (gV v) (gS (aW x2.1 1)=bX x3.1) (aA (cG v) (m=m) (dC (Ak x2) x3.2))))))) (K (fK 0) m x1.2))))))))))))
abbrev Jm(a:pV)(b:Nat)(c:wJ):Prop:=a.tables[b]? =Option.some c
noncomputable abbrev vF(a:Nat×Nat×Sl×PH):Sl:=a.2.2.1
attribute [push_cast] Jm vF
def KH(v:bH)(m:MH)(h:PH)(K:CV->MH->PH->Prop):Prop:=
  fC (iG v) 8 (K (fK 2) m h) (mT (λI x=>aA (I x) fO (aA (mC v) (gV v) (aA (bG x) (cG v) (aA (m=m) (h=h) True)))) (λI m1 x=>Ds (I x) x v (λb o y=>aM m h b (bB o x 5) (vP y)/\dH (decide (Bv y>8)) (K (fK 2) m h) (decide (aG y.references>4)) (K (fK 2) m h) (fC (aG y.checks) 4 (K (fK 2) m h) (∃(x1:Nat),aA (I x1) (m1 x1<m1 x) (aA fO (mC v) (aA (gV v) (gS (aW x 1)=bX x1) (aA (cG v) (m=m) (dC h h))))))) (bD v.version 0 (K (fK 70) m h) (fC v.version 1000 (K (fK 70) m h) (mT (λI1 x1=>aA (I1 x1) fO (aA (gV v) (bG x1) (dE (cG v) m m h h))) (λI1 m2 x1=>I1 x1->bD (↑x1:Int) (aG v.tables) (jX (λv1 s=>∃(t:wJ)(i:Nat),aH (bU (jM (bR v)) (↑x1:Int)=bU (jM (bR v1)) (↑i:
 Int)) (gM h s v1) (Jm s i t) (∀(r:Bool),gC r (A9 (List.take i s.tables) t)->gX (!r) (K (fK 70) m h) (λx2=>aA (I1 x2) (m2 x2<m2 x1) (aA fO (gV v) (aA (gS (aW x1 1)=bX x2) (cG v) (aA (m=m) (h=h) True))))))) (mT (λI2 x2=>aA (I2 x2) fO (aA (gV v) (bG x2) (dE (cG v) m m h h))) (λI2 m3 x2=>I2 x2->bD (↑x2:Int) (aG v.tables) (jX (λv1 s=>∃(t:wJ)(i:Nat),aA (bU (jM (bR v)) (↑x2:Int)=bU (jM (bR v1)) (↑i:Int)) (gM h s v1) (aA (Good A9 s.tables) (Jm s i t) (∀(r:Bool),gC r (Cs s.tables [] t)->gX (!r) (K (fK 70) m h) (λx3=>aA (I2 x3) (m3 x3<m3 x2) (aA fO (gV v) (aA (gS (aW x2 1)=bX x3) (cG v) (aA (m=m) (h=h) True)))))))) (∃(I3:Nat×PH->Prop)(m4:Nat×PH->Nat),(∃(x3:Nat×
 PH),aA (I3 x3) fO (aA (gV v) (bG x3.1) (dE (cG v) m m h x3.2)))/\∀(x3:Nat×PH),I3 x3->bD (↑x3.1:Int) (aG v.tables) (aT (λb o=>aH (aU (qJ v) b o) (0<=(↑x3.1:Int)) ((↑x3.1:Int)<aG v.tables) (∃(y:Sl),aM m x3.2 b (bB o x3.1 5+4) (aR y)/\∃(I4:Nat×Nat×Sl×PH->Prop)(m5:Nat×Nat×Sl×PH->Nat),(∃(x4:Nat×Nat×Sl×PH),aA (I4 x4) fO (aA (bY x3.1 x4.1) (gV v) (aA (bY x3.1 x4.1) (aZ y (vF x4)) (aA (cH y (vF x4)) (bG x4.2.1) (dE (cG v) m m x3.2 x4.2.2.2)))))/\∀(x4:Nat×Nat×Sl×PH),I4 x4->bD (↑x4.2.1:Int) (aG (vF x4)) (aT (λb1 o1=>aH (aU (vF x4).a b1 o1) (0<=(↑x4.2.1:Int)) ((↑x4.2.1:Int)<aG (vF x4)) (∃(y1:PV),aM m x4.2.2.2 b1 (bB o1 x4.2.1 13) y1.enc/\BP (bU
 (jM (bR v)) (↑x4.1:Int)) x4.2.2.2 (λs h1=>DB (dP s (bI Dc (eN y1))) h1 (λc p p1=>fQ (iS c p p1) 0 (K (fK (iS c p p1)) m h1) (∃(x5:Nat×Nat×Sl×PH),aA (I4 x5) (m5 x5<m5 x4) (aA fO (bY x4.1 x5.1) (aA (gV v) (bY x4.1 x5.1) (aA (aZ (vF x4) (vF x5)) (cH (vF x4) (vF x5)) (aA (gS (aW x4.2.1 1)=bX x5.2.1) (cG v) (aA (m=m) (h1=x5.2.2.2) True))))))))))) (∃(x5:Nat×PH),aA (I3 x5) (m4 x5<m4 x3) (aA fO (gV v) (aA (gS (aW x4.1 1)=bX x5.1) (cG v) (aA (m=m) (x4.2.2.2=x5.2) True))))))) (K (fK 0) m x3.2))))))))))
theorem lE.out{hx:PH}{r:CV}(hm:Sub m m')(hle:PH.le h hx)(hK:K r m h):lE h K r m' hx:=⟨m,h,hm,.refl _,hle,hK⟩
theorem uF(h:¬Ci s):eG s=2:=by unfold eG;rw[if_neg h]
theorem JZ(h:Ci s)(h':¬IF s):eG s=70:=by unfold eG;rw[if_pos h,if_neg h']
theorem GU(h:Ci s)(h':IF s):eG s=qS ((List.range s.tables.length).flatMap (sA s)):=by unfold eG;rw[if_pos h,if_pos h']
theorem Bh{t:wJ}(hx:s.tables[i]? =some t)(hp:t.checks[k]? =some p):(sA s i)[k]? =some (iS (iI s i) [] p):=by
 unfold sA;rw[hx];simp[hp]
theorem H5{t:wJ}(hx:s.tables[i]? =some t):(sA s i).length=t.checks.length:=by
 unfold sA;rw[hx];simp
theorem LL{e:Int}(hk:l[k]? =some e)(h:∀x∈l.take k,x=0)(he:e=0):∀x∈l.take (k+1),x=0:=by
 intro x hx;rw[List.take_add_one,hk,List.mem_append]at hx;rcases hx with hx|hx
 .exact h x hx
 .simp at hx;rw[hx,he]
theorem OT{f:Nat->List Int}(h:∀j<i,∀x∈f j,x=0)(hl:(f i).length<=k)(h2:∀x∈(f i).take k,x=0):∀j<i+1,∀x∈f j,x=0:=by
 intro j hj x hx;by_cases e:j=i
 .subst e;rw[List.take_of_length_le hl]at h2;exact h2 x hx
 .exact h j aC x hx
theorem Hi:Sound Tryz.prog 79 yT:=by
 refine Gm Tryz.func79 ?_;rintro cvs m h K ⟨v,s,rfl,hs,hK⟩;refine⟨YO v m h,rfl,aD Tb (aD Ta (aD Mm (aD KX aF))),KF v m h (lE h K),by kernel_rfl,?_⟩;show KF v m h (lE h K);dsimp only[KF,push_cast];have hl:=hs.tables.slen;have hlen:=hs.tables.len;have hver:=hs.version;have out:∀(hx:PH)(x:Int),PH.le h hx->eG s=x->lE h K (.val (.int .i64 x)) m hx:=λhx x hle e=>.out (Sub.refl m) hle (by rw[<-e];exact hK);refine aE (λh1=>out h _ (.refl _) (uF λe=>by have:=e.1;omega)) (λh1=>?_);refine⟨λi=>i<=s.tables.length/\fG (λ_ t=>Lf t) s.tables i,λi=>s.tables.length-i,⟨0,⟨aC,.zero⟩,MT⟩,λi⟨hi,hg⟩=>aE (λhlt=>?_) (λhge=>?_)⟩
 .obtain⟨t,hx⟩:=fI hl hlt;obtain⟨b,o,w,ea,hr,hrep⟩:=hs.tables.at hx;have e1:=bV.slen hrep.columns;have e2:=bV.slen hrep.refs;have e3:=bV.slen hrep.checks;have bad:¬Lf t->lE h K (.val (.int .i64 2)) m h:=λhn=>out h _ (.refl _) (uF λe=>Good.not hx hn e.2);refine⟨b,o,ea,aC,hlt,w,.imm hr,aE (λh2=>bad λe=>?_) (λh2=>aE (λh3=>bad λe=>?_) (λh3=>aE (λh4=>bad λe=>?_) (λh4=>⟨i+1,⟨aC,hg.succ hx ⟨aC,aC,aC⟩⟩,by show s.tables.length-(i+1)<s.tables.length-i;omega,MT⟩)))⟩
  .have:=e.1;omega
  .have:=e.2.1;omega
  .have:=e.2.2;omega
 have lim:Ci s:=⟨aC,hg.all aC⟩
 have h8:oY s:=λt ht=>by
  obtain⟨j,hj⟩:=List.mem_iff_getElem?.1 ht;exact(lim.2 j t hj).1
 have bad:¬IF s->lE h K (.val (.int .i64 70)) m h:=λhn=>out h _ (.refl _) (JZ lim hn);refine aE (λh2=>bad λe=>?_) (λh2=>aE (λh3=>bad λe=>?_) (λh3=>⟨v,s,rfl,hs,λr hr=>aB (λh4=>bad λe=>?_) (λh4=>⟨v,s,rfl,hs,hr.1 (by simpa using h4),λr2 hr2=>aB (λh5=>bad λe=>?_) (λh5=>?_)⟩)⟩))
 .have:=e.1;omega
 .have:=e.2.1;omega
 .rw[hr.2 e.2.2.1]at h4;cases h4
 .rw[hr2.2 e.2.2.2]at h5;cases h5
 have ok:IF s:=⟨aC,aC,hr.1 (by simpa using h4),hr2.1 (by simpa using h5)⟩
 rw[GU lim ok]at out;refine⟨λ⟨i,hx⟩=>i<=s.tables.length/\PH.le h hx/\∀j<i,∀x∈sA s j,x=0,λ⟨i,_⟩=>s.tables.length-i,⟨(0,h),⟨aC,.refl _,λj hj=>by omega⟩,MT⟩,?_⟩;rintro⟨i,hx⟩ ⟨hi,hle,hz⟩;dsimp only;refine aE (λhlt=>?_) (λhge=>out hx _ hle (AQ _ λe he=>?_))
 .obtain⟨t,ht⟩:=fI hl hlt;obtain⟨b,o,w,ea,hr,hrep⟩:=(hs.mono hle).tables.at ht;have cl:=bV.slen hrep.checks;have cb:=bV.len hrep.checks;refine⟨b,o,ea,aC,hlt,w,.imm hr,v,s,i,rfl,hs.mono hle,h8,λsl h' hle' hints=>?_⟩;refine⟨λ⟨i',k,ks,cs,hy⟩=>i'=i/\cs=w.checks/\k<=t.checks.length/\PH.le h' hy/\Ints hy ks (iI s i)/\∀x∈(sA s i).take k,x=0,λ⟨_,k,_,_,_⟩=>t.checks.length-k,⟨(i,0,sl,w.checks,h'),⟨rfl,rfl,aC,.refl _,hints,λx hx=>by simp at hx⟩,MT⟩,?_⟩;rintro⟨i,k,ks,_,hy⟩ ⟨rfl,rfl,hk,hle2,hints2,hz2⟩;dsimp only;have hlh:PH.le h hy:=(hle.trans hle').trans hle2;refine aE (λhlt2=>?_) (λhge2=>⟨(i+1,hy),⟨aC,hlh,OT hz (k:=k) (by rw[H5 ht];omega) hz2⟩,by show s.tables.length-(i+1)<s.tables.length-i;omega,MT⟩);obtain⟨p,hp⟩:=fI cl hlt2;obtain⟨b2,o2,pv,ea2,hr2',hrep2⟩:=((hrep.checks.mono hle').mono hle2).at hp;refine⟨b2,o2,ea2,aC,hlt2,pv,.imm hr2',ks,⟨none,0,0⟩,pv,iI s i,[],p,rfl,hints2,⟨.nil _ _,by simp⟩,hrep2,aB (λh6=>?_) (λh6=>?_)⟩
  .exact out hy _ hlh (Iv aC hz hz2 (Bh ht hp) (by simpa using h6))
  .exact⟨(i,k+1,ks,w.checks,hy),⟨rfl,rfl,by show k+1<=t.checks.length;omega,hle2,hints2,LL (Bh ht hp) hz2 (by simpa using h6)⟩,by show t.checks.length-(k+1)<t.checks.length-k;omega,MT⟩
 .obtain⟨j,hj,hx⟩:=List.mem_flatMap.1 he;exact hz j (by have:=List.mem_range.1 hj;omega) e hx
theorem Vw:Sound Tryz.prog 63 yT:=by
 refine Gm Tryz.func63 ?_;rintro cvs m h K ⟨v,s,rfl,hs,hK⟩;refine⟨YY v m h,rfl,aD Vn (aD Vm (aD D0 (aD Hm aF))),KH v m h (lE h K),by kernel_rfl,?_⟩;show KH v m h (lE h K);dsimp only[KH,push_cast];have hl:=hs.tables.slen;have hlen:=hs.tables.len;have hver:=hs.version;have out:∀(hx:PH)(x:Int),PH.le h hx->eG s=x->lE h K (.val (.int .i64 x)) m hx:=λhx x hle e=>.out (Sub.refl m) hle (by rw[<-e];exact hK);refine aE (λh1=>out h _ (.refl _) (uF λe=>by have:=e.1;omega)) (λh1=>?_);refine⟨λi=>i<=s.tables.length/\fG (λ_ t=>Lf t) s.tables i,λi=>s.tables.length-i,⟨0,⟨aC,.zero⟩,MT⟩,λi⟨hi,hg⟩=>aE (λhlt=>?_) (λhge=>?_)⟩
 .obtain⟨t,hx⟩:=fI hl hlt;obtain⟨b,o,w,ea,hr,hrep⟩:=hs.tables.at hx;have e1:=bV.slen hrep.columns;have e2:=bV.slen hrep.refs;have e3:=bV.slen hrep.checks;have bad:¬Lf t->lE h K (.val (.int .i64 2)) m h:=λhn=>out h _ (.refl _) (uF λe=>Good.not hx hn e.2);refine⟨b,o,ea,aC,hlt,w,.imm hr,aE (λh2=>bad λe=>?_) (λh2=>aE (λh3=>bad λe=>?_) (λh3=>aE (λh4=>bad λe=>?_) (λh4=>⟨i+1,⟨aC,hg.succ hx ⟨aC,aC,aC⟩⟩,by show s.tables.length-(i+1)<s.tables.length-i;omega,MT⟩)))⟩
  .have:=e.1;omega
  .have:=e.2.1;omega
  .have:=e.2.2;omega
 have lim:Ci s:=⟨aC,hg.all aC⟩
 have h8:oY s:=λt ht=>by
  obtain⟨j,hj⟩:=List.mem_iff_getElem?.1 ht;exact(lim.2 j t hj).1
 have bad:¬IF s->lE h K (.val (.int .i64 70)) m h:=λhn=>out h _ (.refl _) (JZ lim hn);refine aE (λh2=>bad λe=>?_) (λh2=>aE (λh3=>bad λe=>?_) (λh3=>?_))
 .have:=e.1;omega
 .have:=e.2.1;omega
 clear hi hg hge;refine⟨λi=>i<=s.tables.length/\fG A9 s.tables i,λi=>s.tables.length-i,⟨0,⟨aC,.zero⟩,MT⟩,λi⟨hi,hg⟩=>aE (λhlt=>?_) (λhge=>?_)⟩
 .obtain⟨t,hx⟩:=fI hl hlt;refine⟨v,s,t,i,rfl,hs,hx,λr hr=>aB (λh4=>bad λe=>?_) (λh4=>⟨i+1,⟨aC,hg.succ hx (hr.1 (by simpa using h4))⟩,by show s.tables.length-(i+1)<s.tables.length-i;omega,MT⟩)⟩;rw[hr.2 (e.2.2.1 i t hx)]at h4;cases h4
 have good:=hg.all aC;clear hi hg hge;refine⟨λi=>i<=s.tables.length/\fG (Cs s.tables) s.tables i,λi=>s.tables.length-i,⟨0,⟨aC,.zero⟩,MT⟩,λi⟨hi,hg⟩=>aE (λhlt=>?_) (λhge=>?_)⟩
 .obtain⟨t,hx⟩:=fI hl hlt;refine⟨v,s,t,i,rfl,hs,good,hx,λr hr=>aB (λh4=>bad λe=>?_) (λh4=>⟨i+1,⟨aC,hg.succ hx (hr.1 (by simpa using h4))⟩,by show s.tables.length-(i+1)<s.tables.length-i;omega,MT⟩)⟩;rw[hr.2 (e.2.2.2 i t hx)]at h4;cases h4
 have good2:=hg.all aC;clear hi hg hge;have ok:IF s:=⟨aC,aC,good,good2⟩
 rw[GU lim ok]at out;refine⟨λ⟨i,hx⟩=>i<=s.tables.length/\PH.le h hx/\∀j<i,∀x∈sA s j,x=0,λ⟨i,_⟩=>s.tables.length-i,⟨(0,h),⟨aC,.refl _,λj hj=>by omega⟩,MT⟩,?_⟩;rintro⟨i,hx⟩ ⟨hi,hle,hz⟩;dsimp only;refine aE (λhlt=>?_) (λhge=>out hx _ hle (AQ _ λe he=>?_))
 .obtain⟨t,ht⟩:=fI hl hlt;obtain⟨b,o,w,ea,hr,hrep⟩:=(hs.mono hle).tables.at ht;have cl:=bV.slen hrep.checks;have cb:=bV.len hrep.checks;refine⟨b,o,ea,aC,hlt,w.checks,.imm (bF.part hr 4 1),?_⟩;refine⟨λ⟨i',k,cs,hy⟩=>i'=i/\cs=w.checks/\k<=t.checks.length/\PH.le hx hy/\∀x∈(sA s i).take k,x=0,λ⟨_,k,_,_⟩=>t.checks.length-k,⟨(i,0,w.checks,hx),⟨rfl,rfl,aC,.refl _,λx hx=>by simp at hx⟩,MT⟩,?_⟩;rintro⟨i,k,_,hy⟩ ⟨rfl,rfl,hk,hle2,hz2⟩;dsimp only;have hlh:PH.le h hy:=hle.trans hle2;refine aE (λhlt2=>?_) (λhge2=>⟨(i+1,hy),⟨aC,hlh,OT hz (k:=k) (by rw[H5 ht];omega) hz2⟩,by show s.tables.length-(i+1)<s.tables.length-i;omega,MT⟩);obtain⟨p,hp⟩:=fI cl hlt2;obtain⟨b2,o2,pv,ea2,hr2',hrep2⟩:=(hrep.checks.mono hle2).at hp;refine⟨b2,o2,ea2,aC,hlt2,pv,.imm hr2',v,s,i,rfl,hs.mono hlh,h8,λsl h' hle' hints=>⟨sl,⟨none,0,0⟩,pv,iI s i,[],p,rfl,hints,⟨.nil _ _,by simp⟩,hrep2.mono hle',aB (λh6=>?_) (λh6=>?_)⟩⟩
  .exact out h' _ (hlh.trans hle') (Iv aC hz hz2 (Bh ht hp) (by simpa using h6))
  .exact⟨(i,k+1,w.checks,h'),⟨rfl,rfl,by show k+1<=t.checks.length;omega,hle2.trans hle',LL (Bh ht hp) hz2 (by simpa using h6)⟩,by show t.checks.length-(k+1)<t.checks.length-k;omega,MT⟩
 .obtain⟨j,hj,hx⟩:=List.mem_flatMap.1 he;exact hz j (by have:=List.mem_range.1 hj;omega) e hx
mutual
def mP:Query->Int->Int
 |.mk _ _ _ _ _ _ _ _ args,n=>jR args (n+1)
def jR:List Query->Int->Int
 |[],n=>n
 |p::ps,n=>if n<=24 then jR ps (mP p n)else n
end
mutual
def kN:Query->Nat->Bool
 |.mk _ _ _ _ _ _ _ _ _,0=>true
 |.mk _ _ _ _ _ _ _ _ args,n+1=>nW args n
def nW:List Query->Nat->Bool
 |[],_=>false
 |p::ps,n=>kN p n||nW ps n
end
mutual
theorem Bs:∀(p:Query)(n:Int),n<=24->n<mP p n/\mP p n<=25
 |.mk _ _ _ _ _ _ _ _ args,n,h=>by
  have:=Er args (n+1) aC;simp only[mP];omega
theorem Er:∀(ps:List Query)(n:Int),n<=25->n<=jR ps n/\jR ps n<=25
 |[],n,h=>by simp only[jR];omega
 |p::ps,n,h=>by
  simp only[jR];split
  .rename_i h1;have h2:=Bs p n h1;have h3:=Er ps (mP p n) h2.2;omega
  .omega
end
theorem NX(ps:List Query){n:Int}(h:¬n<=24):jR ps n=n:=by
 cases ps
 .simp[jR]
 .simp only[jR,if_neg h]
theorem Gx(n:Nat):∀ps:List Query,nW ps n=ps.any (kN · n)
 |[]=>by simp[nW]
 |p::ps=>by simp[nW,Gx n ps]
theorem dK.args{p:Query}(r:dK h p v):AA h v.args p.args:=by
 cases p;exact r.parts.args_
def j9(q:Query):Bool:=decide (mP q 0<=24)&& !kN q 8
def arity(op:Int):Int:=
 if op==1 then 0 else if op==2||op==3||op==9 then 1 else if op==4||op==5||op==6||op==7||op==8||op==10 then 2 else-1
def OI(N:Nat):Vc.Spec:=λcvs m h K=>∃v p k,cvs=[aQ v,cI k,cI 24]/\dK h p v/\SizeOf.sizeOf p<N/\0<=k/\k<=24/\K (cI (mP p k)) m h
def Lr(N:Nat):Vc.Spec:=λcvs m h K=>∃v p,∃k:Nat,cvs=[aQ v,cI k]/\dK h p v/\SizeOf.sizeOf p<N/\k<=100/\K (cB (kN p k)) m h
def Uw:Vc.Spec:=λcvs m h K=>∃v p,cvs=[aQ v]/\dK h p v/\K (cB (j9 p)) m h
def TI:Vc.Spec:=λcvs m h K=>∃op,cvs=[cI op]/\K (cI (arity op)) m h
def ES(l:List Int)(n:Int):Bool:=decide (0<=n)&&decide (n<l.length)
def InS:Vc.Spec:=λcvs m h K=>∃s l n,cvs=[cS s,cI n]/\Ints h s l/\K (cB (ES l n)) m h
noncomputable def YV(N:Nat)(v:QV)(m:MH)(h:PH):Ctx:=
 dN [(66,OI N)] [(3,{A:=Nat×Int,st:=λx=>cE 31 34 [(1,iv x.2),(2,iv 24),(3,.at (.ptr 3 0)),(7,iv x.1)] [(3,.cells 38 (v.enc.map .val))] m h})] [] [] false
noncomputable def YU(N:Nat)(v:QV)(k:Nat)(m:MH)(h:PH):Ctx:=
 dN [(67,Lr N)] [(4,{A:=Nat,st:=λi=>cE 23 25 [(1,iv k),(2,.at (.ptr 2 0)),(10,iv v.args.len),(11,iv i)] [(2,.cells 38 (v.enc.map .val))] m h})] [] [] false
noncomputable abbrev wC(a:QV):Option Go.Vc.Own:=tB 38 a.enc
abbrev eT(a:QV):Prop:=eQ (wC a)
attribute [push_cast] wC eT
def Qg(N:Nat)(v:QV)(k:Int)(m:MH)(h:PH)(K:CV->MH->PH->Prop):Prop:=
  ∃(I:Nat×Int->Prop)(m1:Nat×Int->Nat),(∃(x:Nat×Int),aA (I x) (cZ (eB (k+1)) x.2) (aA (kW 24) iE (aA (bG x.1) (eT v) (aA (m=m) (h=h) True))))/\∀(x:Nat×Int),I x->bD (↑x.1:Int) (aG v.args) (branch (decide (x.2<=24)) (aT (λb o=>aH (aU v.args.a b o) (0<=(↑x.1:Int)) ((↑x.1:Int)<aG v.args) (∃(y:QV),aM m h b (bB o x.1 21) y.enc/\kK (λv1 p=>∃(k1:Int),aA (bT y.enc (bU (fK x.2) 24)=bT v1.enc (bU (fK k1) 24)) (dK h p v1) (aA (sN p N) (cN k1) (k1<=24/\∃(x1:Nat×Int),aA (I x1) (m1 x1<m1 x) (aA (cZ (mP p k1) x1.2) (kW 24) (aA iE (gS (aW x.1 1)=bX x1.1) (aA (eT v) (m=m) (dC h h)))))))))) (K (fK x.2) m h)) (K (fK x.2) m h)
def Qf(N:Nat)(v:QV)(k:Nat)(m:MH)(h:PH)(K:CV->MH->PH->Prop):Prop:=
  eJ (↑k:Int) 0 (K gE m h) (mT (λI x=>aA (I x) (eQ (bX k)) (aA fN (bK v.args) (aA (bG x) (eT v) (aA (m=m) (h=h) True)))) (λI m1 x=>I x->bD (↑x:Int) (aG v.args) (aT (λb o=>aH (aU v.args.a b o) (0<=(↑x:Int)) ((↑x:Int)<aG v.args) (∃(y:QV),aM m h b (bB o x 21) y.enc/\kK (λv1 p=>FH (bU (bJ y) (eB ((↑k:Int)-1))) (bJ v1) (dK h p v1) (sN p N) (λk1=>gX (kN p k1) (K gE m h) (λx1=>aA (I x1) (m1 x1<m1 x) (aA (eQ (bX k)) fN (aA (bK v.args) (gS (aW x 1)=bX x1) (aA (eT v) (m=m) (dC h h)))))))))) (K bA m h)))
def Qx(N:Nat)(v:QV)(m:MH)(h:PH)(K:CV->MH->PH->Prop):Prop:=
  kK (λv1 p=>∃(k:Int),aA (bT v.enc (bU (fK 0) 24)=bT v1.enc (bU (fK k) 24)) (dK h p v1) (aA (sN p N) (cN k) (hP (k<=24) (decide (mP p k<=24)) (kK (λv2 p1=>FH (bU (bJ v) 8) (bJ v2) (dK h p1 v2) (sN p1 N) (λk1=>K (CV.val (Value.bool (!(kN p1 k1)))) m h))) (K bA m h))))
def PZ(op:Int)(m:MH)(h:PH)(K:CV->MH->PH->Prop):Prop:=
  dH (op==1) (K (fK 0) m h) (op==2) (K (fK 1) m h) (dH (op==3) (K (fK 1) m h) (op==9) (K (fK 1) m h) (dH (op==4) (K (fK 2) m h) (op==5) (K (fK 2) m h) (dH (op==6) (K (fK 2) m h) (op==7) (K (fK 2) m h) (dH (op==8) (K (fK 2) m h) (op==10) (K (fK 2) m h) (K (fK (Int.negSucc 0)) m h)))))
def MY(s:Sl)(n:Int)(m:MH)(h:PH)(K:CV->MH->PH->Prop):Prop:=
  gQ n 0 (K (A7 (decide (n<aG s))) m h) (K bA m h)
theorem Ug:∀N,Sound Tryz.prog 66 (OI N)
 |0=>by
  refine fA (fn:=Tryz.f66) (c:=cQ Tryz.f66) Tryz.func66 rfl (by decide) ?_;rintro cvs m h K ⟨v,p,k,rfl,hr,hN,_⟩;omega
 |N+1=>by
  refine iJ Tryz.func66 ?_;rintro cvs m h K ⟨v,p,k,rfl,hr,hN,h0,h1,hK⟩;refine⟨YV N v m h,rfl,aD (Ug N) aF,Qg N v k m h K,by kernel_rfl,?_⟩;dsimp only[Qg,push_cast];have hargs:=hr.args;have hlen:=hargs.slen;have hl:=hargs.len;refine⟨λx=>x.1<=p.args.length/\0<=x.2/\x.2<=25/\jR (p.args.drop x.1) x.2=mP p k,λx=>p.args.length-x.1,⟨(0,k+1),⟨by simp,by simp;omega,by simp;omega,?_⟩,?_⟩,?_⟩
  .cases p;simp[mP,Query.args]
  .rw[dX aC aC];exact MT
  rintro⟨i,n⟩ ⟨hi,hn0,hn1,he⟩;dsimp only at hi hn0 hn1 he⊢
  refine aE (λhlt=>aE (λhn=>?_) (λhn=>xE hK ?_)) (λhge=>xE hK ?_)
  .obtain⟨q,hq⟩:=fI hlen hlt;obtain⟨b,o,u,ea,hrd,hru⟩:=hargs.at hq;have hb:=Bs q n hn;rw[drop_cons hq,jR,if_pos hn]at he;refine⟨b,o,ea,aC,hlt,u,.imm hrd,u,q,n,rfl,hru,?_,hn0,hn,(i+1,mP q n),⟨by dsimp only;omega,by dsimp only;omega,by dsimp only;omega,he⟩,by dsimp only;omega,MT⟩;have:=AY (List.mem_of_getElem? hq);omega
  .rw[<-he,NX _ hn]
  .rw[<-he,List.drop_of_length_le aC];simp[jR]
theorem Uf:∀N,Sound Tryz.prog 67 (Lr N)
 |0=>by
  refine fA (fn:=Tryz.f67) (c:=cQ Tryz.f67) Tryz.func67 rfl (by decide) ?_;rintro cvs m h K ⟨v,p,k,rfl,hr,hN,_⟩;omega
 |N+1=>by
  refine iJ Tryz.func67 ?_;rintro cvs m h K ⟨v,p,k,rfl,hr,hN,h1,hK⟩;refine⟨YU N v k m h,rfl,aD (Uf N) aF,Qf N v k m h K,by kernel_rfl,?_⟩;dsimp only[Qf,push_cast];have hargs:=hr.args;have hlen:=hargs.slen;have hl:=hargs.len;refine aB (λhk=>iC hK ?_) (λhk=>?_)
  .have:k=0:=by have:(k:Int)=0:=(by simpa using hk);omega
   subst this;cases p;simp[kN]
  .have hk:k≠0:=by intro e;subst e;simp at hk
   have hdk:kN p k=p.args.any (kN · (k-1)):=by
    obtain⟨k',rfl⟩:∃k',k=k'+1:=⟨k-1,aC⟩
    cases p;simp[kN,Gx,Query.args]
   rw[hdk]at hK;refine⟨λi=>i<=p.args.length/\(p.args.take i).any (kN · (k-1))=false,λi=>p.args.length-i,⟨0,⟨aC,by simp⟩,MT⟩,λi hi=>aE (λhlt=>?_) (λhge=>iC hK ?_)⟩
   .obtain⟨q,hq⟩:=fI hlen hlt;obtain⟨b,o,u,ea,hrd,hru⟩:=hargs.at hq;refine⟨b,o,ea,aC,hlt,u,.imm hrd,u,q,k-1,?_,hru,?_,aC,aB (λhd=>iC hK ?_) (λhd=>?_)⟩
    .rw[dX aC aC,show((k-1:Nat):Int)=(k:Int)-1 by omega]
    .have:=AY (List.mem_of_getElem? hq);omega
    .rw[List.any_eq_true];exact⟨q,List.mem_of_getElem? hq,hd⟩
    .refine⟨i+1,⟨aC,?_⟩,by show p.args.length-(i+1)<p.args.length-i;omega,MT⟩;rw[List.take_add_one,List.any_append,hi.2,hq];simpa using hd
   .have:=hi.2
    rwa [List.take_of_length_le aC]at this
theorem VI:Sound Tryz.prog 28 Uw:=by
 refine iJ Tryz.func28 ?_;rintro cvs m h K ⟨v,p,rfl,hr,hK⟩;refine⟨dN [(66,OI (SizeOf.sizeOf p+1)),(67,Lr (SizeOf.sizeOf p+1))] [] [] [] false,rfl,aD (Ug _) (aD (Uf _) aF),Qx (SizeOf.sizeOf p+1) v m h K,by kernel_rfl,?_⟩;dsimp only[Qx,push_cast];refine⟨v,p,0,rfl,hr,aC,aC,aC,aB (λh1=>⟨v,p,8,rfl,hr,aC,aC,iC hK ?_⟩) (λh1=>iC hK ?_)⟩
 .simp only[j9,h1,Bool.true_and]
 .simp only[j9,h1,Bool.false_and]
theorem Mi:Sound Tryz.prog 94 TI:=by
 refine iJ Tryz.func94 ?_;rintro cvs m h K ⟨op,rfl,hK⟩;refine⟨dN [] [] [] [] false,rfl,aF,PZ op m h K,by kernel_rfl,?_⟩;dsimp only[PZ,push_cast]
 repeat' (first|(refine aB (λ_=>?_) (λ_=>?_))|(refine xE hK ?_;simp only[arity];simp only[*,Bool.or_false,Bool.false_or,Bool.or_true,Bool.true_or,Bool.and_true,Bool.true_and,Bool.and_false,Bool.false_and,Bool.not_true,Bool.not_false,Bool.false_eq_true,if_true,if_false, ↓reduceIte];done)|(refine xE hK ?_;simp only[arity];simp only[*,Bool.or_false,Bool.false_or,Bool.or_true,Bool.true_or,Bool.and_true,Bool.true_and,Bool.and_false,Bool.false_and,Bool.not_true,Bool.not_false,Bool.false_eq_true,if_true,if_false, ↓reduceIte];rfl))
theorem EX:Sound Tryz.prog 124 InS:=by
 refine iJ Tryz.func124 ?_;rintro cvs m h K ⟨s,l,n,rfl,hs,hK⟩;refine⟨dN [] [] [] [] false,rfl,aF,MY s n m h K,by kernel_rfl,?_⟩;dsimp only[MY,push_cast];have hl:=hs.slen;refine aE (λh1=>iC hK ?_) (λh1=>iC hK ?_)
 .have h1:0<=n:=h1;simp only[ES,hl,decide_eq_true h1,Bool.true_and]
 .have h1:¬0<=n:=by omega
  simp only[ES,decide_eq_false h1,Bool.false_and]
def Bc(a b:List Int)(pre:List (Int×Int))(p:Int×Int):Prop:=ES a p.1=true/\ES b p.2=true/\a.getD p.1.toNat 0=b.getD p.2.toNat 0/\∀q∈pre,q.1≠p.1/\q.2≠p.2
def HY(a:List Int)(pre:List Int)(c:Int):Prop:=ES a c=true/\c∉pre
def Lm(a:List Int)(_:List (Int×Bool))(o:Int×Bool):Prop:=ES a o.1=true
structure pR(a:List Int)(group:List Int)(order:List (Int×Bool))(limit:Int):Prop where
 group_:Good (HY a) group
 order_:Good (Lm a) order
 len_:order.length<=12
 low:0<=limit
 high:limit<=100
def UD:Vc.Spec:=λcvs m h K=>∃s t u on a b,cvs=[cS s,cS t,cS u]/\mG h s on/\Ints h t a/\Ints h u b/\∀r:Bool,(r=true↔Good (Bc a b) on)->K (cB r) m h
def UB:Vc.Spec:=λcvs m h K=>∃v t g o a,cvs=[aQ v,cS t]/\Ints h v.group g/\jC h v.order o/\Ints h t a/\∀r:Bool,(r=true↔pR a g o v.limit)->K (cB r) m h
noncomputable def Xs(s t u:Sl)(m:MH)(h:PH):Ctx:=
 dN [(124,InS)] [(2,{A:=Nat,st:=λi=>cE 66 69 [(0,sv s),(1,sv t),(2,sv u),(10,sv s),(11,iv s.len),(12,iv i)] [] m h}),
  (7,{A:=Nat×Nat×(Int×Int),st:=λ⟨i,k,p⟩=>cE 66 69 [(0,sv s),(1,sv t),(2,sv u),(7,iv i),(8,.at (.ptr 8 0)),(9,iv k),(10,sv s),(11,iv s.len),(12,iv i)] [(8,.cells 69 [.val (.int .i64 p.1),.val (.int .i64 p.2)])] m h})] [] [] false
noncomputable def Xr(v:QV)(t:Sl)(m:MH)(h:PH):Ctx:=
 dN [(124,InS)] [(2,{A:=Nat,st:=λi=>cE 62 64 [(1,sv t),(2,.at (.ptr 2 0)),(11,sv v.group),(12,iv v.group.len),(13,iv i)] [(2,.cells 38 (v.enc.map .val))] m h}),
  (7,{A:=Nat×Nat×Int,st:=λ⟨i,k,c⟩=>cE 62 64 [(1,sv t),(2,.at (.ptr 2 0)),(5,iv i),(6,iv c),(7,iv k),(11,sv v.group),(12,iv v.group.len),(13,iv i)] [(2,.cells 38 (v.enc.map .val))] m h}),
  (13,{A:=Nat,st:=λi=>cE 62 64 [(1,sv t),(2,.at (.ptr 2 0)),(36,sv v.order),(37,iv v.order.len),(38,iv i)] [(2,.cells 38 (v.enc.map .val))] m h})] [] [] false
abbrev FI(a:Sl)(b:Int)(c:Nat->Nat->Option Value)(d e:Prop):Prop:=AL (λx x1=>∃(x2:Int),aA (bU (kU a) b=bU (kU x) x2) (Ints c x x1) (branch (!(ES x1 x2)) d e))
abbrev gW:Prop:=eP 8
abbrev BM(a b:List At):Prop:=oQ 69 a=oQ 69 b
noncomputable abbrev rB(a:Int×Int):List At:=tX a.1 (hX a.2)
attribute [push_cast] FI gW BM rB
def MX(s t u:Sl)(m:MH)(h:PH)(K:CV->MH->PH->Prop):Prop:=
  mT (λI x=>aA (I x) (aK s) (aA (aK t) (aK u) (aA (aK s) (bK s) (aA (bG x) (m=m) (dC h h))))) (λI m1 x=>I x->bD (↑x:Int) (aG s) (aT (λb o=>aH (aU s.a b o) (0<=(↑x:Int)) ((↑x:Int)<aG s) (∃(y:Int×Int),aH (aM m h b (bB o x 2) (vJ y)) ((0:Int)<=0) ((0:Int)<2) (FI t y.1 h (K bA m h) (aA (cN 1) ((1:Int)<2) (FI u y.2 h (K bA m h) (aA (cN 0) ((0:Int)<2) (aT (λb1 o1=>aH (aU t.a b1 o1) (0<=y.1) (y.1<aG t) (∃(y1:Int),aH (aM m h b1 (fL o1 y.1 1) (cK y1)) ((0:Int)<=1) ((1:Int)<2) (aT (λb2 o2=>aH (aU u.a b2 o2) (0<=y.2) (y.2<aG u) (∃(y2:Int),aM m h b2 (fL o2 y.2 1) (cK y2)/\fQ y1 y2 (K bA m h) (∃(I1:Nat×Nat×Int×Int->Prop)(m2:Nat×Nat×Int×Int->Nat),(∃
 (x1:Nat×Nat×Int×Int),aA (I1 x1) (aK s) (aA (aK t) (aK u) (aA (bY x x1.1) gW (aA (bG x1.2.1) (aK s) (aA (bK s) (bY x x1.1) (aA (BM (rB y) (rB x1.2.2)) (m=m) (dC h h)))))))/\∀(x1:Nat×Nat×Int×Int),I1 x1->bD (↑x1.2.1:Int) (↑x1.1:Int) (aT (λb3 o3=>aA (aU s.a b3 o3) (cN (↑x1.2.1:Int)) (aA ((↑x1.2.1:Int)<aG s) (cN 0) ((0:Int)<2/\∃(y3:Int),aH (aM m h b3 (eC (bB o3 x1.2.1 2)) (cK y3)) ((0:Int)<=0) ((0:Int)<2) (eJ y3 x1.2.2.1 (K bA m h) (aT (λb4 o4=>aA (aU s.a b4 o4) (cN (↑x1.2.1:Int)) (aA ((↑x1.2.1:Int)<aG s) (cN 1) ((1:Int)<2/\∃(y4:Int),aH (aM m h b4 (bB o4 x1.2.1 2+1) (cK y4)) ((0:Int)<=1) ((1:Int)<2) (eJ y4 x1.2.2.2 (K bA m h) (∃(x2:Nat×Nat×Int×
 Int),aA (I1 x2) (m2 x2<m2 x1) (aA (aK s) (aK t) (aA (aK u) (bY x1.1 x2.1) (aA gW (gS (aW x1.2.1 1)=bX x2.2.1) (aA (aK s) (bK s) (aA (bY x1.1 x2.1) (BM (rB x1.2.2) (rB x2.2.2)) (eH m m h h))))))))))))))))) (∃(x2:Nat),aA (I x2) (m1 x2<m1 x) (aA (aK s) (aK t) (aA (aK u) (aK s) (aA (bK s) (gS (aW x1.1 1)=bX x2) (eH m m h h))))))))))))))))))) (K gE m h))
def MW(v:QV)(t:Sl)(m:MH)(h:PH)(K:CV->MH->PH->Prop):Prop:=
  mT (λI x=>aA (I x) (aK t) (aA fN (aK v.group) (aA (bK v.group) (bG x) (aA (eT v) (m=m) (dC h h))))) (λI m1 x=>I x->bD (↑x:Int) (aG v.group) (aT (λb o=>aH (aU v.group.a b o) (0<=(↑x:Int)) ((↑x:Int)<aG v.group) (∃(y:Int),aM m h b (bB o x 1) (cK y)/\FI t y h (K bA m h) (∃(I1:Nat×Nat×Int->Prop)(m2:Nat×Nat×Int->Nat),(∃(x1:Nat×Nat×Int),aA (I1 x1) (aK t) (aA fN (bY x x1.1) (aA (cZ y x1.2.2) (bG x1.2.1) (aA (aK v.group) (bK v.group) (aA (bY x x1.1) (eT v) (aA (m=m) (h=h) True))))))/\∀(x1:Nat×Nat×Int),I1 x1->bD (↑x1.2.1:Int) (↑x1.1:Int) (aT (λb1 o1=>aH (aU v.group.a b1 o1) (0<=(↑x1.2.1:Int)) ((↑x1.2.1:Int)<aG v.group) (∃(y1:Int),aM m h b1 (bB o1 x1.2.1 1) (cK
 y1)/\eJ y1 x1.2.2 (K bA m h) (∃(x2:Nat×Nat×Int),aA (I1 x2) (m2 x2<m2 x1) (aA (aK t) fN (aA (bY x1.1 x2.1) (cZ x1.2.2 x2.2.2) (aA (gS (aW x1.2.1 1)=bX x2.2.1) (aK v.group) (aA (bK v.group) (bY x1.1 x2.1) (aA (eT v) (m=m) (dC h h)))))))))) (∃(x2:Nat),aA (I x2) (m1 x2<m1 x) (aA (aK t) fN (aA (aK v.group) (bK v.group) (aA (gS (aW x1.1 1)=bX x2) (eT v) (eH m m h h))))))))) (mT (λI1 x1=>aA (I1 x1) (aK t) (aA fN (aK v.order) (aA (bK v.order) (bG x1) (aA (eT v) (m=m) (dC h h))))) (λI1 m2 x1=>I1 x1->bD (↑x1:Int) (aG v.order) (aT (λb o=>aH (aU v.order.a b o) (0<=(↑x1:Int)) ((↑x1:Int)<aG v.order) (∃(y:Int×Bool),aM m h b (bB o x1 2) (bW y.1 y.2)/\AL (λs l=>∃(n:Int),aA
 (bU (kU t) y.1=bU (kU s) n) (Ints h s l) (gX (!(ES l n)) (K bA m h) (λx2=>aA (I1 x2) (m2 x2<m2 x1) (aA (aK t) fN (aA (aK v.order) (bK v.order) (aA (gS (aW x1 1)=bX x2) (eT v) (eH m m h h)))))))))) (branch (decide (aG v.order<=12)) (gQ v.limit 0 (K (A7 (decide (v.limit<=100))) m h) (K bA m h)) (K bA m h)))))
theorem Kp{α:Type}{l:List α}{x:α}(hx:l[i]? =some x)(hi:i<k):x∈l.take k:=List.mem_of_getElem? (i:=i) (by rw[List.getElem?_take,if_pos hi,hx])
theorem O3{α:Type}{l:List α}{x y:α}(hx:l[i]? =some x)(hy:y∈l.take (i+1)):y∈l.take i\/y=x:=by
 rw[List.take_add_one,hx,List.mem_append]at hy;rcases hy with h|h
 .exact .inl h
 .simp at h;exact .inr h
theorem lC{n:Int}:ES l n=true↔0<=n/\n<l.length:=by simp[ES]
theorem SX:Sound Tryz.prog 125 UD:=by
 refine iJ Tryz.func125 ?_;rintro cvs m h K ⟨s,t,u,on,a,b,rfl,hs,ht,hu,hK⟩;refine⟨Xs s t u m h,rfl,aD EX aF,MX s t u m h K,by kernel_rfl,?_⟩;dsimp only[MX,push_cast];have hl:=hs.slen;have hlen:=hs.len;have ta:=ht.slen;have ub:=hu.slen;refine⟨λi=>i<=on.length/\fG (Bc a b) on i,λi=>on.length-i,⟨0,⟨aC,.zero⟩,MT⟩,λi⟨hi,hg⟩=>aE (λhlt=>?_) (λhge=>hK true ⟨λ_=>hg.all aC,λ_=>rfl⟩)⟩;obtain⟨p,hp⟩:=fI hl hlt;obtain⟨b1,o1,e1,r1⟩:=hs.at hp;have bad:¬Bc a b (on.take i) p->K (.val (.bool false)) m h:=λhn=>hK false ⟨λe=>(by cases e),λe=>(Good.not hp hn e).elim⟩;refine⟨b1,o1,e1,aC,hlt,p,.imm r1,aC,aC,t,a,p.1,rfl,ht,aB (λh1=>bad λhh=>?_) (λh1=>⟨aC,aC,u,b,p.2,rfl,hu,aB (λh2=>bad λhh=>?_) (λh2=>?_)⟩)⟩
 .rw[hh.1]at h1;cases h1
 .rw[hh.2.1]at h2;cases h2
 have i1:ES a p.1=true:=by simpa using h1
 have i2:ES b p.2=true:=by simpa using h2
 have i1':=lC.1 i1;have i2':=lC.1 i2;obtain⟨b2,o2,e2,r2⟩:=ht.inb i1'.1 i1'.2;obtain⟨b3,o3,e3,r3⟩:=hu.inb i2'.1 i2'.2;refine⟨aC,aC,b2,o2,e2,aC,aC,_,.imm r2,aC,aC,b3,o3,e3,aC,aC,_,.imm r3,aB (λh3=>bad λhh=>?_) (λh3=>?_)⟩
 .rw[hh.2.2.1]at h3;simp at h3
 refine⟨λ⟨i',k,p'⟩=>i'=i/\p'=p/\k<=i/\∀q∈on.take k,q.1≠p.1/\q.2≠p.2,λ⟨_,k,_⟩=>i-k,⟨(i,0,p),⟨rfl,rfl,aC,λq hq=>by simp at hq⟩,MT⟩,?_⟩;rintro⟨i,k,p⟩ ⟨rfl,rfl,hk,hno⟩;dsimp only;refine aE (λhlt2=>?_) (λhge2=>?_)
 .obtain⟨q,hq⟩:∃q,on[k]? =some q:=⟨on[k]'(by omega),List.getElem?_eq_getElem _⟩
  obtain⟨b4,o4,e4,r4⟩:=hs.at hq;refine⟨b4,o4,e4,aC,aC,aC,aC,q.1,.imm (bF.part r4 0 1),aC,aC,aB (λh4=>bad λhh=>?_) (λh4=>⟨b4,o4,e4,aC,aC,aC,aC,q.2,.imm (bF.part r4 1 1),aC,aC,aB (λh5=>bad λhh=>?_) (λh5=>?_)⟩)⟩
  .exact(hh.2.2.2 q (Kp hq aC)).1 (by simpa using h4)
  .exact(hh.2.2.2 q (Kp hq aC)).2 (by simpa using h5)
  .refine⟨(i,k+1,p),⟨rfl,rfl,by show k+1<=i;omega,λq' hq'=>?_⟩,by show i-(k+1)<i-k;omega,MT⟩;rcases O3 hq hq' with e|rfl
   .exact hno q' e
   .exact⟨by simpa using h4,by simpa using h5⟩
 .have:k=i:=by omega
  subst this;exact⟨k+1,⟨aC,hg.succ hp ⟨i1,i2,by simpa using h3,hno⟩⟩,by show on.length-(k+1)<on.length-k;omega,MT⟩
theorem SU:Sound Tryz.prog 126 UB:=by
 refine iJ Tryz.func126 ?_;rintro cvs m h K ⟨v,t,g,o,a,rfl,hg,ho,ht,hK⟩;refine⟨Xr v t m h,rfl,aD EX aF,MW v t m h K,by kernel_rfl,?_⟩;dsimp only[MW,push_cast];have gl:=hg.slen;have glen:=hg.len;have ol:=ho.slen;have olen:=ho.len;have bad:¬pR a g o v.limit->K (.val (.bool false)) m h:=λhn=>hK false ⟨λe=>(by cases e),λe=>(hn e).elim⟩;refine⟨λi=>i<=g.length/\fG (HY a) g i,λi=>g.length-i,⟨0,⟨aC,.zero⟩,MT⟩,λi⟨hi,hgi⟩=>aE (λhlt=>?_) (λhge=>?_)⟩
 .obtain⟨c,hc⟩:=fI gl hlt;obtain⟨b1,o1,e1,r1⟩:=hg.at' hc;refine⟨b1,o1,e1,aC,hlt,c,.imm r1,t,a,c,rfl,ht,aB (λh1=>bad λhh=>Good.not hc (λhx=>?_) hh.group_) (λh1=>?_)⟩
  .rw[hx.1]at h1;cases h1
  refine⟨λ⟨i',k,c'⟩=>i'=i/\c'=c/\k<=i/\c∉g.take k,λ⟨_,k,_⟩=>i-k,⟨(i,0,c),⟨rfl,rfl,aC,by simp⟩,MT⟩,?_⟩;rintro⟨i,k,c⟩ ⟨rfl,rfl,hk,hno⟩;dsimp only;refine aE (λhlt2=>?_) (λhge2=>?_)
  .obtain⟨q,hq⟩:∃q,g[k]? =some q:=⟨g[k]'(by omega),List.getElem?_eq_getElem _⟩
   obtain⟨b4,o4,e4,r4⟩:=hg.at' hq;refine⟨b4,o4,e4,aC,aC,q,.imm r4,aB (λh4=>bad λhh=>Good.not hc (λhx=>?_) hh.group_) (λh4=>?_)⟩
   .refine hx.2 ?_;have:q=c:=by simpa using h4
    rw[<-this];exact Kp hq aC
   .refine⟨(i,k+1,c),⟨rfl,rfl,by show k+1<=i;omega,λhq'=>?_⟩,by show i-(k+1)<i-k;omega,MT⟩;rcases O3 hq hq' with e|rfl
    .exact hno e
    .simp at h4
  .have:k=i:=by omega
   subst this;exact⟨k+1,⟨aC,hgi.succ hc ⟨by simpa using h1,hno⟩⟩,by show g.length-(k+1)<g.length-k;omega,MT⟩
 have gg:=hgi.all aC;clear hi hgi hge;refine⟨λi=>i<=o.length/\fG (Lm a) o i,λi=>o.length-i,⟨0,⟨aC,.zero⟩,MT⟩,λi⟨hi,hoi⟩=>aE (λhlt=>?_) (λhge=>?_)⟩
 .obtain⟨c,hc⟩:=fI ol hlt;obtain⟨b1,o1,e1,r1⟩:=ho.at hc;refine⟨b1,o1,e1,aC,hlt,c,.imm r1,t,a,c.1,rfl,ht,aB (λh1=>bad λhh=>Good.not hc (λhx=>?_) hh.order_) (λh1=>⟨i+1,⟨aC,hoi.succ hc (by simpa[Lm]using h1)⟩,by show o.length-(i+1)<o.length-i;omega,MT⟩)⟩;rw[show ES a c.1=true from hx]at h1;cases h1
 have oo:=hoi.all aC;refine aE (λh1=>aE (λh2=>?_) (λh2=>bad λhh=>?_)) (λh1=>bad λhh=>?_)
 .refine hK (decide (v.limit<=100)) ⟨λe=>⟨gg,oo,aC,h2,by simpa using e⟩,λe=>decide_eq_true e.high⟩
 .have:=hh.low;omega
 .have:=hh.len_;omega
def iL:Pred:=.mk 0 0 eM eM []
def eF:Query->Prop
 |.mk op ta w co on gr od li _=>(op=1\/ta=0)/\(op=2\/w=iL)/\(op=3\/co=[])/\(op=4\/op=5\/on=[])/\(op=9\/op=10\/(gr=[]/\od=[]/\li=0))
def AO(l:List Int):List Int×Int:=if l.length<=12 then(l,0)else([],2)
def jS(e:Int):List Int×Int:=([],e)
open Classical in
noncomputable def iT(s:pV)(ps:List Int)(q:Query)(a b:List Int):List Int×Int:=
 if arity (match q with|.mk op .. =>op)<0\/¬eF q then jS 100 else
 match q with
 |.mk op ta w co on gr od li _=>
  if op=1 then(if 0<=ta/\ta<s.tables.length then AO (iI s ta)else jS 100)
  else if op=2 then(if iS a ps w=0 then AO a else jS (iS a ps w))
  else if op=3 then(if co≠[]/\Good (λ_ c=>ES a c=true) co then AO (co.map λc=>a.getD c.toNat 0)else jS 100)
  else if op=4 then(if Good (Bc a b) on then AO (a++b)else jS 100)
  else if op=5 then(if Good (Bc a b) on then AO a else jS 100)
  else if op=9 then(if pR a gr od li then AO a else jS 100)
  else if op=10 then(if a=b/\pR a gr od li then AO a else jS 100)
  else(if a=b then AO a else jS 100)
def Uv:Vc.Spec:=λcvs m h K=>∃v q,cvs=[aQ v]/\dK h q v/\∀r:Bool,(r=true↔eF q)->K (cB r) m h
def KR(K:CV->MH->PH->Prop)(m:MH)(h:PH)(r:List Int×Int):Prop:=∀sl h',PH.le h h'->Ints h' sl r.1->K (.tup [cS sl,cI r.2]) m h'
def Z1:Vc.Spec:=λcvs m h K=>∃sc p v a b s ps q la lb,cvs=[aS sc,cS p,aQ v,cS a,cS b]/\gM h s sc/\oY s/\Ints h p ps/\dK h q v/\Ints h a la/\Ints h b lb/\la.length<=12/\lb.length<=12/\KR K m h (iT s ps q la lb)
noncomputable def YG(m:MH):Ctx:=
 dN [(94,TI),(123,Uv),(44,wN),(69,rT),(124,InS),(125,UD),(126,UB),(127,Bb)] [(20,{A:=Nat×Sl×Sl×List Int×PH,st:=λ⟨i,a,co,l,h⟩=>cE 121 126 [(3,sv a),(12,.at (.lst 94)),(78,sv co),(79,iv co.len),(80,iv i)] [(94,.lst 3 1 (l.map eI))] m h})] [] [] false
noncomputable def Xt(v:QV)(m:MH)(h:PH):Ctx:=
 anX [(163,ZK)] [] [(2,{A:=Bool,st:=λr=>cE 78 79 [(1,.at (.ptr 1 0)),(3,bv r)] [(1,.cells 38 (v.enc.map .val))] m h})] [(2,[(9,{A:=Bool×Bool,st:=λx=>cE 78 79 [(1,.at (.ptr 1 0)),(3,bv x.1),(20,bv x.2)] [(1,.cells 38 (v.enc.map .val))] m h}),
  (11,{A:=Bool×Bool,st:=λx=>cE 78 79 [(1,.at (.ptr 1 0)),(3,bv x.1),(31,bv x.2)] [(1,.cells 38 (v.enc.map .val))] m h}),
  (11,{A:=Bool×Bool,st:=λx=>cE 78 79 [(1,.at (.ptr 1 0)),(3,bv x.1),(42,bv x.2)] [(1,.cells 38 (v.enc.map .val))] m h}),
  (16,{A:=Bool×Bool,st:=λx=>cE 78 79 [(1,.at (.ptr 1 0)),(3,bv x.1),(58,bv x.2)] [(1,.cells 38 (v.enc.map .val))] m h})])] [] false
abbrev gH(a b:Bool):Prop:=sQb a=sQb b
abbrev uK(a:Bool):Prop:=gH true a
abbrev FX(a:Prop)(b:(Bool×Bool->Prop)->Prop)(c:(Bool×Bool->Prop)->(Bool×Bool)->Prop):Prop:=a->∃(x:Bool×Bool->Prop),b x/\∀(x1:Bool×Bool),c x x1
noncomputable abbrev oZ(a b:Value)(c:List Value):List Value:=aY a dA (aY dA dA (aY dA dA (aY b dA c)))
noncomputable abbrev iQ:List Value:=j6 tT
abbrev Dz(a:Bool×Bool->Prop)(b:Bool×Bool)(c:(Bool×Bool)->Prop)(d:QV)(e:MH)(g:PH):Prop:=∃(x:Bool×Bool),aA (a x) fO (aA (gH b.1 x.1) (c x) (dE (eT d) e e g g))
abbrev AH(a:Bool):Prop:=gH false a
attribute [push_cast] gH uK FX oZ iQ Dz AH
def MZ(v:QV)(m:MH)(h:PH)(K:CV->MH->PH->Prop):Prop:=
  ∃(I:Bool->Prop),eJ v.op 9 (∃(x:Bool),aA (I x) fO (aA (uK x) (eT v) (eH m m h h))) (∃(x:Bool),aA (I x) fO (aA (gH (v.op==10) x) (eT v) (eH m m h h)))/\∀(x:Bool),FX (I x) (λI1=>eJ v.op 1 (∃(x1:Bool×Bool),aA (I1 x1) fO (aA (gH x x1.1) (uK x1.2) (dE (eT v) m m h h))) (∃(x1:Bool×Bool),aA (I1 x1) fO (aA (gH x x1.1) (gH (v.table==0) x1.2) (dE (eT v) m m h h)))) (λI1 x1=>FX (I1 x1) (λI2=>branch x1.2 (eJ v.op 2 (∃(x2:Bool×Bool),aA (I2 x2) fO (aA (gH x1.1 x2.1) (uK x2.2) (dE (eT v) m m h h))) (FW (λv1 w p q=>aH (bI (eN v.where_) (jM (oZ dA TL (aY dA dA (aY dA TL iQ))))=bI (eN v1) (eN w)) (fF h p v1) (fF h q w) (∀(r:Bool),gC r (p=q)->
 Dz I2 x1 (λx2=>gH r x2.2) v m h)))) (∃(x2:Bool×Bool),aA (I2 x2) fO (aA (gH x1.1 x2.1) (AH x2.2) (dE (eT v) m m h h)))) (λI2 x2=>FX (I2 x2) (λI3=>branch x2.2 (eJ v.op 3 (∃(x3:Bool×Bool),aA (I3 x3) fO (aA (gH x2.1 x3.1) (uK x3.2) (dE (eT v) m m h h))) (Dz I3 x2 (λx3=>gH (aG v.columns==0) x3.2) v m h)) (∃(x3:Bool×Bool),aA (I3 x3) fO (aA (gH x2.1 x3.1) (AH x3.2) (dE (eT v) m m h h)))) (λI3 x3=>FX (I3 x3) (λI4=>branch x3.2 (dH (v.op==4) (Dz I4 x3 (λx4=>uK x4.2) v m h) (v.op==5) (Dz I4 x3 (λx4=>uK x4.2) v m h) (Dz I4 x3 (λx4=>gH (aG v.on==0) x4.2) v m h)) (∃(x4:Bool×Bool),aA (I4 x4) fO (aA (gH x3.1 x4.1) (AH x4.2) (dE (eT v) m m h h)))) (λI4 x4=>gU
 (I4 x4) x4.2 (dH x4.1 (K gE m h) (aG v.group==0) (eJ (aG v.order) 0 (K (A7 (v.limit==0)) m h) (K bA m h)) (K bA m h)) (K bA m h)))))
abbrev dM(a:CV->MH->PH->Prop)(b:Int)(c:MH)(d:PH):Prop:=a (CV.tup (bU Dc b)) c d
noncomputable abbrev dR(a:Sl):Sl:=Sl.mk a.a a.len a.cap
noncomputable abbrev kJ(a:List (List Value)):Int:=(↑a.length:Int)
abbrev xJ(a:PH)(b:List (List Value))(c:CV->MH->PH->Prop)(d:MH):Prop:=aX a 1 b (λx x1=>c (CV.tup (bU (kU x) 0)) d x1)
noncomputable abbrev vG(a:Nat×Sl×Sl×List Int×PH):Sl:=a.2.2.1
noncomputable abbrev Ab(a:Nat×Sl×Sl×List Int×PH):List Int:=a.2.2.2.1
noncomputable abbrev vH(a:Nat×Sl×Sl×List Int×PH):Nat->Nat->Option Value:=a.2.2.2.2
abbrev Kl(a:Sl->(List (Int×Int))->Prop):Prop:=∃(x:Sl)(x1:List (Int×Int)),a x x1
abbrev sJ(a b:List (List Value))(c:Nat):Prop:=iB ((a.length+b.length)*c)
abbrev zA(a:List (List Value))(b:Nat):Prop:=iB (a.length+b)
abbrev sK(a b:List (List Value)):Prop:=zA a b.length
attribute [push_cast] dM dR kJ xJ vG Ab vH Kl sJ zA sK
def KB(sc:bH)(p:Sl)(v:QV)(a b:Sl)(m:MH)(h:PH)(K:CV->MH->PH->Prop):Prop:=
  vB v.op (λo=>bD (arity o) 0 (dM K 100 m h) (kK (λv1 q=>aA (fH (bJ v) (bJ v1)) (dK h q v1) (∀(r:Bool),gU (gC r (eF q)) (!r) (dM K 100 m h) (∃(y:List (List Value)),aA (eV 1 y) (cW h (dR a) 1 y) (aA (iB (y.length*8)) (iB y.length) (dH (v.op==1) (bD v.table 0 (dM K 100 m h) (gQ v.table (iG sc) (dM K 100 m h) (BP (bU (jM (bR sc)) v.table) h (λs h1=>fC (aG s) 12 (dM K 2 m h1) (K (CV.tup (bU (kU s) 0)) m h1))))) (v.op==2) (DB (dP a (fW p (eN v.where_))) h (λc p1 p2=>dH (iS c p1 p2 !=0) (dM K (iS c p1 p2) m h) (decide (kJ y>12)) (dM K 2 m h) (xJ h y K m))) (dH (v.op==3) (eJ (aG v.columns) 0 (dM K 100 m h) (∃(I:Nat×Sl×Sl×List Int×PH->Prop)(m1:Nat×Sl×Sl×List
 Int×PH->Nat),(∃(x:Nat×Sl×Sl×List Int×PH),aA (I x) (aZ a x.2.1) (aA (eL 94) (aZ v.columns (vG x)) (aA (cH v.columns (vG x)) (bG x.1) (aA (qY (Ab x)) (m=m) (dC h (vH x))))))/\∀(x:Nat×Sl×Sl×List Int×PH),I x->bD (↑x.1:Int) (aG (vG x)) (aT (λb1 o1=>aH (aU (vG x).a b1 o1) (0<=(↑x.1:Int)) ((↑x.1:Int)<aG (vG x)) (∃(y1:Int),aM m (vH x) b1 (bB o1 x.1 1) (cK y1)/\FI x.2.1 y1 (vH x) (dM K 100 m (vH x)) (aT (λb2 o2=>aH (aU x.2.1.a b2 o2) (0<=y1) (y1<aG x.2.1) (∃(y2:Int),aH (aM m (vH x) b2 (fL o2 y1 1) (cK y2)) (DG (Ab x)) (iX (gZ (Ab x))) (∃(x1:Nat×Sl×Sl×List Int×PH),aA (I x1) (m1 x1<m1 x) (aA (aZ x.2.1 x1.2.1) (eL 94) (aA (aZ (vG
 x) (vG x1)) (cH (vG x) (vG x1)) (aA (gS (aW x.1 1)=bX x1.1) (qZ (Ab x) y2 (Ab x1)) (eH m m (vH x) (vH x1)))))))))))) (fC (kJ (gZ (Ab x))) 12 (dM K 2 m (vH x)) (aX (vH x) 1 (gZ (Ab x)) (λs h1=>K (CV.tup (bU (kU s) 0)) m h1))))) (v.op==4) (kV (λs t=>Kl (λu o1=>qK (λa1 b1=>aA (dP v.on (gP a b)=dP s (gP t u)) (mG h s o1) (aA (Ints h t a1) (Ints h u b1) (∀(r1:Bool),gC r1 (Good (Bc a1 b1) o1)->dH (!r1) (dM K 100 m h) (v.op==4) (∃(y1:List (List Value)),aA (eV 1 y1) (cW h (dR b) 1 y1) (aA (sJ y y1 8) (sK y y1) (fC (kJ (y++y1)) 12 (dM K 2 m h) (xJ h (y++y1) K m)))) (fC (kJ y) 12 (dM K 2 m h) (xJ h y K m)))))))) (dH (v.op==5) (kV (λs t=>
 Kl (λu o1=>qK (λa1 b1=>aA (dP v.on (gP a b)=dP s (gP t u)) (mG h s o1) (aA (Ints h t a1) (Ints h u b1) (∀(r1:Bool),gC r1 (Good (Bc a1 b1) o1)->dH (!r1) (dM K 100 m h) (v.op==4) (∃(y1:List (List Value)),aA (eV 1 y1) (cW h (dR b) 1 y1) (aA (sJ y y1 8) (sK y y1) (fC (kJ (y++y1)) 12 (dM K 2 m h) (xJ h (y++y1) K m)))) (fC (kJ y) 12 (dM K 2 m h) (xJ h y K m)))))))) (v.op==9) (∃(v2:QV),AL (λt g=>∃(o1:List (Int×Bool))(a1:List Int),aA (bI (bJ v) (kU a)=bI (bJ v2) (kU t)) (Ints h v2.group g) (aA (jC h v2.order o1) (Ints h t a1) (∀(r1:Bool),gC r1 (pR a1 g o1 v2.limit)->dH (!r1) (dM K 100 m h) (decide (kJ y>12)) (dM K 2 m h) (xJ h y K m))))) (DA a b h (λa1 b1 r1=>gC r1 (a1=
 b1)->dH (!r1) (dM K 100 m h) (v.op==10) (∃(v2:QV),AL (λt g=>∃(o1:List (Int×Bool))(a2:List Int),aA (bI (bJ v) (kU a)=bI (bJ v2) (kU t)) (Ints h v2.group g) (aA (jC h v2.order o1) (Ints h t a2) (∀(r2:Bool),gC r2 (pR a2 g o1 v2.limit)->dH (!r2) (dM K 100 m h) (decide (kJ y>12)) (dM K 2 m h) (xJ h y K m))))) (fC (kJ y) 12 (dM K 2 m h) (xJ h y K m)))))))))))))
theorem Em{α:Type}{n:Nat}{l:List α}(h:n=l.length):((n:Int)==0)=true↔l=[]:=by
 rw[beq_iff_eq,h, <-List.length_eq_zero_iff];omega
theorem Bm(h:PH):fF h iL ⟨0,0,eM,eM,⟨none,0,0⟩⟩:=fF.mk (v:=⟨0,0,eM,eM,⟨none,0,0⟩⟩) (.nil _ _ _ _)
theorem SY:Sound Tryz.prog 123 Uv:=by
 refine iJ Tryz.func123 ?_;rintro cvs m h K ⟨v,q,rfl,hq,hK⟩;refine⟨Xt v m h,rfl,aD Ss aF,MZ v m h K,by kernel_rfl,?_⟩;dsimp only[MZ,push_cast];obtain⟨op,ta,w,co,on,gr,od,li,args⟩:=q;have a:=hq.parts;have e0:=a.op_;have e1:=a.table_;have e2:=a.limit_;have l1:=Em a.columns_.slen;have l2:=Em a.on_.slen;have l3:=Em a.group_.slen;have l4:=Em a.order_.slen;simp only[eF]at hK;subst e0 e1 e2;refine⟨λr=>(r=true↔v.op=9\/v.op=10),aB (λh1=>⟨true,by simp at h1;simp[h1],MT⟩) (λh1=>⟨_,?_,MT⟩),λr hr=>?_⟩
 .simp only[beq_eq_false_iff_ne]at h1;simp[h1]
 refine⟨λx=>x.1=r/\(x.2=true↔(v.op=1\/v.table=0)),aB (λh1=>⟨(r,true),⟨rfl,by simp at h1;simp[h1]⟩,MT⟩) (λh1=>⟨(r,_),⟨rfl,?_⟩,MT⟩),?_⟩
 .simp only[beq_eq_false_iff_ne]at h1;simp[h1]
 rintro⟨r,c⟩ ⟨rfl,hc⟩;dsimp only at hc hr⊢
 refine⟨λx=>x.1=r/\(x.2=true↔(v.op=1\/v.table=0)/\(v.op=2\/w=iL)),aB (λh1=>aB (λh2=>⟨(r,true),⟨rfl,⟨λ_=>⟨hc.1 h1,.inl (by simpa using h2)⟩,λ_=>rfl⟩⟩,MT⟩) (λh2=>⟨v.where_,⟨0,0,eM,eM,⟨none,0,0⟩⟩,w,iL,rfl,a.where_,Bm h,λr' hr'=>⟨(r,r'),⟨rfl,?_⟩,MT⟩⟩)) (λh1=>⟨(r,false),⟨rfl,?_⟩,MT⟩),?_⟩
 .simp only[beq_eq_false_iff_ne]at h2;simp only[hr',hc.1 h1,h2,true_and,false_or]
 .rw[h1]at hc;simp only[Bool.false_eq_true,false_iff]at hc⊢;exactλe=>hc e.1
 clear hc c;rintro⟨r,c⟩ ⟨rfl,hc⟩;dsimp only at hc hr⊢
 refine⟨λx=>x.1=r/\(x.2=true↔(v.op=1\/v.table=0)/\(v.op=2\/w=iL)/\(v.op=3\/co=[])),aB (λh1=>aB (λh2=>⟨(r,true),⟨rfl,⟨λ_=>⟨(hc.1 h1).1,(hc.1 h1).2,.inl (by simpa using h2)⟩,λ_=>rfl⟩⟩,MT⟩) (λh2=>⟨(r,_),⟨rfl,?_⟩,MT⟩)) (λh1=>⟨(r,false),⟨rfl,?_⟩,MT⟩),?_⟩
 .simp only[beq_eq_false_iff_ne]at h2;simp only[l1,hc.1 h1,h2,true_and,false_or]
 .rw[h1]at hc;simp only[Bool.false_eq_true,false_iff]at hc⊢;exactλe=>hc ⟨e.1,e.2.1⟩
 clear hc c;rintro⟨r,c⟩ ⟨rfl,hc⟩;dsimp only at hc hr⊢
 refine⟨λx=>x.1=r/\(x.2=true↔(v.op=1\/v.table=0)/\(v.op=2\/w=iL)/\(v.op=3\/co=[])/\(v.op=4\/v.op=5\/on=[])),aB (λh1=>aB (λh2=>⟨(r,true),⟨rfl,⟨λ_=>⟨(hc.1 h1).1,(hc.1 h1).2.1,(hc.1 h1).2.2,.inl (by simpa using h2)⟩,λ_=>rfl⟩⟩,MT⟩) (λh2=>aB (λh3=>⟨(r,true),⟨rfl,⟨λ_=>⟨(hc.1 h1).1,(hc.1 h1).2.1,(hc.1 h1).2.2,.inr (.inl (by simpa using h3))⟩,λ_=>rfl⟩⟩,MT⟩) (λh3=>⟨(r,_),⟨rfl,?_⟩,MT⟩))) (λh1=>⟨(r,false),⟨rfl,?_⟩,MT⟩),?_⟩
 .simp only[beq_eq_false_iff_ne]at h2 h3;simp only[l2,hc.1 h1,h2,h3,true_and,false_or]
 .rw[h1]at hc;simp only[Bool.false_eq_true,false_iff]at hc⊢;exactλe=>hc ⟨e.1,e.2.1,e.2.2.1⟩
 clear hc c;rintro⟨r,c⟩ ⟨rfl,hc⟩;dsimp only at hc hr⊢
 refine aB (λh1=>aB (λh2=>hK true ⟨λ_=>?_,λ_=>rfl⟩) (λh2=>aB (λh3=>aB (λh4=>hK _ ?_) (λh4=>hK false ?_)) (λh3=>hK false ?_))) (λh1=>hK false ?_)
 .obtain⟨p1,p2,p3,p4⟩:=hc.1 h1;refine⟨p1,p2,p3,p4,?_⟩;rcases hr.1 h2 with e|e
  .exact .inl e
  .exact .inr (.inl e)
 .obtain⟨p1,p2,p3,p4⟩:=hc.1 h1;have nr:¬(v.op=9\/v.op=10):=λe=>by rw[hr.2 e]at h2;cases h2
  rw[beq_iff_eq];refine⟨λe=>⟨p1,p2,p3,p4,.inr (.inr ⟨l3.1 h3,l4.1 h4,e⟩)⟩,λe=>?_⟩;rcases e.2.2.2.2 with e|e|e
  .exact(nr (.inl e)).elim
  .exact(nr (.inr e)).elim
  .exact e.2.2
 .have nr:¬(v.op=9\/v.op=10):=λe=>by rw[hr.2 e]at h2;cases h2
  refine⟨λe=>(by cases e),λe=>?_⟩;rcases e.2.2.2.2 with e|e|e
  .exact(nr (.inl e)).elim
  .exact(nr (.inr e)).elim
  .rw[l4.2 e.2.1]at h4;cases h4
 .have nr:¬(v.op=9\/v.op=10):=λe=>by rw[hr.2 e]at h2;cases h2
  refine⟨λe=>(by cases e),λe=>?_⟩;rcases e.2.2.2.2 with e|e|e
  .exact(nr (.inl e)).elim
  .exact(nr (.inr e)).elim
  .rw[l3.2 e.1]at h3;cases h3
 .refine⟨λe=>(by cases e),λe=>?_⟩;rw[hc.2 ⟨e.1,e.2.1,e.2.2.1,e.2.2.2.1⟩]at h1;cases h1
theorem CH(l:List Int):eV 1 (l.map eI):=by
 constructor
 .intro e he;obtain⟨x,_,rfl⟩:=List.mem_map.1 he;rfl
 .intro e he u hu;obtain⟨x,_,rfl⟩:=List.mem_map.1 he;simp[eI]at hu;subst hu;rfl
theorem KR.err{r:List Int×Int}{e:Int}(hK:KR K m h r)(hle:PH.le h h')(he:r=jS e):K (.tup [.val (.slice none 0 0),.val (.int .i64 e)]) m h':=by
 subst he;exact hK ⟨none,0,0⟩ h' hle ⟨.nil _ _,by simp[jS]⟩
theorem KR.big{r:List Int×Int}(hK:KR K m h r)(hle:PH.le h h')(he:r=AO l)(hl:12<l.length):K (.tup [.val (.slice none 0 0),.val (.int .i64 2)]) m h':=
 hK.err hle (by rw[he,AO,if_neg aC];rfl)
theorem KR.ok{r:List Int×Int}{sl:Sl}(hK:KR K m h r)(hle:PH.le h h')(he:r=AO l)(hl:l.length<=12)(hi:cW h' sl 1 (l.map eI)):K (.tup [.val (.slice sl.a sl.len sl.cap),.val (.int .i64 0)]) m h':=by
 rw[he,AO,if_pos hl]at hK;exact hK sl h' hle ⟨hi,by show l.length<=17592186044416;omega⟩
theorem adJ{p:Sl}{a b:Sl}{la lb:List Int}(hs:gM h s sc)(h8:oY s)(hp:Ints h p ps)(hq:dK h q v)(ha:Ints h a la)(hb:Ints h b lb)(la12:la.length<=12)(lb12:lb.length<=12)(hK:KR K m h (iT s ps q la lb)):KB sc p v a b m h K:=by
 dsimp only[KB,push_cast];have hqr:=hq;obtain⟨op,ta,w,co,on,gr,od,li,args⟩:=q;have x:=hq.parts;have e0:=x.op_;have e1:=x.table_;have e2:=x.limit_;have hsl:=hs.tables.slen;have hal:=ha.slen;have hcl:=x.columns_.slen;have hclen:=x.columns_.len;subst e0 e1 e2;refine⟨v.op,rfl,aE (λh1=>hK.err (.refl _) ?_) (λh1=>⟨v,_,rfl,hqr,λr hr=>aB (λh2=>hK.err (.refl _) ?_) (λh2=>?_)⟩)⟩
 .unfold iT;rw[if_pos (.inl h1)]
 .unfold iT;rw[if_pos (.inr λe=>by rw[hr.2 e]at h2;cases h2)]
 have hu:eF (.mk v.op v.table w co on gr od v.limit args):=hr.1 (by simpa using h2);unfold iT at hK;rw[if_neg (λe=>e.elim h1 (λe=>e hu))]at hK;dsimp only at hK;clear hr h2;refine⟨la.map eI,CH _,ha.row,by simp;omega,by simp;omega,aB (λc1=>?_) (λc1=>aB (λc2=>?_) (λc2=>aB (λc3=>?_) (λc3=>aB (λc4=>?_) (λc4=>aB (λc5=>?_) (λc5=>aB (λc6=>?_) (λc6=>?_))))))⟩
 .rw[beq_iff_eq]at c1;rw[if_pos c1]at hK;refine aE (λd1=>hK.err (.refl _) (if_neg aC)) (λd1=>aE (λd2=>hK.err (.refl _) (if_neg aC)) (λd2=>⟨sc,s,v.table,rfl,hs,h8,λsl h' hle hi=>?_⟩));rw[if_pos aC]at hK;have:=hi.slen;exact aE (λd3=>hK.big hle rfl aC) (λd3=>hK.ok hle rfl aC hi.row)
 .rw[beq_eq_false_iff_ne]at c1;rw[beq_iff_eq]at c2;rw[if_neg c1,if_pos c2]at hK;refine⟨a,p,v.where_,la,ps,w,rfl,ha,hp,x.where_,aB (λd1=>hK.err (.refl _) (if_neg (by simpa using d1))) (λd1=>?_)⟩;rw[if_pos (by simpa using d1)]at hK;exact aE (λd3=>hK.big (.refl _) rfl (by simp at d3;omega)) (λd3 sl h' hle hi=>hK.ok hle rfl aC hi)
 .rw[beq_eq_false_iff_ne]at c1 c2;rw[beq_iff_eq]at c3;rw[if_neg c1,if_neg c2,if_pos c3]at hK;refine aB (λd1=>hK.err (.refl _) (if_neg λe=>e.1 ((Em hcl).1 d1))) (λd1=>?_);have hne:co≠[]:=λe=>by rw[(Em hcl).2 e]at d1;cases d1
  refine⟨λ⟨i,a',co',l,hx⟩=>a'=a/\co'=v.columns/\hx=h/\i<=co.length/\l=(co.take i).map (λc=>la.getD c.toNat 0)/\fG (λ_ c=>ES la c=true) co i,λ⟨i,_,_,_,_⟩=>co.length-i,⟨(0,a,v.columns,[],h),⟨rfl,rfl,rfl,aC,by simp,.zero⟩,MT⟩,?_⟩;rintro⟨i,a,_,l,h⟩ ⟨rfl,rfl,rfl,hi,rfl,hg⟩;dsimp only;refine aE (λhlt=>?_) (λhge=>?_)
  .obtain⟨c,hc⟩:=fI hcl hlt;obtain⟨b1,o1,ea1,r1⟩:=x.columns_.at' hc;refine⟨b1,o1,ea1,aC,hlt,c,.imm r1,a,la,c,rfl,ha,aB (λd2=>hK.err (.refl _) (if_neg λe=>?_)) (λd2=>?_)⟩
   .have:=e.2 i c hc;rw[this]at d2;cases d2
   have d2:ES la c=true:=by simpa using d2
   have d3:=lC.1 d2;obtain⟨b2,o2,ea2,r2⟩:=ha.inb d3.1 d3.2;refine⟨b2,o2,ea2,aC,aC,_,.imm r2,?_,?_,(i+1,a,v.columns,(co.take (i+1)).map (λc=>la.getD c.toNat 0),h),⟨rfl,rfl,rfl,aC,rfl,hg.succ hc d2⟩,by show co.length-(i+1)<co.length-i;omega,?_⟩
   .simp;omega
   .simp;omega
   .rw[gO hc,List.map_append];exact MT
  .rw[if_pos ⟨hne,hg.all aC⟩]at hK;rw[List.take_of_length_le aC];exact aE (λd3=>hK.big (.refl _) rfl (by simp at d3⊢;omega)) (λd3 sl h' hle hi=>hK.ok hle rfl (by simp at d3⊢;omega) hi)
 .rw[beq_eq_false_iff_ne]at c1 c2 c3;have c4':=beq_iff_eq.1 c4;rw[if_neg c1,if_neg c2,if_neg c3,if_pos c4']at hK;refine⟨v.on,a,b,on,la,lb,rfl,x.on_,ha,hb,λr hr=>aB (λd1=>hK.err (.refl _) (if_neg λe=>?_)) (λd1=>aB (λ_=>⟨lb.map eI,CH _,hb.row,by simp;omega,by simp;omega,?_⟩) (λd2=>?_))⟩
  .rw[hr.2 e]at d1;cases d1
  .rw[if_pos (hr.1 (by simpa using d1))]at hK;rw[<-List.map_append];exact aE (λd3=>hK.big (.refl _) rfl (by simp at d3⊢;omega)) (λd3 sl h' hle hi=>hK.ok hle rfl (by simp at d3⊢;omega) hi)
  .rw[c4]at d2;cases d2
 .rw[beq_eq_false_iff_ne]at c1 c2 c3;have c4':=beq_eq_false_iff_ne.1 c4;rw[beq_iff_eq]at c5;rw[if_neg c1,if_neg c2,if_neg c3,if_neg c4',if_pos c5]at hK;refine⟨v.on,a,b,on,la,lb,rfl,x.on_,ha,hb,λr hr=>aB (λd1=>hK.err (.refl _) (if_neg λe=>?_)) (λd1=>aB (λd2=>?_) (λd2=>?_))⟩
  .rw[hr.2 e]at d1;cases d1
  .rw[c4]at d2;cases d2
  .rw[if_pos (hr.1 (by simpa using d1))]at hK;exact aE (λd3=>hK.big (.refl _) rfl (by simp at d3;omega)) (λd3 sl h' hle hi=>hK.ok hle rfl aC hi)
 .rw[beq_eq_false_iff_ne]at c1 c2 c3 c4 c5;rw[beq_iff_eq]at c6;rw[if_neg c1,if_neg c2,if_neg c3,if_neg c4,if_neg c5,if_pos c6]at hK;refine⟨v,a,gr,od,la,rfl,x.group_,x.order_,ha,λr hr=>aB (λd1=>hK.err (.refl _) (if_neg λe=>?_)) (λd1=>?_)⟩
  .rw[hr.2 e]at d1;cases d1
  rw[if_pos (hr.1 (by simpa using d1))]at hK;exact aE (λd3=>hK.big (.refl _) rfl (by simp at d3;omega)) (λd3 sl h' hle hi=>hK.ok hle rfl aC hi)
 .rw[beq_eq_false_iff_ne]at c1 c2 c3 c4 c5 c6;rw[if_neg c1,if_neg c2,if_neg c3,if_neg c4,if_neg c5,if_neg c6]at hK;refine⟨a,b,la,lb,rfl,ha,hb,λr hr=>aB (λd1=>hK.err (.refl _) ?_) (λd1=>aB (λd2=>⟨v,a,gr,od,la,rfl,x.group_,x.order_,ha,λr2 hr2=>aB (λd4=>hK.err (.refl _) ?_) (λd4=>?_)⟩) (λd2=>?_))⟩
  .have hne:¬la=lb:=λe=>by rw[hr.2 e]at d1;cases d1
   by_cases h10:v.op=10
   .rw[if_pos h10,if_neg (λe=>hne e.1)]
   .rw[if_neg h10,if_neg hne]
  .rw[beq_iff_eq]at d2;rw[if_pos d2,if_neg λe=>by rw[hr2.2 e.2]at d4;cases d4]
  .rw[beq_iff_eq]at d2;rw[if_pos d2,if_pos ⟨hr.1 (by simpa using d1),hr2.1 (by simpa using d4)⟩]at hK;exact aE (λd3=>hK.big (.refl _) rfl (by simp at d3;omega)) (λd3 sl h' hle hi=>hK.ok hle rfl aC hi)
  .rw[beq_eq_false_iff_ne]at d2;rw[if_neg d2,if_pos (hr.1 (by simpa using d1))]at hK;exact aE (λd3=>hK.big (.refl _) rfl (by simp at d3;omega)) (λd3 sl h' hle hi=>hK.ok hle rfl aC hi)
theorem Vl:Sound Tryz.prog 95 Z1:=by
 refine iJ Tryz.func95 ?_;rintro cvs m h K ⟨sc,p,v,a,b,s,ps,q,la,lb,rfl,hs,h8,hp,hq,ha,hb,h1,h2,hK⟩;refine⟨YG m,rfl,aD Mi (aD SY (aD D0 (aD Hm (aD EX (aD SX (aD SU (aD SS aF))))))),KB sc p v a b m h K,by kernel_rfl,?_⟩;exact adJ hs h8 hp hq ha hb h1 h2 hK
mutual
noncomputable def cA(s:pV)(ps:List Int):Query->List Int×Int
 |.mk op ta w co on gr od li args=>
  match fT s ps args with
  |(ks,e)=>if e=0 then(if(ks.length:Int)=arity op then iT s ps (.mk op ta w co on gr od li args) (ks.getD 0 []) (ks.getD 1 [])else jS 100)else jS e
noncomputable def fT(s:pV)(ps:List Int):List Query->List (List Int)×Int
 |[]=>([],0)
 |q::qs=>
  match cA s ps q with
  |(k,e)=>if e=0 then(match fT s ps qs with|(ks,e')=>if e'=0 then(k::ks,0)else([],e'))else([],e)
end
theorem zG{s:pV}{ps:List Int}:∀{qs:List Query}{ks:List (List Int)},qs.map (cA s ps)=ks.map (λk=>(k,0))->fT s ps qs=(ks,0)
 |[],[],_=>by simp[fT]
 |q::qs,k::ks,h=>by
  simp only[List.map_cons,List.cons.injEq]at h;simp only[fT,h.1,zG h.2,if_true]
 |[],_::_,h=>by simp at h
 |_::_,[],h=>by simp at h
theorem CU{s:pV}{ps:List Int}{e:Int}(he:e≠0):∀{qs:List Query}{ks:List (List Int)}{i:Nat}{q:Query},(qs.take i).map (cA s ps)=ks.map (λk=>(k,0))->qs[i]? =some q->(cA s ps q).2=e->fT s ps qs=([],e)
 |[],_,_,_,_,h,_=>by simp at h
 |q::qs,_,0,q',_,h,h2=>by
  simp at h;subst h;simp only[fT,h2,if_neg he]
 |q::qs,[],i+1,_,h,_,_=>by simp at h
 |q::qs,k::ks,i+1,q',h,hq,h2=>by
  simp only[List.take_succ_cons,List.map_cons,List.cons.injEq]at h;have:=CU he h.2 (by simpa using hq) h2;simp only[fT,h.1,this,if_true,if_neg he]
theorem WJ(l:List Int):(AO l).1.length<=12:=by unfold AO;split<;>simp_all
theorem U6(s:pV)(ps:List Int)(q:Query)(a b:List Int):(iT s ps q a b).1.length<=12:=by
 obtain⟨op,ta,w,co,on,gr,od,li,args⟩:=q;unfold iT;dsimp only
 repeat' split
 all_goals first|exact WJ _|(simp[jS];done)
theorem B8(s:pV)(ps:List Int)(q:Query):(cA s ps q).1.length<=12:=by
 obtain⟨op,ta,w,co,on,gr,od,li,args⟩:=q;simp only[cA]
 repeat' split
 all_goals first|exact U6 .. |simp[jS]
noncomputable def fB(s:pV)(ps:List Int)(q:Query):List Int×Int:=
 if eG s=0 then(if ps.all cT=true then(if j9 q=true then cA s ps q else jS 2)else jS 1)else jS (eG s)
def Slices(h:PH)(ss:List Sl)(ks:List (List Int)):Prop:=ss.length=ks.length/\∀(j:Nat) s k,ss[j]? =some s->ks[j]? =some k->Ints h s k
theorem Slices.mono{ss:List Sl}(x:Slices h ss ks)(le:PH.le h h'):Slices h' ss ks:=⟨x.1,λj s k h1 h2=>(x.2 j s k h1 h2).mono le⟩
theorem Slices.snoc{ss:List Sl}{s:Sl}{k:List Int}(x:Slices h ss ks)(hi:Ints h s k):Slices h (ss++[s]) (ks++[k]):=by
 refine⟨by simp[x.1],λj s' k' h1 h2=>?_⟩;by_cases hj:j<ss.length
 .rw[List.getElem?_append_left hj]at h1;rw[List.getElem?_append_left (by rw[<-x.1];exact hj)]at h2;exact x.2 j s' k' h1 h2
 .rw[List.getElem?_append_right aC]at h1;rw[List.getElem?_append_right (by have:=x.1;omega), <-x.1]at h2;cases e:j-ss.length with
  |zero=>rw[e]at h1 h2;simp at h1 h2;subst h1 h2;exact hi
  |succ n=>rw[e]at h1;simp at h1
def v7(N:Nat):Vc.Spec:=λcvs m h K=>∃sc p v s ps q,cvs=[aS sc,cS p,aQ v]/\gM h s sc/\oY s/\Ints h p ps/\dK h q v/\SizeOf.sizeOf q<N/\KR K m h (cA s ps q)
def wM:Vc.Spec:=λcvs m h K=>∃sc p v s ps q,cvs=[aS sc,cS p,aQ v]/\gM h s sc/\Ints h p ps/\dK h q v/\KR K m h (fB s ps q)
noncomputable def YW(N:Nat)(sc:bH)(p:Sl)(v:QV)(m:MH):Ctx:=
 dN [(65,v7 N),(94,TI),(95,Z1)] [(3,{A:=Nat×List Sl×PH,st:=λ⟨i,ss,h⟩=>cE 58 61 [(1,sv p),(3,.at (.ptr 3 0)),(5,.at (.ptr 5 0)),(8,.at (.lst 35)),(14,iv v.args.len),(15,iv i)] [(3,.cells 43 (sc.enc.map .val)),(5,.cells 38 (v.enc.map .val)),(35,.lst 33 1 (ss.map eS))] m h})] [] [] false
abbrev uJ(a b:Nat)(c:List (List Value)):Prop:=dJ a b []=dJ a b c
noncomputable abbrev rL(a:List Sl):List (List Value):=List.map eS a
noncomputable abbrev sM(a:Nat×List Sl×PH):List (List Value):=rL a.2.1
noncomputable abbrev oH(a:Nat×List Sl×PH):Nat->Nat->Option Value:=a.2.2
abbrev CP(a:bH->Sl->Prop):Prop:=∃(x:bH)(x1:Sl),a x x1
abbrev zE(a:pV->(List Int)->Prop):Prop:=∃(x:pV)(x1:List Int),a x x1
abbrev DI(a:bH)(b:Sl)(c:QV)(d:PH)(e:Nat)(g:pV->(List Int)->Query->Sl->PH->Prop):Prop:=CP (λx x1=>∃(x2:QV),zE (λx3 x4=>∃(x5:Query),aA (bT (bR a) (fW b (bJ c))=bT (bR x) (fW x1 (bJ x2))) (gM d x3 x) (aA (oY x3) (Ints d x1 x4) (aA (dK d x5 x2) (sN x5 e) (kP (λx6 x7=>dZ d x7 (Ints x7 x6 (cA x3 x4 x5).1) (g x3 x4 x5 x6 x7)))))))
abbrev nM(a:List (List Value))(b:Nat)(c:Prop):Prop:=aA (iB ((a.length+1)*b)) (iX a) c
noncomputable abbrev kB(a:List (List Value))(b:Sl):List (List Value):=a++bL (aR b)
noncomputable abbrev FY(a:Nat×List Sl×PH):List (List Value):=sM a++iQ::bL iQ
abbrev tG(a:List (List Value))(b:Nat)(c:List Value):Prop:=a[b]? =Option.some c
abbrev Dv(a:Nat)(b c:List Value):Prop:=List.take a (List.drop 0 b)=c
attribute [push_cast] uJ rL sM oH CP zE DI nM kB FY tG Dv
def Qh(N:Nat)(sc:bH)(p:Sl)(v:QV)(m:MH)(h:PH)(K:CV->MH->PH->Prop):Prop:=
  ∃(I:Nat×List Sl×PH->Prop)(m1:Nat×List Sl×PH->Nat),(∃(x:Nat×List Sl×PH),aA (I x) (aK p) (aA iE dU (aA (eL 35) (bK v.args) (aA (bG x.1) (cG sc) (aA (eT v) (uJ 33 1 (sM x)) (aA (m=m) (h=oH x) True))))))/\∀(x:Nat×List Sl×PH),I x->bD (↑x.1:Int) (aG v.args) (aT (λb o=>aH (aU v.args.a b o) (0<=(↑x.1:Int)) ((↑x.1:Int)<aG v.args) (∃(y:QV),aM m (oH x) b (bB o x.1 21) y.enc/\DI sc p y (oH x) N (λs p1 q s1 h1=>fQ (cA s p1 q).2 0 (K (CV.tup (bI Dc (CV.val (eW (cA s p1 q).2)))) m h1) (nM (sM x) 24 (∃(x1:Nat×List Sl×PH),aA (I x1) (m1 x1<m1 x) (aA (aK p) iE (aA dU (eL 35) (aA (bK v.args) (gS (aW x.1 1)=bX x1.1) (aA (cG sc) (eT v) (aA (dJ 33 1 (kB (sM x) s1)=
 dJ 33 1 (sM x1)) (m=m) (dC h1 (oH x1))))))))))))) (∃(o:Int),hP (pH v.op o) (kJ (sM x) !=arity o) (dM K 100 m (oH x)) (aA (iB (((sM x).length+2)*24)) (zA (sM x) 2) (aA (cN 0) (0<kJ (FY x)) (∃(e:List Value),tG (FY x) 0 e/\∃(y:Sl),aH (Dv 1 e (aR y)) ((0:Int)<=1) (1<kJ (FY x)) (∃(e1:List Value),tG (FY x) 1 e1/\∃(y1:Sl),Dv 1 e1 (aR y1)/\CP (λs p1=>∃(v1:QV),kV (λa b=>zE (λs1 p2=>∃(q:Query),qK (λl l1=>aA (bT (bR sc) (dP p (bT v.enc (gP y y1)))=bT (bR s) (dP p1 (bT v1.enc (gP a b)))) (gM (oH x) s1 s) (aA (oY s1) (Ints (oH x) p1 p2) (aA (dK (oH x) q v1) (Ints (oH x) a l) (aA (Ints (oH x) b l1) (l.length<=12) (l1.length
 <=12/\kP (λs2 h1=>dZ (oH x) h1 (Ints h1 s2 (iT s1 p2 q l l1).1) (K (CV.tup (fW s2 (CV.val (eW (iT s1 p2 q l l1).2)))) m h1)))))))))))))))
abbrev FR(a:bH)(b:PH)(c:pV->Prop)(d:Prop):Prop:=jX (λx x1=>aA (fH (jM (bR a)) (jM (bR x))) (gM b x1 x) (fQ (eG x1) 0 (c x1) d))
attribute [push_cast] FR
def Qz(N:Nat)(sc:bH)(p:Sl)(v:QV)(m:MH)(h:PH)(K:CV->MH->PH->Prop):Prop:=
  FR sc h (λs=>dM K (eG s) m h) (AL (λs l=>aA (vT p s) (Ints h s l) (branch (!(EN l)) (dM K 1 m h) (kK (λv1 p1=>aA (fH (bJ v) (bJ v1)) (dK h p1 v1) (branch (!(j9 p1)) (dM K 2 m h) (DI sc p v h N (λs1 p2 q s2 h1=>K (CV.tup (fW s2 (CV.val (eW (cA s1 p2 q).2)))) m h1))))))))
theorem Hc{qs:List Query}(h:qs.map (cA s ps)=ks.map (λk=>(k,0)))(j:Nat):(ks.getD j []).length<=12:=by
 rw[List.getD_eq_getElem?_getD];cases e:ks[j]? with
 |none=>simp
 |some k=>
  have h1:(qs.map (cA s ps))[j]? =some (k,0):=by rw[h];simp[e]
  rw[List.getElem?_map,Option.map_eq_some_iff]at h1;obtain⟨q,_,h2⟩:=h1;have:=B8 s ps q;rw[h2]at this;simpa using this
theorem Slices.pick{ss:List Sl}(x:Slices h ss ks)(j:Nat)(hj:j<ss.length+2):∃y:Sl,(ss.map eS++[[.slice none 0 0],[.slice none 0 0]])[j]? =some [.slice y.a y.len y.cap]/\Ints h y (ks.getD j []):=by
 by_cases h1:j<ss.length
 .refine⟨ss[j],?_,?_⟩
  .rw[List.getElem?_append_left (by simpa using h1)];simp[h1,eS]
  .have h2:j<ks.length:=by rw[<-x.1];exact h1
   rw[List.getD_eq_getElem?_getD,List.getElem?_eq_getElem h2];exact x.2 j _ _ (List.getElem?_eq_getElem h1) (List.getElem?_eq_getElem h2)
 .refine⟨⟨none,0,0⟩,?_,?_⟩
  .rw[List.getElem?_append_right (by simpa using h1)];simp only[List.length_map];have:j-ss.length=0\/j-ss.length=1:=by omega
   rcases this with e|e<;>rw[e]<;>rfl
  .rw[List.getD_eq_getElem?_getD,List.getElem?_eq_none (by have:=x.1;omega)];exact⟨.nil _ _,by simp⟩
theorem Uh:∀N,Sound Tryz.prog 65 (v7 N)
 |0=>by
  refine fA (fn:=Tryz.f65) (c:=cQ Tryz.f65) Tryz.func65 rfl (by decide) ?_;rintro cvs m h K ⟨sc,p,v,s,ps,q,rfl,_,_,_,_,hN,_⟩;omega
 |N+1=>by
  refine iJ Tryz.func65 ?_;rintro cvs m h K ⟨sc,p,v,s,ps,q,rfl,hs,h8,hp,hq,hN,hK⟩;refine⟨YW N sc p v m,rfl,aD (Uh N) (aD Mi (aD Vl aF)),Qh N sc p v m h K,by kernel_rfl,?_⟩;dsimp only[Qh,push_cast];have hlt:=@AY q;have hqr:=hq;obtain⟨op,ta,w,co,on,gr,od,li,args⟩:=q;have x:=hq.parts;have e0:=x.op_;have hl:=x.args_.slen;have hlen:=x.args_.len;simp only[Query.args]at hlt;simp only[cA]at hK;refine⟨λ⟨i,ss,hx⟩=>i<=args.length/\PH.le h hx/\∃ks,Slices hx ss ks/\(args.take i).map (cA s ps)=ks.map (λk=>(k,0)),λ⟨i,_,_⟩=>args.length-i,⟨(0,[],h),⟨aC,.refl _,[],⟨rfl,λj s k h1=>by simp at h1⟩,by simp⟩,MT⟩,?_⟩;rintro⟨i,ss,hx⟩ ⟨hi,hle,ks,hS,hks⟩;have hkl:ks.length=i:=by have:=congrArg List.length hks;simp at this;omega
  have hsl:ss.length=i:=by rw[hS.1,hkl]
  dsimp only;refine aE (λhlt2=>?_) (λhge=>?_)
  .obtain⟨q',hq'⟩:=fI hl hlt2;obtain⟨b1,o1,u,ea1,r1,hru⟩:=(x.args_.mono hle).at hq';refine⟨b1,o1,ea1,aC,hlt2,u,.imm r1,sc,p,u,s,ps,q',rfl,hs.mono hle,h8,hp.mono hle,hru,?_,λsl h' hle' hi'=>aB (λh1=>?_) (λh1=>?_)⟩
   .have:=hlt (List.mem_of_getElem? hq');omega
   .have he:(cA s ps q').2≠0:=by simpa using h1
    rw[CU he hks hq' rfl]at hK;exact hK.err (hle.trans hle') (if_neg he)
   .have he:(cA s ps q').2=0:=by simpa using h1
    refine⟨by simp;omega,by simp;omega,(i+1,ss++[sl],h'),⟨aC,hle.trans hle',ks++[(cA s ps q').1],(hS.mono hle').snoc hi',?_⟩,by show args.length-(i+1)<args.length-i;omega,?_⟩
    .rw[gO hq',hks,List.map_append];simp only[List.map_cons,List.map_nil];rw[<-he]
    .rw[List.map_append];exact MT
  .rw[List.take_of_length_le aC]at hks;rw[zG hks]at hK;simp only[if_true]at hK;refine⟨v.op,rfl,aB (λh1=>hK.err hle (if_neg λe=>?_)) (λh1=>?_)⟩
   .rw[e0]at h1;simp at h1;omega
   have h1:(ss.length:Int)=arity op:=by rw[e0]at h1;simpa using h1
   rw[if_pos aC]at hK;obtain⟨y0,hy0,i0⟩:=hS.pick 0 aC;obtain⟨y1,hy1,i1⟩:=hS.pick 1 aC;exact⟨by simp;omega,by simp;omega,aC,by simp;omega,_,hy0,y0,rfl,aC,by simp;omega,_,hy1,y1,rfl,sc,p,v,y0,y1,s,ps,_,_,_,rfl,hs.mono hle,h8,hp.mono hle,hqr.mono hle,i0,i1,Hc hks 0,Hc hks 1,λsl h' hle' hi=>hK sl h' (hle.trans hle') hi⟩
theorem LS(h:eG s=0):oY s:=by
 have hl:Ci s:=Classical.byContradiction λhn=>by rw[uF hn]at h;cases h
 intro t ht;obtain⟨j,hj⟩:=List.mem_iff_getElem?.1 ht;exact(hl.2 j t hj).1
theorem Mq:Sound Tryz.prog 25 wM:=by
 refine iJ Tryz.func25 ?_;rintro cvs m h K ⟨sc,p,v,s,ps,q,rfl,hs,hp,hq,hK⟩;refine⟨dN [(63,yT),(64,Lo),(28,Uw),(65,v7 (SizeOf.sizeOf q+1))] [] [] [] false,rfl,aD Vw (aD Mn (aD VI (aD (Uh _) aF))),Qz (SizeOf.sizeOf q+1) sc p v m h K,by kernel_rfl,?_⟩;dsimp only[Qz,push_cast];unfold fB at hK;refine⟨sc,s,rfl,hs,aB (λh1=>hK.err (.refl _) (if_neg (by simpa using h1))) (λh1=>?_)⟩;have h1:eG s=0:=by simpa using h1
 rw[if_pos h1]at hK;refine⟨p,ps,rfl,hp,aB (λh2=>hK.err (.refl _) (if_neg λe=>by rw[e]at h2;cases h2)) (λh2=>?_)⟩;rw[if_pos (by rw[Bool.not_eq_false']at h2;exact h2)]at hK;refine⟨v,q,rfl,hq,aB (λh3=>hK.err (.refl _) (if_neg λe=>by rw[e]at h3;cases h3)) (λh3=>?_)⟩;rw[if_pos (by rw[Bool.not_eq_false']at h3;exact h3)]at hK;exact⟨sc,p,v,s,ps,q,rfl,hs,LS h1,hp,hq,aC,hK⟩
def aN(n:NV):CV:=.val (.agg ⟨n.enc⟩)
structure wY(h:PH)(s:pV)(ps:List Int)(q:Query)(ks:List (List Int))(n:NV):Prop where
 s_:gM h s n.s
 ps_:Ints h n.params ps
 q_:dK h q n.q
 ks_:bV h 1 eS (λk sl=>Ints h sl k) n.args ks
 len:∀k∈ks,k.length<=12
def Query.withOf(u q:Query):Query:=match u,q with|.mk _ ta w co on gr od li _,.mk op _ _ _ _ _ _ _ args=>.mk op ta w co on gr od li args
def AB:Vc.Spec:=λcvs m h K=>∃n k u s ps q ks uq,cvs=[aN n,cI k,aQ u]/\wY h s ps q ks n/\dK h uq u/\∀r:Bool,(r=true↔(ks.length:Int)=k/\q=uq.withOf q)->K (cB r) m h
def Lh:Vc.Spec:=λcvs m h K=>∃n s ps q ks,cvs=[aN n]/\wY h s ps q ks n/\K (aQ ⟨0,0,⟨0,0,eM,eM,⟨none,0,0⟩⟩,⟨none,0,0⟩,⟨none,0,0⟩,n.q.group,n.q.order,n.q.limit,⟨none,0,0⟩⟩) m h
def Li:Vc.Spec:=λcvs m h K=>∃n s ps q ks a,cvs=[aN n]/\wY h s ps q ks n/\ks[0]? =some a/\∀r:Bool,(r=true↔∃op ta w co on gr od li args,q= .mk op ta w co on gr od li args/\pR a gr od li)->K (cB r) m h
def IU(ks:List (List Int)):Query->Prop
 |.mk op ta w co on gr od li _=>ks.length=2/\ta=0/\w=iL/\co=[]/\gr=[]/\od=[]/\li=0/\Good (Bc (ks.getD 0 []) (ks.getD 1 [])) on
def Ll:Vc.Spec:=λcvs m h K=>∃n s ps q ks,cvs=[aN n]/\wY h s ps q ks n/\∀r:Bool,(r=true↔IU ks q)->K (cB r) m h
noncomputable def Xd(n:NV)(h:PH):Ctx:=
 wH [] [(4,{A:=Nat×Nat×Nat×MH,st:=λ⟨i,wd,b,mx⟩=>cE 72 73 [(1,.at (.ptr 1 0)),(3,iv wd),(4,vv (.pointer (some ⟨b,0,none⟩))),(16,sv n.q.group),(17,iv n.q.group.len),(18,iv i)] [(1,.cells 152 (n.enc.map .val))] mx h}),
  (11,{A:=Nat×Nat×MH,st:=λ⟨i,wd,mx⟩=>cE 72 73 [(1,.at (.ptr 1 0)),(3,iv wd),(39,sv n.q.order),(40,iv n.q.order.len),(41,iv i)] [(1,.cells 152 (n.enc.map .val))] mx h})] [] [] [226] [] false
noncomputable def Xf(n:NV)(h:PH):Ctx:=
 wH [(177,AB)] [(6,{A:=Nat×Sl×Sl×Nat×Nat×MH,st:=λ⟨i,s,t,b,c,mx⟩=>cE 80 81 [(3,sv s),(4,sv t),(5,vv (.pointer (some ⟨b,0,none⟩))),(6,vv (.pointer (some ⟨c,0,none⟩))),(28,sv n.q.on),(29,iv n.q.on.len),(30,iv i)] [] mx h})] [] [] [226] [] false
noncomputable abbrev nI(a:QV):Value:=eW a.table
noncomputable abbrev nH(a:QV):Value:=eW a.where_.op
noncomputable abbrev nJ(a:QV):Int:=a.where_.cmp
noncomputable abbrev iY(a:OV):Value:=eW a.kind
noncomputable abbrev iW(a:QV):OV:=a.where_.left
noncomputable abbrev rQ(a:OV):Value:=eW a.index
noncomputable abbrev rO(a:OV):Value:=eW a.value.int
noncomputable abbrev DH(a b:QV)(c:List Value):List Value:=aY (eW a.op) (nI b) (aY (nH b) (eW (nJ b)) (aY (iY (iW b)) (rQ (iW b)) (aY (eW (qO (iW b))) (rO (iW b)) c)))
noncomputable abbrev jI(a:OV):Value:=Value.string a.value.text
noncomputable abbrev fX(a:QV):OV:=a.where_.right
noncomputable abbrev oI(a:QV):Value:=eR a.where_.args
noncomputable abbrev oK(a:QV):Value:=eR a.columns
noncomputable abbrev rM(a:QV):Value:=eR a.group
noncomputable abbrev rN(a:QV):Value:=eR a.order
attribute [push_cast] nI nH nJ iY iW rQ rO DH jI fX oI oK rM rN
def MO(n:NV)(k:Int)(u:QV)(m:MH)(h:PH)(K:CV->MH->PH->Prop):Prop:=
  eJ (aG n.args) k (∃(v:QV),kK (λw p=>∃(q:Query),aH (bI (bJ n.q) (jM (DH n.q u (aY (jI (iW u)) (iY (fX u)) (aY (rQ (fX u)) (eW (qO (fX u))) (aY (rO (fX u)) (jI (fX u)) (aY (oI u) (oK u) (aY (eR u.on) (rM u) (aY (rN u) (eW u.limit) (aR n.q.args)))))))))=bI (bJ v) (bJ w)) (dK h p v) (dK h q w) (∀(r:Bool),gC r (p=q)->K (A7 r) m h))) (K bA m h)
noncomputable abbrev sG(a:Value)(b:List Value):List Value:=aY TL dA (aY dA dA (aY dA TL (aY tT a b)))
noncomputable abbrev I6(a:QV):List Value:=aY tT (rM a) (aY (rN a) (eW a.limit) iQ)
attribute [push_cast] sG I6
def ML(n:NV)(m:MH)(h:PH)(K:CV->MH->PH->Prop):Prop:=
  K (jM (oZ dA dA (sG tT (I6 n.q)))) m h
noncomputable abbrev uP:Value:=Value.bool false
abbrev I0(a:MH)(b:PH)(c:Nat->MH->Prop):Prop:=∀(x:Nat)(x1:MH),bC (cM a b x) (bE a x1 x (aY uP uP (aY uP uP (aY uP uP (aY uP uP (aY uP uP (aY uP uP [])))))) 226) (c x x1)
abbrev Jn(a:bH)(b:List At):Prop:=eQ (oQ 152 (gR (hX a.version) (tZ a.tables) b))
noncomputable abbrev vU(a:QV)(b c:At)(d:List At):List At:=pQ a.where_ (gR b c (gR (tZ a.group) (tZ a.order) d))
noncomputable abbrev wR(a:QV):At:=tZ a.columns
abbrev BF(a:NV):Prop:=Jn a.s (gR (tZ a.params) (hX a.q.op) (hX a.q.table::vU a.q (wR a.q) (tZ a.q.on) (gR (hX a.q.limit) (tZ a.q.args) (w8 a.args))))
attribute [push_cast] uP I0 Jn vU wR BF
def D2(n:NV)(m:MH)(h:PH)(K:CV->MH->PH->Prop):Prop:=
  aT (λb o=>aH (aU n.args.a b o) ((0:Int)<=0) (0<aG n.args) (∃(y:Sl),aM m h b (eC o) (aR y)/\I0 m h (λb1 m1=>∃(I:Nat×Nat×Nat×MH->Prop)(m2:Nat×Nat×Nat×MH->Nat),(∃(x:Nat×Nat×Nat×MH),aA (I x) fO (aA (bX y.len=bX x.2.1) (cF b1 (iV x.2)) (aA (aK n.q.group) (bK n.q.group) (aA (bG x.1) (BF n) (eH m1 (gI x.2) h h)))))/\∀(x:Nat×Nat×Nat×MH),I x->bD (↑x.1:Int) (aG n.q.group) (aT (λb2 o1=>aH (aU n.q.group.a b2 o1) (0<=(↑x.1:Int)) ((↑x.1:Int)<aG n.q.group) (∃(y1:Int),aM (gI x.2) h b2 (bB o1 x.1 1) (cK y1)/\bD y1 0 (nG K x.2 h) (gQ y1 (↑x.2.1:Int) (nG K x.2 h) (aA (cN y1) (y1<12) (∃(y2:Bool),aM (gI x.2) h (iV x.2) (fL 0 y1 1) (j6 (Value.bool y2))/\branch y2 (nG
 K x.2 h) (aA (cN y1) (y1<12) (eX (λc E=>aA (oX (gI x.2) (iV x.2) (dV c E 0)) (fL 0 y1 1<c.size) (∀(m3:MH),bE (gI x.2) m3 (iV x.2) (splice c.toList (fL 0 y1 1) (j6 BC)) E->∃(x1:Nat×Nat×Nat×MH),aA (I x1) (m2 x1<m2 x) (aA fO (bY x.2.1 x1.2.1) (aA (cF (iV x.2) (iV x1.2)) (aK n.q.group) (aA (bK n.q.group) (gS (aW x.1 1)=bX x1.1) (dE (BF n) m3 (gI x1.2) h h)))))))))))))) (∃(I1:Nat×Nat×MH->Prop)(m3:Nat×Nat×MH->Nat),Jy (λx1=>aA (I1 x1) fO (aA (bY x.2.1 (iV x1)) (aK n.q.order) (aA (bK n.q.order) (bG x1.1) (aA (BF n) (gI x.2=gI x1) (dC h h))))) (λx1=>I1 x1->bD (↑x1.1:Int) (aG n.q.order) (aT (λb2 o1=>aH (aU n.q.order.a b2 o1) (0<=(↑x1.1:Int)) ((↑x1.1:Int)<
 aG n.q.order) (∃(y1:Int×Bool),aM (gI x1) h b2 (bB o1 x1.1 2) (bW y1.1 y1.2)/\bD y1.1 0 (nG K x1 h) (gQ y1.1 (↑(iV x1):Int) (nG K x1 h) (∃(x2:Nat×Nat×MH),aA (I1 x2) (m3 x2<m3 x1) (aA fO (bY (iV x1) (iV x2)) (aA (aK n.q.order) (bK n.q.order) (aA (gS (aW x1.1 1)=bX x2.1) (BF n) (eH (gI x1) (gI x2) h h))))))))) (branch (decide (aG n.q.order<=12)) (gQ n.q.limit 0 (K (A7 (decide (n.q.limit<=100))) (gI x1) h) (nG K x1 h)) (nG K x1 h)))))))
abbrev BA(a:pV->(List Int)->Query->(List (List Int))->Prop):Prop:=zE (λx x1=>∃(x2:Query)(x3:List (List Int)),a x x1 x2 x3)
abbrev zZ(a:List CV)(b:NV->Int->QV->List CV)(c:PH)(d:Int->Query->(List (List Int))->Query->Bool->Prop):Prop:=∃(x:NV)(x1:Int)(x2:QV),BA (λx3 x4 x5 x6=>∃(x7:Query),aH (a=b x x1 x2) (wY c x3 x4 x5 x6 x) (dK c x7 x2) (∀(x8:Bool),d x1 x5 x6 x7 x8))
noncomputable abbrev gA(a:NV)(b:List Value):List Value:=aY (rQ (iW a.q)) (eW (qO (iW a.q))) (aY (rO (iW a.q)) (jI (iW a.q)) (aY (iY (fX a.q)) (rQ (fX a.q)) (aY (eW (qO (fX a.q))) (rO (fX a.q)) b)))
noncomputable abbrev uM(a:QV):Value:=eR a.args
noncomputable abbrev fY(a:NV):List Value:=aY (jI (fX a.q)) (oI a.q) (aY (oK a.q) (eR a.q.on) (aY (rM a.q) (rN a.q) (aY (eW a.q.limit) (uM a.q) (aR a.args))))
abbrev Ac(a:List (List Int))(b:Int)(c d:Query):Prop:=(↑a.length:Int)=b/\c=Query.withOf d c
noncomputable abbrev iP(a:Nat×Sl×Sl×Nat×Nat×MH):Nat×Nat×MH:=a.2.2.2
attribute [push_cast] BA zZ gA uM fY Ac iP
def D3(n:NV)(m:MH)(h:PH)(K:CV->MH->PH->Prop):Prop:=
  zZ (bT (aY (tW n.s) (tV n.s) (aY (eR n.params) (eW n.q.op) (aY (nI n.q) (nH n.q) (aY (eW (nJ n.q)) (iY (iW n.q)) (gA n (fY n)))))) (bI (fK 2) (jM (oZ dA dA (sG tT (aY (eR n.q.on) tT (aY tT dA iQ))))))) (λn1 k u=>bT (aY (tW n1.s) (tV n1.s) (aY (eR n1.params) (eW n1.q.op) (aY (nI n1.q) (nH n1.q) (aY (eW (nJ n1.q)) (iY (iW n1.q)) (gA n1 (fY n1)))))) (bI (fK k) (bJ u))) h (λk q k1 u r=>gU (gC r (Ac k1 k q u)) (!r) (K bA m h) (aT (λb o=>aH (aU n.args.a b o) ((0:Int)<=0) (0<aG n.args) (∃(y:Sl),aM m h b (eC o) (aR y)/\aT (λb1 o1=>aH (aU n.args.a b1 o1) ((0:Int)<=1) (1<aG n.args) (∃(y1:Sl),aM m h b1 (o1+1) (aR y1)/\I0 m h (λb2 m1=>I0 m1 h
 (λb3 m2=>∃(I:Nat×Sl×Sl×Nat×Nat×MH->Prop)(m3:Nat×Sl×Sl×Nat×Nat×MH->Nat),(∃(x:Nat×Sl×Sl×Nat×Nat×MH),aA (I x) (aZ y x.2.1) (aA (aZ y1 x.2.2.1) (cF b2 (iP x).1) (aA (cF b3 (iV (iP x))) (aK n.q.on) (aA (bK n.q.on) (bG x.1) (eH m2 (gI (iP x)) h h)))))/\∀(x:Nat×Sl×Sl×Nat×Nat×MH),I x->bD (↑x.1:Int) (aG n.q.on) (aT (λb4 o2=>aH (aU n.q.on.a b4 o2) (0<=(↑x.1:Int)) ((↑x.1:Int)<aG n.q.on) (∃(y2:Int×Int),aA (aM (gI (iP x)) h b4 (bB o2 x.1 2) (vJ y2)) (cN 0) (aA ((0:Int)<2) (cN 1) ((1:Int)<2/\bD y2.1 0 (nG K (iP x) h) (gQ y2.1 (aG x.2.1) (nG K (iP x) h) (bD y2.2 0 (nG K (iP x) h) (gQ y2.2 (aG x.2.2.1) (nG K (iP x) h) (aT (λb5 o3=>aH (aU
 x.2.1.a b5 o3) (0<=y2.1) (y2.1<aG x.2.1) (∃(y3:Int),aM (gI (iP x)) h b5 (fL o3 y2.1 1) (cK y3)/\aT (λb6 o4=>aH (aU x.2.2.1.a b6 o4) (0<=y2.2) (y2.2<aG x.2.2.1) (∃(y4:Int),aM (gI (iP x)) h b6 (fL o4 y2.2 1) (cK y4)/\fQ y3 y4 (nG K (iP x) h) (aA (cN y2.1) (y2.1<12) (∃(y5:Bool),aM (gI (iP x)) h (iP x).1 (fL 0 y2.1 1) (j6 (Value.bool y5))/\branch y5 (nG K (iP x) h) (aA (cN y2.2) (y2.2<12) (∃(y6:Bool),aM (gI (iP x)) h (iV (iP x)) (fL 0 y2.2 1) (j6 (Value.bool y6))/\branch y6 (nG K (iP x) h) (aA (cN y2.1) (y2.1<12) (eX (λc E=>aA (oX (gI (iP x)) (iP x).1 (dV c E 0)) (fL 0 y2.1 1<c.size) (∀(m4:MH),bE (gI (iP x)) m4 (iP x).1 (splice c.toList (fL 0 y2.1 1) (j6
 BC)) E->aA (cN y2.2) (y2.2<12) (eX (λc1 E1=>aA (oX m4 (iV (iP x)) (dV c1 E1 0)) (fL 0 y2.2 1<c1.size) (∀(m5:MH),bE m4 m5 (iV (iP x)) (splice c1.toList (fL 0 y2.2 1) (j6 BC)) E1->∃(x1:Nat×Sl×Sl×Nat×Nat×MH),aA (I x1) (m3 x1<m3 x) (aA (aZ x.2.1 x1.2.1) (aZ x.2.2.1 x1.2.2.1) (aA (cF (iP x).1 (iP x1).1) (cF (iV (iP x)) (iV (iP x1))) (aA (aK n.q.on) (bK n.q.on) (dE (gS (aW x.1 1)=bX x1.1) m5 (gI (iP x1)) h h)))))))))))))))))))))))))))) (K gE (gI (iP x)) h)))))))))
structure UT(m:MH)(b:Nat)(seen:List Int):Prop where
 ex:∃bs:List Bool,m b=some (.cells ⟨bs.map Value.bool⟩ 226 (0,0))/\bs.length=12/\∀k:Nat,k<12->(bs[k]? =some true↔(k:Int)∈seen)
theorem UT.zero(h:m b=some (.cells ⟨[.bool false,.bool false,.bool false,.bool false,.bool false,.bool false,.bool false,.bool false,.bool false,.bool false,.bool false,.bool false]⟩ 226 (0,0))):UT m b []:=
 ⟨⟨List.replicate 12 false,h,rfl,λk hk=>by rw[List.getElem?_replicate];simp[hk]⟩⟩
theorem UT.look{seen:List Int}(x:UT m b seen){n:Int}(h0:0<=n)(h1:n<12):∃y:Bool,aM m h b (0+n.toNat*1) [.bool y]/\(y=true↔n∈seen):=by
 obtain⟨bs,e,hl,hs⟩:=x.ex;have hk:n.toNat<bs.length:=by omega
 refine⟨bs[n.toNat],.lent _ _ _ e ?_,?_⟩
 .simp only[Nat.zero_add,Nat.mul_one,List.length_cons,List.length_nil];rw[List.drop_eq_getElem_cons (by simpa using hk)];simp
 .have:=hs n.toNat aC;rw[List.getElem?_eq_getElem hk]at this;rw[show((n.toNat:Nat):Int)=n by omega]at this;simpa using this
theorem UT.store{seen:List Int}(x:UT m b seen){n:Int}(h0:0<=n)(h1:n<12):∃(cs:Array Value)(E:TypeId),oX m b (.cells cs E (0,0))/\0+n.toNat*1<cs.size/\∀m',fV m m' b (.cells ⟨splice cs.toList (0+n.toNat*1) [.bool true]⟩ E (0,0))->UT m' b (seen++[n]):=by
 obtain⟨bs,e,hl,hs⟩:=x.ex;have hk:n.toNat<bs.length:=by omega
 refine⟨_,_,⟨e⟩,by simpa using hk,λm' hu=>⟨bs.set n.toNat true,?_,by simpa using hl,λk hk'=>?_⟩⟩
 .rw[hu.at_];congr 3;simp only[splice,Nat.zero_add,Nat.mul_one,List.length_cons,List.length_nil];rw[List.set_eq_take_append_cons_drop,if_pos hk];simp[List.map_take,List.map_drop]
 .rw[List.getElem?_set,List.mem_append,List.mem_singleton];by_cases e':n.toNat=k
  .subst e';rw[if_pos rfl,if_pos hk];exact⟨λ_=>.inr aC,λ_=>rfl⟩
  .rw[if_neg e',hs k hk'];exact⟨.inl,λh=>h.elim id λe=>by omega⟩
theorem UT.other{b':Nat}{seen:List Int}(x:UT m b seen)(hne:b≠b')(ho:∀c,c≠b'->m' c=m c):UT m' b seen:=by
 obtain⟨bs,e,hl,hs⟩:=x.ex;exact⟨bs,by rw[ho b hne,e],hl,hs⟩
theorem wY.arg{n:NV}(x:wY h s ps q ks n){j:Nat}{k:List Int}(hk:ks[j]? =some k):∃b o sl,n.args.a=some ⟨b,o,none⟩/\bF h b (o+j*1) [.slice sl.a sl.len sl.cap]/\Ints h sl k/\k.length<=12/\j<n.args.len:=by
 obtain⟨b,o,sl,e,r,hi⟩:=x.ks_.at hk;have:=(List.getElem?_eq_some_iff.1 hk).1;exact⟨b,o,sl,e,r,hi,x.len k (List.mem_of_getElem? hk),by rw[x.ks_.slen];exact this⟩
theorem Zh{n:NV}(hK:K (aQ ⟨0,0,⟨0,0,eM,eM,⟨none,0,0⟩⟩,⟨none,0,0⟩,⟨none,0,0⟩,n.q.group,n.q.order,n.q.limit,⟨none,0,0⟩⟩) m h):ML n m h K:=hK
theorem rR:Sound Tryz.prog 177 AB:=by
 refine iJ Tryz.func177 ?_;rintro cvs m h K ⟨n,k,u,s,ps,q,ks,uq,rfl,hn,hu,hK⟩;refine⟨dN [(204,amX)] [] [] [] false,rfl,aD Sg aF,MO n k u m h K,by kernel_rfl,?_⟩;dsimp only[MO,push_cast];have hl:=hn.ks_.slen;have hq:=hn.q_;have hq2:=hn.q_;obtain⟨op,ta,w,co,on,gr,od,li,args⟩:=q;obtain⟨op',ta',w',co',on',gr',od',li',args'⟩:=uq;have x:=hu.parts;have y:=hq.parts;refine aB (λh1=>⟨n.q,⟨n.q.op,u.table,u.where_,u.columns,u.on,u.group,u.order,u.limit,n.q.args⟩,_,.mk op ta' w' co' on' gr' od' li' args,rfl,hq2,oP.rep ⟨y.op_,x.table_,x.where_,x.columns_,x.on_,x.group_,x.order_,x.limit_,y.args_⟩,λr hr=>hK r (hr.trans ⟨λe=>⟨?_,e⟩,λe=>e.2⟩)⟩) (λh1=>hK false ⟨λe=>(by cases e),λe=>?_⟩)
 .have:(n.args.len:Int)=k:=by simpa using h1
  omega
 .have:(n.args.len:Int)≠k:=by simpa using h1
  have:=e.1;omega
theorem KS:Sound Tryz.prog 181 Lh:=by
 refine iJ Tryz.func181 ?_;rintro cvs m h K ⟨n,s,ps,q,ks,rfl,hn,hK⟩;refine⟨dN [] [] [] [] false,rfl,aF,ML n m h K,by kernel_rfl,?_⟩;exact Zh hK
theorem Zg{n:NV}{op:Int}{on:List (Int×Int)}{args:List Query}(hn:wY h s ps (.mk op ta w co on gr od li args) ks n)(ha:ks[0]? =some a)(hK:∀r:Bool,(r=true↔pR a gr od li)->K (cB r) m h):D2 n m h (lE h K):=by
 dsimp only[D2,push_cast];have x:=hn.q_.parts;have gl:=x.group_.slen;have glen:=x.group_.len;have ol:=x.order_.slen;have olen:=x.order_.len;have el:=x.limit_;obtain⟨b0,o0,sl,e0,r0,hi0,hl12,hlen⟩:=hn.arg ha;have sla:=hi0.slen;have bad:∀mx,Sub m mx->¬pR a gr od li->lE h K (.val (.bool false)) mx h:=λmx hm hn=>.sub hm (hK false ⟨λe=>(by cases e),λe=>(hn e).elim⟩);refine⟨b0,o0,e0,aC,aC,sl,.imm (by simpa using r0),λb m1 hb hm1=>?_⟩;refine⟨λ⟨i,wd,b',mx⟩=>wd=a.length/\b'=b/\i<=gr.length/\Sub m mx/\UT mx b (gr.take i)/\fG (HY a) gr i,λ⟨i,_,_,_⟩=>gr.length-i,⟨(0,sl.len,b,m1),⟨sla,rfl,aC,(Sub.refl m).upd hb.m_ hm1.other,.zero hm1.at_,.zero⟩,MT⟩,?_⟩;rintro⟨i,wd,b,mx⟩ ⟨rfl,rfl,hi,hsub,harr,hg⟩;dsimp only;refine aE (λhlt=>?_) (λhge=>?_)
 .obtain⟨c,hc⟩:=fI gl hlt;obtain⟨b1,o1,e1,r1⟩:=x.group_.at' hc;have gbad:¬HY a (gr.take i) c->lE h K (.val (.bool false)) mx h:=λhn=>bad mx hsub λhh=>Good.not hc hn hh.group_;refine⟨b1,o1,e1,aC,hlt,c,.imm r1,aE (λh1=>gbad λhh=>?_) (λh1=>aE (λh2=>gbad λhh=>?_) (λh2=>?_))⟩
  .have:=lC.1 hh.1;omega
  .have:=lC.1 hh.1;omega
  obtain⟨y,hy,hys⟩:=harr.look (h:=h) (n:=c) aC aC;refine⟨aC,aC,y,hy,aB (λh3=>gbad λhh=>hh.2 (hys.1 h3)) (λh3=>?_)⟩;obtain⟨cs,E,hat,hsz,hst⟩:=harr.store (n:=c) aC aC;refine⟨aC,aC,cs,E,hat,hsz,λm2 hm2=>⟨(i+1,a.length,b,m2),⟨rfl,rfl,aC,hsub.upd hb.m_ hm2.other,?_,hg.succ hc ⟨lC.2 ⟨aC,aC⟩,λe=>?_⟩⟩,by show gr.length-(i+1)<gr.length-i;omega,MT⟩⟩
  .have:=hst m2 hm2
   rwa [List.take_add_one,hc]
  .rw[hys.2 e]at h3;cases h3
 have gg:=hg.all aC;refine⟨λ⟨i,wd,mx⟩=>wd=a.length/\i<=od.length/\Sub m mx/\fG (Lm a) od i,λ⟨i,_,_⟩=>od.length-i,⟨(0,a.length,mx),⟨rfl,aC,hsub,.zero⟩,MT⟩,?_⟩;clear hi hg hge hsub harr mx;rintro⟨i,wd,mx⟩ ⟨rfl,hi,hsub,hoi⟩;dsimp only;refine aE (λhlt=>?_) (λhge=>?_)
 .obtain⟨c,hc⟩:=fI ol hlt;obtain⟨b1,o1,e1,r1⟩:=x.order_.at hc;have obad:¬Lm a (od.take i) c->lE h K (.val (.bool false)) mx h:=λhn=>bad mx hsub λhh=>Good.not hc hn hh.order_;refine⟨b1,o1,e1,aC,hlt,c,.imm r1,aE (λh1=>obad λhh=>?_) (λh1=>aE (λh2=>obad λhh=>?_) (λh2=>⟨(i+1,a.length,mx),⟨rfl,aC,hsub,hoi.succ hc (lC.2 ⟨aC,aC⟩)⟩,by show od.length-(i+1)<od.length-i;omega,MT⟩))⟩
  .have:=lC.1 (show ES a c.1=true from hh);omega
  .have:=lC.1 (show ES a c.1=true from hh);omega
 have oo:=hoi.all aC;rw[el];refine aE (λh1=>aE (λh2=>?_) (λh2=>bad mx hsub λhh=>?_)) (λh1=>bad mx hsub λhh=>?_)
 .exact .sub hsub (hK (decide (li<=100)) ⟨λe=>⟨gg,oo,aC,h2,by simpa using e⟩,λe=>decide_eq_true e.high⟩)
 .have:=hh.low;omega
 .have:=hh.len_;omega
theorem KO:Sound Tryz.prog 182 Li:=by
 refine Gm Tryz.func182 ?_;rintro cvs m h K ⟨n,s,ps,q,ks,a,rfl,hn,ha,hK⟩;refine⟨Xd n h,rfl,aF,D2 n m h (lE h K),by kernel_rfl,?_⟩;dsimp only[D2,push_cast];obtain⟨op,ta,w,co,on,gr,od,li,args⟩:=q;refine Zg hn ha (λr hr=>hK r (hr.trans ⟨λe=>⟨_,_,_,_,_,_,_,_,_,rfl,e⟩,?_⟩));rintro⟨_,_,_,_,_,_,_,_,_,e,hr⟩;cases e;exact hr
theorem Rq{on:List (Int×Int)}{sl:Sl}(hon:mG h sl on):dK h (.mk 0 0 iL [] on [] [] 0 []) ⟨0,0,⟨0,0,eM,eM,⟨none,0,0⟩⟩,⟨none,0,0⟩,sl,⟨none,0,0⟩,⟨none,0,0⟩,0,⟨none,0,0⟩⟩:=
 oP.rep ⟨rfl,rfl,Bm h,⟨.nil _ _,by simp⟩,hon,⟨.nil _ _,by simp⟩,⟨.nil _ _,by simp⟩,rfl,.nil _ _ _ _⟩
theorem KT:Sound Tryz.prog 178 Ll:=by
 refine Gm Tryz.func178 ?_;rintro cvs m h K ⟨n,s,ps,q,ks,rfl,hn,hK⟩;refine⟨Xf n h,rfl,aD rR aF,D3 n m h (lE h K),by kernel_rfl,?_⟩;dsimp only[D3,push_cast];obtain⟨op,ta,w,co,on,gr,od,li,args⟩:=q;show D3 n m h (lE h K);dsimp only[D3,push_cast];have x:=hn.q_.parts;have ol:=x.on_.slen;have olen:=x.on_.len;have bad:∀mx,Sub m mx->¬IU ks (.mk op ta w co on gr od li args)->lE h K (.val (.bool false)) mx h:=λmx hm hn=>.sub hm (hK false ⟨λe=>(by cases e),λe=>(hn e).elim⟩);refine⟨n,2,⟨0,0,⟨0,0,eM,eM,⟨none,0,0⟩⟩,⟨none,0,0⟩,n.q.on,⟨none,0,0⟩,⟨none,0,0⟩,0,⟨none,0,0⟩⟩,s,ps,_,ks,.mk 0 0 iL [] on [] [] 0 [],rfl,hn,Rq x.on_,λr hr=>aB (λh1=>bad m (Sub.refl m) λhh=>?_) (λh1=>?_)⟩
 .have:r=true:=hr.2 ⟨by have:=hh.1;omega,by obtain⟨_,rfl,rfl,rfl,rfl,rfl,rfl,_⟩:=hh;rfl⟩;rw[this]at h1;cases h1
 obtain⟨hk2,heq⟩:=hr.1 (by simpa using h1);simp only[Query.withOf,Query.mk.injEq]at heq;obtain⟨_,rfl,rfl,rfl,_,rfl,rfl,rfl,_⟩:=heq
 obtain⟨a0,a1,rfl⟩:∃a0 a1,ks=[a0,a1]:=by
  match ks,hk2 with
  |[a0,a1],_=>exact⟨a0,a1,rfl⟩
  |[],h=>simp at h
  |[_],h=>simp at h
  |_::_::_::_,h=>simp at h;omega
 obtain⟨b0,o0,s0,e0,r0,i0,l0,j0⟩:=hn.arg (j:=0) rfl;obtain⟨b1,o1,s1,e1,r1,i1,l1,j1⟩:=hn.arg (j:=1) rfl;have sl0:=i0.slen;have sl1:=i1.slen;have bad:∀mx,Sub m mx->¬Good (Bc a0 a1) on->lE h K (.val (.bool false)) mx h:=λmx hm hn=>bad mx hm λhh=>hn hh.2.2.2.2.2.2.2;refine⟨b0,o0,e0,aC,aC,s0,.imm (by simpa using r0),b1,o1,e1,aC,aC,s1,.imm (by simpa using r1),λb m1 hb hm1 c m2 hc hm2=>?_⟩;have hne:b≠c:=λe=>by have:=hc.m_;rw[<-e,hm1.at_]at this;cases this
 have hs1:Sub m m1:=(Sub.refl m).upd hb.m_ hm1.other;have hcm:m c=none:=hs1.free hc.m_
 refine⟨λ⟨i,s',t',b',c',mx⟩=>s'=s0/\t'=s1/\b'=b/\c'=c/\i<=on.length/\Sub m mx/\UT mx b ((on.take i).map Prod.fst)/\UT mx c ((on.take i).map Prod.snd)/\fG (Bc a0 a1) on i,λ⟨i,_,_,_,_,_⟩=>on.length-i,
  ⟨(0,s0,s1,b,c,m2),⟨rfl,rfl,rfl,rfl,aC,hs1.upd hcm hm2.other,(UT.zero hm1.at_).other hne hm2.other,.zero hm2.at_,.zero⟩,MT⟩,?_⟩
 rintro⟨i,s0,s1,b,c,mx⟩ ⟨rfl,rfl,rfl,rfl,hi,hsub,hA,hB,hg⟩;dsimp only;refine aE (λhlt=>?_) (λhge=>.sub hsub (hK true ⟨λ_=>⟨rfl,rfl,rfl,rfl,rfl,rfl,rfl,hg.all aC⟩,λ_=>rfl⟩));obtain⟨p,hp⟩:=fI ol hlt;obtain⟨bp,op',ep,rp⟩:=x.on_.at hp;have pbad:¬Bc a0 a1 (on.take i) p->lE h K (.val (.bool false)) mx h:=λhn=>bad mx hsub (Good.not hp hn);refine⟨bp,op',ep,aC,hlt,p,.imm rp,aC,aC,aC,aC,aE (λd1=>pbad λhh=>?_) (λd1=>aE (λd2=>pbad λhh=>?_) (λd2=>aE (λd3=>pbad λhh=>?_) (λd3=>aE (λd4=>pbad λhh=>?_) (λd4=>?_))))⟩
 .have:=lC.1 hh.1;omega
 .have:=lC.1 hh.1;omega
 .have:=lC.1 hh.2.1;omega
 .have:=lC.1 hh.2.1;omega
 obtain⟨b2,o2,e2,r2⟩:=i0.inb (n:=p.1) aC aC;obtain⟨b3,o3,e3,r3⟩:=i1.inb (n:=p.2) aC aC;obtain⟨y,hy,hys⟩:=hA.look (h:=h) (n:=p.1) aC aC;obtain⟨z,hz,hzs⟩:=hB.look (h:=h) (n:=p.2) aC aC;obtain⟨cs,E,hat,hsz,hst⟩:=hA.store (n:=p.1) aC aC;refine⟨b2,o2,e2,aC,aC,_,.imm r2,b3,o3,e3,aC,aC,_,.imm r3,aB (λd5=>pbad λhh=>?_) (λd5=>⟨aC,aC,y,hy,aB (λd6=>pbad λhh=>?_) (λd6=>⟨aC,aC,z,hz,aB (λd7=>pbad λhh=>?_) (λd7=>⟨aC,aC,cs,E,hat,hsz,λm3 hm3=>?_⟩)⟩)⟩)⟩
 .rw[hh.2.2.1]at d5;simp at d5
 .obtain⟨q,hq,e⟩:=List.mem_map.1 (hys.1 d6);exact(hh.2.2.2 q hq).1 e
 .obtain⟨q,hq,e⟩:=List.mem_map.1 (hzs.1 d7);exact(hh.2.2.2 q hq).2 e
 have hA3:=hst m3 hm3;have hB3:=hB.other hne.symm hm3.other;obtain⟨cs2,E2,hat2,hsz2,hst2⟩:=hB3.store (n:=p.2) aC aC;refine⟨aC,aC,cs2,E2,hat2,hsz2,λm4 hm4=>⟨(i+1,s0,s1,b,c,m4),⟨rfl,rfl,rfl,rfl,aC,(hsub.upd hb.m_ hm3.other).upd hcm hm4.other,?_,?_,hg.succ hp ⟨lC.2 ⟨aC,aC⟩,lC.2 ⟨aC,aC⟩,by simpa using d5,λq hq=>⟨λe=>?_,λe=>?_⟩⟩⟩,by show on.length-(i+1)<on.length-i;omega,MT⟩⟩
 .rw[gO hp];exact hA3.other hne hm4.other
 .rw[gO hp];exact hst2 m4 hm4
 .rw[hys.2 (List.mem_map.2 ⟨q,hq,e⟩)]at d6;cases d6
 .rw[hzs.2 (List.mem_map.2 ⟨q,hq,e⟩)]at d7;cases d7
def fin(r:List Int×Int):List Int×Int:=if r.2=0 then AO r.1 else jS r.2
def Query.op:Query->Int
 |.mk op .. =>op
noncomputable def xB(s:pV)(ps:List Int)(q:Query)(ks:List (List Int)):List Int×Int:=if(ks.length:Int)=arity q.op then iT s ps q (ks.getD 0 []) (ks.getD 1 [])else jS 100
def xC(P:Int->Prop):Vc.Spec:=λcvs m h K=>∃n s ps q ks,cvs=[aN n]/\wY h s ps q ks n/\oY s/\P q.op/\∀r,fin r=xB s ps q ks->KR K m h r
def akJ(h:PH)(ss:Sl)(ks:List (List Int)):Prop:=bV h 1 eS (λk sl=>Ints h sl k) ss ks
def JJ:Vc.Spec:=λcvs m h K=>∃ss ks,cvs=[cS ss]/\akJ h ss ks/\ks.length<=10/\(∀k∈ks,k.length<=12)/\∀sl h',PH.le h h'->Ints h' sl ks.flatten->K (cS sl) m h'
noncomputable def Xm(n:NV)(m:MH)(h:PH):Ctx:=
 dN [(177,AB)] [(5,{A:=Nat×List Int,st:=λ⟨i,l⟩=>cE 57 58 [(1,.at (.ptr 1 0)),(4,.at (.lst 25)),(28,sv n.q.columns),(29,iv n.q.columns.len),(30,iv i)] [(1,.cells 152 (n.enc.map .val)),(25,.lst 3 1 (l.map eI))] m h})] [] [] false
noncomputable abbrev y9(a:List Value):List Value:=aY tT tT (aY tT dA a)
noncomputable abbrev xX(a b:Value):List Value:=aY a b (aY dA dA (aY dA dA (aY dA dA (sG tT (y9 iQ)))))
attribute [push_cast] y9 xX
def Ea(n:NV)(m:MH)(h:PH)(K:CV->MH->PH->Prop):Prop:=
  zZ (bT (aY (tW n.s) (tV n.s) (aY (eR n.params) (eW n.q.op) (aY (nI n.q) (nH n.q) (aY (eW (nJ n.q)) (iY (iW n.q)) (gA n (fY n)))))) (bI (fK 0) (jM (xX dA (nI n.q))))) (λn1 k u=>bT (aY (tW n1.s) (tV n1.s) (aY (eR n1.params) (eW n1.q.op) (aY (nI n1.q) (nH n1.q) (aY (eW (nJ n1.q)) (iY (iW n1.q)) (gA n1 (fY n1)))))) (bI (fK k) (bJ u))) h (λk q k1 u r=>gU (gC r (Ac k1 k q u)) (!r) (dM K 100 m h) (bD n.q.table 0 (dM K 100 m h) (gQ n.q.table (iG n.s) (dM K 100 m h) (BP (bU (jM (bR n.s)) n.q.table) h (λs h1=>K (CV.tup (bU (kU s) 0)) m h1)))))
def D9(n:NV)(m:MH)(h:PH)(K:CV->MH->PH->Prop):Prop:=
  zZ (bT (aY (tW n.s) (tV n.s) (aY (eR n.params) (eW n.q.op) (aY (nI n.q) (nH n.q) (aY (eW (nJ n.q)) (iY (iW n.q)) (gA n (fY n)))))) (bI (fK 1) (jM (aY dA dA (aY (nH n.q) (eW (nJ n.q)) (aY (iY (iW n.q)) (rQ (iW n.q)) (aY (eW (qO (iW n.q))) (rO (iW n.q)) (aY (jI (iW n.q)) (iY (fX n.q)) (aY (rQ (fX n.q)) (eW (qO (fX n.q))) (aY (rO (fX n.q)) (jI (fX n.q)) (aY (oI n.q) tT (y9 iQ)))))))))))) (λn1 k u=>bT (aY (tW n1.s) (tV n1.s) (aY (eR n1.params) (eW n1.q.op) (aY (nI n1.q) (nH n1.q) (aY (eW (nJ n1.q)) (iY (iW n1.q)) (gA n1 (fY n1)))))) (bI (fK k) (bJ u))) h (λk q k1 u r=>gU (gC r (Ac k1 k q u)) (!r) (dM K 100 m h) (aT (λb o=>aH
 (aU n.args.a b o) ((0:Int)<=0) (0<aG n.args) (∃(y:Sl),aM m h b (eC o) (aR y)/\DB (dP y (fW n.params (eN n.q.where_))) h (λc p p1=>fQ (iS c p p1) 0 (dM K (iS c p p1) m h) (aT (λb1 o1=>aH (aU n.args.a b1 o1) ((0:Int)<=0) (0<aG n.args) (∃(y1:Sl),aM m h b1 (eC o1) (aR y1)/\K (CV.tup (bU (kU y1) 0)) m h))))))))
def D8(n:NV)(m:MH)(h:PH)(K:CV->MH->PH->Prop):Prop:=
  zZ (bT (aY (tW n.s) (tV n.s) (aY (eR n.params) (eW n.q.op) (aY (nI n.q) (nH n.q) (aY (eW (nJ n.q)) (iY (iW n.q)) (gA n (fY n)))))) (bI (fK 1) (jM (oZ dA dA (sG (oK n.q) (y9 iQ)))))) (λn1 k u=>bT (aY (tW n1.s) (tV n1.s) (aY (eR n1.params) (eW n1.q.op) (aY (nI n1.q) (nH n1.q) (aY (eW (nJ n1.q)) (iY (iW n1.q)) (gA n1 (fY n1)))))) (bI (fK k) (bJ u))) h (λk q k1 u r=>gC r (Ac k1 k q u)->dH (!r) (dM K 100 m h) (aG n.q.columns==0) (dM K 100 m h) (aA (cN 0) (cN (aG n.q.columns)) (aA (pK (aG n.q.columns*8)) (pK (aG n.q.columns)) (∃(I:Nat×List Int->Prop)(m1:Nat×List Int->Nat),(∃(x:Nat×List Int),aA (I x) fO (aA (eL 25) (aK n.q.columns) (aA (bK n.q.columns)
 (bG x.1) (aA (BF n) (qY x.2) (eH m m h h)))))/\∀(x:Nat×List Int),I x->bD (↑x.1:Int) (aG n.q.columns) (aT (λb o=>aH (aU n.q.columns.a b o) (0<=(↑x.1:Int)) ((↑x.1:Int)<aG n.q.columns) (∃(y:Int),aM m h b (bB o x.1 1) (cK y)/\bD y 0 (dM K 100 m h) (aT (λb1 o1=>aH (aU n.args.a b1 o1) ((0:Int)<=0) (0<aG n.args) (∃(y1:Sl),aM m h b1 (eC o1) (aR y1)/\gQ y (aG y1) (dM K 100 m h) (aT (λb2 o2=>aH (aU n.args.a b2 o2) ((0:Int)<=0) (0<aG n.args) (∃(y2:Sl),aM m h b2 (eC o2) (aR y2)/\aT (λb3 o3=>aH (aU y2.a b3 o3) (0<=y) (y<aG y2) (∃(y3:Int),aH (aM m h b3 (fL o3 y 1) (cK y3)) (DG x.2) (iX (gZ x.2)) (∃(x1:Nat×List Int),aA (I x1) (m1 x1<m1 x) (aA fO (eL 25) (aA (aK
 n.q.columns) (bK n.q.columns) (aA (gS (aW x.1 1)=bX x1.1) (BF n) (dE (qZ x.2 y3 x1.2) m m h h)))))))))))))))) (aX h 1 (gZ x.2) (λs h1=>K (CV.tup (bU (kU s) 0)) m h1))))))
noncomputable abbrev iZ(a:NV)(b:List Value):CV:=jM (aY (tW a.s) (tV a.s) (aY (eR a.params) (eW a.q.op) (aY (nI a.q) (nH a.q) (aY (eW (nJ a.q)) (iY (iW a.q)) b))))
noncomputable abbrev lR(a:Sl):List CV:=Kn (kU a)
attribute [push_cast] iZ lR
def D7(n:NV)(m:MH)(h:PH)(K:CV->MH->PH->Prop):Prop:=
  ∃(n1:NV),BA (λs p q k=>aA (fH (iZ n (gA n (fY n))) (iZ n1 (gA n1 (fY n1)))) (wY h s p q k n1) (∀(r:Bool),gU (gC r (IU k q)) (!r) (dM K 100 m h) (aT (λb o=>aH (aU n.args.a b o) ((0:Int)<=0) (0<aG n.args) (∃(y:Sl),aM m h b (eC o) (aR y)/\aT (λb1 o1=>aH (aU n.args.a b1 o1) ((0:Int)<=1) (1<aG n.args) (∃(y1:Sl),aH (aM m h b1 (o1+1) (aR y1)) (bF h b (eC o) (aR y)) (bF h b1 (o1+1) (aR y1)) (aX h 1 (aR y::bL (aR y1)) (λs1 h1=>∃(s2:Sl)(k1:List (List Int)),aA (lR s1=lR s2) (akJ h1 s2 k1) (aA (k1.length<=10) (∀(k2:List Int),List.Mem k2 k1->k2.length<=12) (kP (λs3 h2=>dZ h1 h2 (Ints h2 s3 k1.flatten) (K (CV.tup (bU (kU s3) 0)) m h2)))))))))))))
def D6(n:NV)(m:MH)(h:PH)(K:CV->MH->PH->Prop):Prop:=
  ∃(n1:NV),BA (λs p q k=>aA (fH (iZ n (gA n (fY n))) (iZ n1 (gA n1 (fY n1)))) (wY h s p q k n1) (∀(r:Bool),gU (gC r (IU k q)) (!r) (dM K 100 m h) (aT (λb o=>aH (aU n.args.a b o) ((0:Int)<=0) (0<aG n.args) (∃(y:Sl),aM m h b (eC o) (aR y)/\K (CV.tup (bU (kU y) 0)) m h)))))
def HE(n:NV)(m:MH)(h:PH)(K:CV->MH->PH->Prop):Prop:=
  zZ (bT (aY (tW n.s) (tV n.s) (aY (eR n.params) (eW n.q.op) (aY (nI n.q) (nH n.q) (aY (eW (nJ n.q)) (iY (iW n.q)) (gA n (fY n)))))) (bI (fK 2) (jM zV))) (λn1 k u=>bT (aY (tW n1.s) (tV n1.s) (aY (eR n1.params) (eW n1.q.op) (aY (nI n1.q) (nH n1.q) (aY (eW (nJ n1.q)) (iY (iW n1.q)) (gA n1 (fY n1)))))) (bI (fK k) (bJ u))) h (λk q k1 u r=>gU (gC r (Ac k1 k q u)) (!r) (dM K 100 m h) (aT (λb o=>aH (aU n.args.a b o) ((0:Int)<=0) (0<aG n.args) (∃(y:Sl),aM m h b (eC o) (aR y)/\aT (λb1 o1=>aH (aU n.args.a b1 o1) ((0:Int)<=1) (1<aG n.args) (∃(y1:Sl),aM m h b1 (o1+1) (aR y1)/\DA y y1 h (λa b2 r1=>gU (gC r1 (a=b2)) (!r1) (dM K 100 m h) (aT (λb3 o2=>aH
 (aU n.args.a b3 o2) ((0:Int)<=0) (0<aG n.args) (∃(y2:Sl),aM m h b3 (eC o2) (aR y2)/\K (CV.tup (bU (kU y2) 0)) m h))))))))))
abbrev G5(a:(List Int)->(List (Int×Bool))->Prop):Prop:=∃(x:List Int)(x1:List (Int×Bool)),a x x1
attribute [push_cast] G5
def D5(n:NV)(m:MH)(h:PH)(K:CV->MH->PH->Prop):Prop:=
  ∃(n1:NV),BA (λs p q k=>aA (fH (iZ n (gA n (fY n))) (iZ n1 (gA n1 (fY n1)))) (wY h s p q k n1) (zZ (bT (aY (tW n.s) (tV n.s) (aY (eR n.params) (eW n.q.op) (aY (nI n.q) (nH n.q) (aY (eW (nJ n.q)) (iY (iW n.q)) (gA n (fY n)))))) (bI (fK 1) (jM (oZ dA dA (sG tT (I6 n1.q)))))) (λn2 k1 u=>bT (aY (tW n2.s) (tV n2.s) (aY (eR n2.params) (eW n2.q.op) (aY (nI n2.q) (nH n2.q) (aY (eW (nJ n2.q)) (iY (iW n2.q)) (gA n2 (fY n2)))))) (bI (fK k1) (bJ u))) h (λk1 q1 k2 u r=>gU (gC r (Ac k2 k1 q1 u)) (!r) (dM K 100 m h) (∃(n2:NV),BA (λs1 p1 q2 k3=>∃(a:List Int),aH (fH (iZ n (gA n (fY n))) (iZ n2 (gA n2 (fY n2)))) (wY h s1 p1 q2 k3 n2) (k3[0]? =
 Option.some a) (∀(r1:Bool),gU (gC r1 (∃(o t:Int)(w:Pred)(c:List Int)(o1:List (Int×Int)),G5 (λg o2=>∃(l:Int)(a1:List Query),q2=Query.mk o t w c o1 g o2 l a1/\pR a g o2 l))) (!r1) (dM K 100 m h) (aT (λb o=>aH (aU n.args.a b o) ((0:Int)<=0) (0<aG n.args) (∃(y:Sl),aM m h b (eC o) (aR y)/\K (CV.tup (bU (kU y) 0)) m h)))))))))
def D4(n:NV)(m:MH)(h:PH)(K:CV->MH->PH->Prop):Prop:=
  ∃(n1:NV),BA (λs p q k=>aA (fH (iZ n (gA n (fY n))) (iZ n1 (gA n1 (fY n1)))) (wY h s p q k n1) (zZ (bT (aY (tW n.s) (tV n.s) (aY (eR n.params) (eW n.q.op) (aY (nI n.q) (nH n.q) (aY (eW (nJ n.q)) (iY (iW n.q)) (gA n (fY n)))))) (bI (fK 2) (jM (oZ dA dA (sG tT (I6 n1.q)))))) (λn2 k1 u=>bT (aY (tW n2.s) (tV n2.s) (aY (eR n2.params) (eW n2.q.op) (aY (nI n2.q) (nH n2.q) (aY (eW (nJ n2.q)) (iY (iW n2.q)) (gA n2 (fY n2)))))) (bI (fK k1) (bJ u))) h (λk1 q1 k2 u r=>gU (gC r (Ac k2 k1 q1 u)) (!r) (dM K 100 m h) (aT (λb o=>aH (aU n.args.a b o) ((0:Int)<=0) (0<aG n.args) (∃(y:Sl),aM m h b (eC o) (aR y)/\aT (λb1 o1=>aH (aU n.args.a b1 o1) ((0:
 Int)<=1) (1<aG n.args) (∃(y1:Sl),aM m h b1 (o1+1) (aR y1)/\DA y y1 h (λa b2 r1=>gU (gC r1 (a=b2)) (!r1) (aA (bF h b (eC o) (aR y)) (bF h b1 (o1+1) (aR y1)) (dM K 100 m h)) (aA (bF h b (eC o) (aR y)) (bF h b1 (o1+1) (aR y1)) (∃(n2:NV),BA (λs1 p1 q2 k3=>∃(a1:List Int),aH (fH (iZ n (gA n (fY n))) (iZ n2 (gA n2 (fY n2)))) (wY h s1 p1 q2 k3 n2) (k3[0]? =Option.some a1) (∀(r2:Bool),gU (gC r2 (∃(o2 t:Int)(w:Pred)(c:List Int)(o3:List (Int×Int)),G5 (λg o4=>∃(l:Int)(a2:List Query),q2=Query.mk o2 t w c o3 g o4 l a2/\pR a1 g o4 l))) (!r2) (dM K 100 m h) (aT (λb3 o2=>aH (aU n.args.a b3 o2) ((0:Int)<=0) (0<aG n.args) (∃(y2:Sl),aM m h b3 (eC o2) (aR y2)/\K (CV.tup
 (bU (kU y2) 0)) m h))))))))))))))))
theorem YA{e:Int}(h:e≠0):fin (jS e)=jS e:=by unfold fin;rw[if_neg (by simpa[jS]using h)];rfl
theorem Yz(l:List Int):fin (l,0)=AO l:=by unfold fin;rw[if_pos rfl]
structure Wp(K:CV->MH->PH->Prop)(m:MH)(h:PH)(full:List Int×Int):Prop where
 all:∀r,fin r=full->KR K m h r
theorem Wp.err{f:List Int×Int}{e:Int}(x:Wp K m h f)(he:f=jS e)(h0:e≠0)(hle:PH.le h h'):K (.tup [.val (.slice none 0 0),.val (.int .i64 e)]) m h':=
 (x.all (jS e) (by rw[he,YA h0])).err hle rfl
theorem Wp.ok{f:List Int×Int}{sl:Sl}(x:Wp K m h f)(he:f=AO l)(hle:PH.le h h')(hi:Ints h' sl l):K (.tup [.val (.slice sl.a sl.len sl.cap),.val (.int .i64 0)]) m h':=
 x.all (l,0) (by rw[he,Yz]) sl h' hle hi
theorem tM(h:¬((ks.length:Int)=arity q.op/\eF q)):xB s ps q ks=jS 100:=by
 unfold xB;by_cases h1:(ks.length:Int)=arity q.op
 .rw[if_pos h1];unfold iT;rw[if_pos (.inr λe=>h ⟨h1,e⟩)]
 .rw[if_neg h1]
theorem oB{s:pV}{ps:List Int}{op ta:Int}{w:Pred}{co:List Int}{on:List (Int×Int)}{gr:List Int}{od:List (Int×Bool)}{li:Int}{args:List Query}{ks:List (List Int)}(h1:(ks.length:Int)=arity op)(h2:eF (.mk op ta w co on gr od li args))(h0:0<=arity op):
 xB s ps (.mk op ta w co on gr od li args) ks=iT s ps (.mk op ta w co on gr od li args) (ks.getD 0 []) (ks.getD 1 [])/\¬(arity op<0\/¬eF (.mk op ta w co on gr od li args)):=by
 unfold xB;rw[if_pos (show(ks.length:Int)=arity (Query.op (.mk op ta w co on gr od li args))from h1)];exact⟨rfl,λe=>e.elim (λe=>by omega) λe=>e h2⟩
section
variable{n:NV}{s:pV}{ps:List Int}{ta:Int}{w:Pred}{co:List Int}{on:List (Int×Int)}{gr:List Int}{od:List (Int×Bool)}{li:Int}{args:List Query}{ks:List (List Int)}{m:MH}{h:PH}{K:CV->MH->PH->Prop}
theorem RD(hk:(ks.length:Int)=1):∃a,ks=[a]:=by
 match ks,hk with
 |[a],_=>exact⟨a,rfl⟩
 |[],h=>simp at h
 |_::_::_,h=>simp at h;omega
theorem NG(hk:(ks.length:Int)=2):∃a b,ks=[a,b]:=by
 match ks,hk with
 |[a,b],_=>exact⟨a,b,rfl⟩
 |[],h=>simp at h
 |[_],h=>simp at h
 |_::_::_::_,h=>simp at h;omega
theorem Zt(hn:wY h s ps (.mk 1 ta w co on gr od li args) ks n)(h8:oY s)(hT:Wp K m h (xB s ps (.mk 1 ta w co on gr od li args) ks)):Ea n m h K:=by
 dsimp only[Ea,push_cast];have x:=hn.q_.parts;have et:=x.table_;have sl:=hn.s_.tables.slen;refine⟨n,0,⟨0,n.q.table,⟨0,0,eM,eM,⟨none,0,0⟩⟩,⟨none,0,0⟩,⟨none,0,0⟩,⟨none,0,0⟩,⟨none,0,0⟩,0,⟨none,0,0⟩⟩,s,ps,_,ks,.mk 0 ta iL [] [] [] [] 0 [],rfl,hn,oP.rep ⟨rfl,et,Bm h,⟨.nil _ _,by simp⟩,⟨.nil _ _,by simp⟩,⟨.nil _ _,by simp⟩,⟨.nil _ _,by simp⟩,rfl,.nil _ _ _ _⟩,λr hr=>aB (λh1=>hT.err (tM λe=>?_) aC (.refl _)) (λh1=>?_)⟩
 .have:r=true:=hr.2 ⟨e.1,by have:=e.2;simp[eF]at this;obtain⟨rfl,rfl,rfl,rfl,rfl,rfl⟩:=this;rfl⟩;rw[this]at h1;cases h1
 obtain⟨hk,heq⟩:=hr.1 (by simpa using h1);simp only[Query.withOf,Query.mk.injEq]at heq;obtain⟨_,_,rfl,rfl,rfl,rfl,rfl,rfl,_⟩:=heq;obtain⟨hf,hg⟩:=oB (s:=s) (ps:=ps) (op:=1) (ta:=ta) (w:=iL) (co:=[]) (on:=[]) (gr:=[]) (od:=[]) (li:=0) (args:=args) (ks:=ks) hk (by simp[eF]) (by decide);rw[hf]at hT;unfold iT at hT;rw[if_neg hg]at hT;dsimp only at hT;rw[if_pos rfl]at hT;refine aE (λd1=>hT.err (if_neg aC) aC (.refl _)) (λd1=>aE (λd2=>hT.err (if_neg aC) aC (.refl _)) (λd2=>⟨n.s,s,n.q.table,rfl,hn.s_,h8,λsl h' hle hi=>?_⟩));rw[et]at hi;exact hT.ok (if_pos aC) hle hi
theorem Zr(hn:wY h s ps (.mk 2 ta w co on gr od li args) ks n)(hT:Wp K m h (xB s ps (.mk 2 ta w co on gr od li args) ks)):D9 n m h K:=by
 dsimp only[D9,push_cast];have x:=hn.q_.parts;refine⟨n,1,⟨0,0,n.q.where_,⟨none,0,0⟩,⟨none,0,0⟩,⟨none,0,0⟩,⟨none,0,0⟩,0,⟨none,0,0⟩⟩,s,ps,_,ks,.mk 0 0 w [] [] [] [] 0 [],rfl,hn,oP.rep ⟨rfl,rfl,x.where_,⟨.nil _ _,by simp⟩,⟨.nil _ _,by simp⟩,⟨.nil _ _,by simp⟩,⟨.nil _ _,by simp⟩,rfl,.nil _ _ _ _⟩,λr hr=>aB (λh1=>hT.err (tM λe=>?_) aC (.refl _)) (λh1=>?_)⟩
 .have:r=true:=hr.2 ⟨e.1,by have:=e.2;simp[eF]at this;obtain⟨rfl,rfl,rfl,rfl,rfl,rfl⟩:=this;rfl⟩;rw[this]at h1;cases h1
 obtain⟨hk,heq⟩:=hr.1 (by simpa using h1);simp only[Query.withOf,Query.mk.injEq]at heq;obtain⟨_,rfl,_,rfl,rfl,rfl,rfl,rfl,_⟩:=heq;obtain⟨hf,hg⟩:=oB (s:=s) (ps:=ps) (op:=2) (ta:=0) (w:=w) (co:=[]) (on:=[]) (gr:=[]) (od:=[]) (li:=0) (args:=args) (ks:=ks) hk (by simp[eF]) (by decide);rw[hf]at hT;unfold iT at hT;rw[if_neg hg]at hT;dsimp only at hT;rw[if_neg (by decide),if_pos rfl]at hT;obtain⟨a,rfl⟩:=RD hk;obtain⟨b0,o0,s0,e0,r0,i0,l0,j0⟩:=hn.arg (j:=0) rfl;simp only[List.getD_cons_zero]at hT;refine⟨b0,o0,e0,aC,aC,s0,.imm (by simpa using r0),s0,n.params,n.q.where_,a,ps,w,rfl,i0,hn.ps_,x.where_,aB (λd1=>hT.err (if_neg (by simpa using d1)) (by simpa using d1) (.refl _)) (λd1=>⟨b0,o0,e0,aC,aC,s0,.imm (by simpa using r0),hT.ok (if_pos (by simpa using d1)) (.refl _) i0⟩)⟩
theorem Zo(hn:wY h s ps (.mk 5 ta w co on gr od li args) ks n)(hT:Wp K m h (xB s ps (.mk 5 ta w co on gr od li args) ks)):D6 n m h K:=by
 dsimp only[D6,push_cast];refine⟨n,s,ps,_,ks,rfl,hn,λr hr=>aB (λh1=>hT.err ?_ aC (.refl _)) (λh1=>?_)⟩
 .by_cases hb:((ks.length:Int)=arity 5/\eF (.mk 5 ta w co on gr od li args))
  .obtain⟨hf,hg⟩:=oB (s:=s) (ps:=ps) hb.1 hb.2 (by decide);rw[hf];unfold iT;rw[if_neg hg];dsimp only;rw[if_neg (by decide),if_neg (by decide),if_neg (by decide),if_neg (by decide),if_pos rfl,if_neg];intro hgood;have h2:=hb.2;simp[eF]at h2;have:r=true:=hr.2 ⟨by have:=hb.1;simp[arity]at this;omega,h2.1,h2.2.1,h2.2.2.1,h2.2.2.2.1,h2.2.2.2.2.1,h2.2.2.2.2.2,hgood⟩;rw[this]at h1;cases h1
  .exact tM hb
 obtain⟨hk,rfl,rfl,rfl,rfl,rfl,rfl,hgood⟩:=hr.1 (by simpa using h1);obtain⟨hf,hg⟩:=oB (s:=s) (ps:=ps) (op:=5) (ta:=0) (w:=iL) (co:=[]) (on:=on) (gr:=[]) (od:=[]) (li:=0) (args:=args) (ks:=ks) (by rw[hk];rfl) (by simp[eF]) (by decide);rw[hf]at hT;unfold iT at hT;rw[if_neg hg]at hT;dsimp only at hT;rw[if_neg (by decide),if_neg (by decide),if_neg (by decide),if_neg (by decide),if_pos rfl,if_pos hgood]at hT;obtain⟨a,b,rfl⟩:=NG (ks:=ks) aC;obtain⟨b0,o0,s0,e0,r0,i0,l0,j0⟩:=hn.arg (j:=0) rfl;exact⟨b0,o0,e0,aC,aC,s0,.imm (by simpa using r0),hT.ok rfl (.refl _) i0⟩
theorem Zp(hn:wY h s ps (.mk 4 ta w co on gr od li args) ks n)(hT:Wp K m h (xB s ps (.mk 4 ta w co on gr od li args) ks)):D7 n m h K:=by
 dsimp only[D7,push_cast];refine⟨n,s,ps,_,ks,rfl,hn,λr hr=>aB (λh1=>hT.err ?_ aC (.refl _)) (λh1=>?_)⟩
 .by_cases hb:((ks.length:Int)=arity 4/\eF (.mk 4 ta w co on gr od li args))
  .obtain⟨hf,hg⟩:=oB (s:=s) (ps:=ps) hb.1 hb.2 (by decide);rw[hf];unfold iT;rw[if_neg hg];dsimp only;rw[if_neg (by decide),if_neg (by decide),if_neg (by decide),if_pos rfl,if_neg];intro hgood;have h2:=hb.2;simp[eF]at h2;have:r=true:=hr.2 ⟨by have:=hb.1;simp[arity]at this;omega,h2.1,h2.2.1,h2.2.2.1,h2.2.2.2.1,h2.2.2.2.2.1,h2.2.2.2.2.2,hgood⟩;rw[this]at h1;cases h1
  .exact tM hb
 obtain⟨hk,rfl,rfl,rfl,rfl,rfl,rfl,hgood⟩:=hr.1 (by simpa using h1);obtain⟨hf,hg⟩:=oB (s:=s) (ps:=ps) (op:=4) (ta:=0) (w:=iL) (co:=[]) (on:=on) (gr:=[]) (od:=[]) (li:=0) (args:=args) (ks:=ks) (by rw[hk];rfl) (by simp[eF]) (by decide);rw[hf]at hT;unfold iT at hT;rw[if_neg hg]at hT;dsimp only at hT;rw[if_neg (by decide),if_neg (by decide),if_neg (by decide),if_pos rfl,if_pos hgood]at hT;obtain⟨a,b,rfl⟩:=NG (ks:=ks) aC;obtain⟨b0,o0,s0,e0,r0,i0,l0,j0⟩:=hn.arg (j:=0) rfl;obtain⟨b1,o1,s1,e1,r1,i1,l1,j1⟩:=hn.arg (j:=1) rfl;refine⟨b0,o0,e0,aC,aC,s0,.imm (by simpa using r0),b1,o1,e1,aC,aC,s1,.imm (by simpa using r1),by simpa using r0,by simpa using r1,λsl h' hle hrow=>⟨sl,[a,b],rfl,⟨⟨[s0,s1],hrow,rfl,λj k hk=>?_⟩,by simp⟩,by simp,λk hk=>hn.len k hk,λsl2 h2 hle2 hi2=>hT.ok (l:=a++b) (by simp) (hle.trans hle2) (by simpa using hi2)⟩⟩
 match j,hk with
 |0,hk=>simp at hk;subst hk;exact⟨s0,rfl,i0.mono hle⟩
 |1,hk=>simp at hk;subst hk;exact⟨s1,rfl,i1.mono hle⟩
 |_+2,hk=>simp at hk
theorem Zn{op:Int}(hop:op=6\/op=7\/op=8)(hn:wY h s ps (.mk op ta w co on gr od li args) ks n)(hT:Wp K m h (xB s ps (.mk op ta w co on gr od li args) ks)):HE n m h K:=by
 dsimp only[HE,push_cast];have x:=hn.q_.parts;have ha:arity op=2:=by rcases hop with rfl|rfl|rfl<;>rfl
 have hne:op≠1/\op≠2/\op≠3/\op≠4/\op≠5/\op≠9/\op≠10:=by omega
 refine⟨n,2,⟨0,0,⟨0,0,eM,eM,⟨none,0,0⟩⟩,⟨none,0,0⟩,⟨none,0,0⟩,⟨none,0,0⟩,⟨none,0,0⟩,0,⟨none,0,0⟩⟩,s,ps,_,ks,.mk 0 0 iL [] [] [] [] 0 [],rfl,hn,oP.rep ⟨rfl,rfl,Bm h,⟨.nil _ _,by simp⟩,⟨.nil _ _,by simp⟩,⟨.nil _ _,by simp⟩,⟨.nil _ _,by simp⟩,rfl,.nil _ _ _ _⟩,λr hr=>aB (λh1=>hT.err (tM λe=>?_) aC (.refl _)) (λh1=>?_)⟩
 .have e1:(ks.length:Int)=arity op:=e.1;have:r=true:=hr.2 ⟨aC,by have:=e.2;simp[eF,hne]at this;obtain⟨rfl,rfl,rfl,rfl,rfl,rfl,rfl⟩:=this;rfl⟩;rw[this]at h1;cases h1
 obtain⟨hk,heq⟩:=hr.1 (by simpa using h1);simp only[Query.withOf,Query.mk.injEq]at heq;obtain⟨_,rfl,rfl,rfl,rfl,rfl,rfl,rfl,_⟩:=heq;obtain⟨hf,hg⟩:=oB (s:=s) (ps:=ps) (op:=op) (ta:=0) (w:=iL) (co:=[]) (on:=[]) (gr:=[]) (od:=[]) (li:=0) (args:=args) (ks:=ks) aC (by simp[eF]) aC;rw[hf]at hT;unfold iT at hT;rw[if_neg hg]at hT;dsimp only at hT;rw[if_neg hne.1,if_neg hne.2.1,if_neg hne.2.2.1,if_neg hne.2.2.2.1,if_neg hne.2.2.2.2.1,if_neg hne.2.2.2.2.2.1,if_neg hne.2.2.2.2.2.2]at hT;obtain⟨a,b,rfl⟩:=NG hk;obtain⟨b0,o0,s0,e0,r0,i0,l0,j0⟩:=hn.arg (j:=0) rfl;obtain⟨b1,o1,s1,e1,r1,i1,l1,j1⟩:=hn.arg (j:=1) rfl;refine⟨b0,o0,e0,aC,aC,s0,.imm (by simpa using r0),b1,o1,e1,aC,aC,s1,.imm (by simpa using r1),s0,s1,a,b,rfl,i0,i1,λr2 hr2=>aB (λd1=>hT.err (if_neg λe=>?_) aC (.refl _)) (λd1=>⟨b0,o0,e0,aC,aC,s0,.imm (by simpa using r0),hT.ok (if_pos (hr2.1 (by simpa using d1))) (.refl _) i0⟩)⟩;have e:a=b:=e;rw[hr2.2 e]at d1;cases d1
theorem Zq(hn:wY h s ps (.mk 3 ta w co on gr od li args) ks n)(hT:Wp K m h (xB s ps (.mk 3 ta w co on gr od li args) ks)):D8 n m h K:=by
 dsimp only[D8,push_cast];have x:=hn.q_.parts;have cl:=x.columns_.slen;have clen:=x.columns_.len;refine⟨n,1,⟨0,0,⟨0,0,eM,eM,⟨none,0,0⟩⟩,n.q.columns,⟨none,0,0⟩,⟨none,0,0⟩,⟨none,0,0⟩,0,⟨none,0,0⟩⟩,s,ps,_,ks,.mk 0 0 iL co [] [] [] 0 [],rfl,hn,oP.rep ⟨rfl,rfl,Bm h,x.columns_,⟨.nil _ _,by simp⟩,⟨.nil _ _,by simp⟩,⟨.nil _ _,by simp⟩,rfl,.nil _ _ _ _⟩,λr hr=>aB (λh1=>hT.err (tM λe=>?_) aC (.refl _)) (λh1=>?_)⟩
 .have:r=true:=hr.2 ⟨e.1,by have:=e.2;simp[eF]at this;obtain⟨rfl,rfl,rfl,rfl,rfl,rfl⟩:=this;rfl⟩;rw[this]at h1;cases h1
 obtain⟨hk,heq⟩:=hr.1 (by simpa using h1);simp only[Query.withOf,Query.mk.injEq]at heq;obtain⟨_,rfl,rfl,_,rfl,rfl,rfl,rfl,_⟩:=heq;obtain⟨hf,hg⟩:=oB (s:=s) (ps:=ps) (op:=3) (ta:=0) (w:=iL) (co:=co) (on:=[]) (gr:=[]) (od:=[]) (li:=0) (args:=args) (ks:=ks) hk (by simp[eF]) (by decide);rw[hf]at hT;unfold iT at hT;rw[if_neg hg]at hT;dsimp only at hT;rw[if_neg (by decide),if_neg (by decide),if_pos rfl]at hT;obtain⟨a,rfl⟩:=RD hk;obtain⟨b0,o0,s0,e0,r0,i0,l0,j0⟩:=hn.arg (j:=0) rfl;have sl0:=i0.slen;simp only[List.getD_cons_zero]at hT;refine aB (λd1=>hT.err (if_neg λe=>e.1 ((Em cl).1 d1)) aC (.refl _)) (λd1=>?_);have hne:co≠[]:=λe=>by rw[(Em cl).2 e]at d1;cases d1
 refine⟨aC,aC,aC,aC,λ⟨i,l⟩=>i<=co.length/\l=(co.take i).map (λc=>a.getD c.toNat 0)/\fG (λ_ c=>ES a c=true) co i,λ⟨i,_⟩=>co.length-i,⟨(0,[]),⟨aC,by simp,.zero⟩,MT⟩,?_⟩;rintro⟨i,_⟩ ⟨hi,rfl,hgo⟩;dsimp only;refine aE (λhlt=>?_) (λhge sl h' hle hrow=>?_)
 .obtain⟨c,hc⟩:=fI cl hlt;obtain⟨b1,o1,ea1,r1⟩:=x.columns_.at' hc;have cbad:¬ES a c=true->K (.tup [.val (.slice none 0 0),.val (.int .i64 100)]) m h:=λhx=>hT.err (if_neg λe=>hx (e.2 i c hc)) aC (.refl _);refine⟨b1,o1,ea1,aC,hlt,c,.imm r1,aE (λd2=>cbad λe=>?_) (λd2=>⟨b0,o0,e0,aC,aC,s0,.imm (by simpa using r0),aE (λd3=>cbad λe=>?_) (λd3=>?_)⟩)⟩
  .have:=lC.1 e;omega
  .have:=lC.1 e;omega
  obtain⟨b2,o2,ea2,r2⟩:=i0.inb (n:=c) aC aC;refine⟨b0,o0,e0,aC,aC,s0,.imm (by simpa using r0),b2,o2,ea2,aC,aC,_,.imm r2,?_,?_,(i+1,(co.take (i+1)).map (λc=>a.getD c.toNat 0)),⟨aC,rfl,hgo.succ hc (lC.2 ⟨aC,aC⟩)⟩,by show co.length-(i+1)<co.length-i;omega,?_⟩
  .simp;omega
  .simp;omega
  .rw[gO hc,List.map_append];exact MT
 .rw[List.take_of_length_le aC]at hrow;exact hT.ok (if_pos ⟨hne,hgo.all aC⟩) hle ⟨hrow,by simp;omega⟩
theorem Zm(hn:wY h s ps (.mk 9 ta w co on gr od li args) ks n)(hT:Wp K m h (xB s ps (.mk 9 ta w co on gr od li args) ks)):D5 n m h K:=by
 dsimp only[D5,push_cast];have x:=hn.q_.parts;refine⟨n,s,ps,_,ks,rfl,hn,n,1,⟨0,0,⟨0,0,eM,eM,⟨none,0,0⟩⟩,⟨none,0,0⟩,⟨none,0,0⟩,n.q.group,n.q.order,n.q.limit,⟨none,0,0⟩⟩,s,ps,_,ks,.mk 0 0 iL [] [] gr od li [],rfl,hn,oP.rep ⟨rfl,rfl,Bm h,⟨.nil _ _,by simp⟩,⟨.nil _ _,by simp⟩,x.group_,x.order_,x.limit_,.nil _ _ _ _⟩,λr hr=>aB (λh1=>hT.err (tM λe=>?_) aC (.refl _)) (λh1=>?_)⟩
 .have:r=true:=hr.2 ⟨e.1,by have:=e.2;simp[eF]at this;obtain⟨rfl,rfl,rfl,rfl⟩:=this;rfl⟩;rw[this]at h1;cases h1
 obtain⟨hk,heq⟩:=hr.1 (by simpa using h1);simp only[Query.withOf,Query.mk.injEq]at heq;obtain⟨_,rfl,rfl,rfl,rfl,_,_,_,_⟩:=heq;obtain⟨hf,hg⟩:=oB (s:=s) (ps:=ps) (op:=9) (ta:=0) (w:=iL) (co:=[]) (on:=[]) (gr:=gr) (od:=od) (li:=li) (args:=args) (ks:=ks) hk (by simp[eF]) (by decide);rw[hf]at hT;unfold iT at hT;rw[if_neg hg]at hT;dsimp only at hT;rw[if_neg (by decide),if_neg (by decide),if_neg (by decide),if_neg (by decide),if_neg (by decide),if_pos rfl]at hT;obtain⟨a,rfl⟩:=RD hk;obtain⟨b0,o0,s0,e0,r0,i0,l0,j0⟩:=hn.arg (j:=0) rfl;refine⟨n,s,ps,_,[a],a,rfl,hn,rfl,λr2 hr2=>aB (λd1=>hT.err (if_neg λe=>?_) aC (.refl _)) (λd1=>⟨b0,o0,e0,aC,aC,s0,.imm (by simpa using r0),hT.ok (if_pos ?_) (.refl _) i0⟩)⟩
 .rw[hr2.2 ⟨_,_,_,_,_,_,_,_,_,rfl,e⟩]at d1;cases d1
 .obtain⟨_,_,_,_,_,_,_,_,_,e,hh⟩:=hr2.1 (by simpa using d1);cases e;exact hh
theorem Zl(hn:wY h s ps (.mk 10 ta w co on gr od li args) ks n)(hT:Wp K m h (xB s ps (.mk 10 ta w co on gr od li args) ks)):D4 n m h K:=by
 dsimp only[D4,push_cast];have x:=hn.q_.parts;refine⟨n,s,ps,_,ks,rfl,hn,n,2,⟨0,0,⟨0,0,eM,eM,⟨none,0,0⟩⟩,⟨none,0,0⟩,⟨none,0,0⟩,n.q.group,n.q.order,n.q.limit,⟨none,0,0⟩⟩,s,ps,_,ks,.mk 0 0 iL [] [] gr od li [],rfl,hn,oP.rep ⟨rfl,rfl,Bm h,⟨.nil _ _,by simp⟩,⟨.nil _ _,by simp⟩,x.group_,x.order_,x.limit_,.nil _ _ _ _⟩,λr hr=>aB (λh1=>hT.err (tM λe=>?_) aC (.refl _)) (λh1=>?_)⟩
 .have:r=true:=hr.2 ⟨e.1,by have:=e.2;simp[eF]at this;obtain⟨rfl,rfl,rfl,rfl⟩:=this;rfl⟩;rw[this]at h1;cases h1
 obtain⟨hk,heq⟩:=hr.1 (by simpa using h1);simp only[Query.withOf,Query.mk.injEq]at heq;obtain⟨_,rfl,rfl,rfl,rfl,_,_,_,_⟩:=heq;obtain⟨hf,hg⟩:=oB (s:=s) (ps:=ps) (op:=10) (ta:=0) (w:=iL) (co:=[]) (on:=[]) (gr:=gr) (od:=od) (li:=li) (args:=args) (ks:=ks) hk (by simp[eF]) (by decide);rw[hf]at hT;unfold iT at hT;rw[if_neg hg]at hT;dsimp only at hT;rw[if_neg (by decide),if_neg (by decide),if_neg (by decide),if_neg (by decide),if_neg (by decide),if_neg (by decide),if_pos rfl]at hT;obtain⟨a,b,rfl⟩:=NG hk;obtain⟨b0,o0,s0,e0,r0,i0,l0,j0⟩:=hn.arg (j:=0) rfl;obtain⟨b1,o1,s1,e1,r1,i1,l1,j1⟩:=hn.arg (j:=1) rfl;refine⟨b0,o0,e0,aC,aC,s0,.imm (by simpa using r0),b1,o1,e1,aC,aC,s1,.imm (by simpa using r1),s0,s1,a,b,rfl,i0,i1,λr3 hr3=>aB (λd2=>⟨by simpa using r0,by simpa using r1,hT.err (if_neg λe=>?_) aC (.refl _)⟩) (λd2=>⟨by simpa using r0,by simpa using r1,n,s,ps,_,[a,b],a,rfl,hn,rfl,λr2 hr2=>aB (λd1=>hT.err (if_neg λe=>?_) aC (.refl _)) (λd1=>⟨b0,o0,e0,aC,aC,s0,.imm (by simpa using r0),hT.ok (if_pos ⟨hr3.1 (by simpa using d2),?_⟩) (.refl _) i0⟩)⟩)⟩
 .have e:a=b:=e.1;rw[hr3.2 e]at d2;cases d2
 .rw[hr2.2 ⟨_,_,_,_,_,_,_,_,_,rfl,e.2⟩]at d1;cases d1
 .obtain⟨_,_,_,_,_,_,_,_,_,e,hh⟩:=hr2.1 (by simpa using d1);cases e;exact hh
end
end Go.Ps
