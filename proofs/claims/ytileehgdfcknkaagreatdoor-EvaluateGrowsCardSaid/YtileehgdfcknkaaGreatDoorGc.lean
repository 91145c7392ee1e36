/-
  Part 3 of a proof that a law of the given program returns true: a condition generator that is proved sound, and contracts of functions. No condition of its own. Own work, joined by a program (pack2.py).
-/
import Derived.Test.YtileehgdfcknkaaGreatDoorGb
set_option linter.unusedVariables false
set_option linter.unusedSimpArgs false
namespace Go.Ps
open Go Go.Vc Go.Proofs
variable{K:CV->MH->PH->Prop}{m:MH}{h:PH}{ps:List Int}{cb:Nat}{sc:bR}{v:QV}{q:Query}{p:Pred}{l:List Int}{i:Nat}{N:Nat}{m':MH}{h':PH}{co:List Int}{gr:List Int}{od:List (Int×Bool)}{w:Pred}{ta:Int}{li:Int}{xs:List (List Value)}{sz:Nat}{k:Nat}{ks:List (List Int)}{rs:List Int}{r:Sl}{a:List Int}{b:Nat}
structure Ref where
 columns:List Int
 table:Int
structure uD where
 name:ByteArray
 columns:List mA
 key:Int
 refs:List Ref
 checks:List Pred
structure nY where
 version:Int
 tables:List uD
variable{s:nY}
structure Ni(h:PH)(r:Ref)(v:Bz):Prop where
 columns:Ints h v.columns r.columns
 table:v.table=r.table
def BB(h:PH)(s:Sl)(l:List mA):Prop:=bH h 2 mA.enc Eq s l
structure GP(h:PH)(t:uD)(v:bO):Prop where
 name:v.name=t.name
 columns:BB h v.columns t.columns
 key:v.key=t.key
 refs:bH h 2 Bz.enc (Ni h) v.references t.refs
 checks:Ch h v.checks t.checks
structure gS(h:PH)(s:nY)(v:bR):Prop where
 version:v.version=s.version
 tables:bH h 5 bO.enc (GP h) v.tables s.tables
theorem Ni.mono{r:Ref}{v:Bz}(x:Ni h r v)(le:PH.le h h'):Ni h' r v:=⟨x.columns.mono le,x.table⟩
theorem GP.mono{t:uD}{v:bO}(x:GP h t v)(le:PH.le h h'):GP h' t v:=
 ⟨x.name,bH.mono x.columns le λ_ _ e=>e,x.key,x.refs.mono le λ_ _ e=>e.mono le,x.checks.mono le⟩
theorem gS.mono{v:bR}(x:gS h s v)(le:PH.le h h'):gS h' s v:=⟨x.version,x.tables.mono le λ_ _ e=>e.mono le⟩
def lower(c:Nat):Bool:=97<=c&&c<=122
def rY(c:Nat):Bool:=lower c||(48<=c&&c<=57)||c==95
def mE(s:ByteArray):List Nat:=s.data.toList.map UInt8.toNat
def lS(s:ByteArray):Bool:=1<=s.size&&s.size<=32&&lower ((mE s).headD 0)&&(mE s).all rY
theorem LN(s:ByteArray):(mE s).length=s.size:=by simp[mE]
theorem UJ{s:ByteArray}{c:Nat}(h:(mE s)[i]? =some c):(s.get! i).toNat=c/\c<256:=by
 simp only[mE,List.getElem?_map,Option.map_eq_some_iff]at h;obtain⟨b,hb,rfl⟩:=h;refine⟨?_,b.toNat_lt⟩
 have hi:i<s.data.size:=by
  have:=(List.getElem?_eq_some_iff.1 hb).1;simpa using this
 have:s.data[i]? =some b:=by simpa using hb
 cases s with
 |mk bs=>
  show(bs[i]!).toNat=b.toNat;rw[getElem!_def,this]
theorem GH{s:ByteArray}(h:(s.get! i).toNat<128):Utf8.decode s i=((s.get! i).toNat,1):=by
 simp only[Utf8.decode,Nat.add_zero];rw[if_pos h]
theorem UI{s:ByteArray}(h:¬(s.get! i).toNat<128):128<=(Utf8.decode s i).1:=by
 simp only[Utf8.decode,Nat.add_zero];rw[if_neg h]
 repeat' split
 all_goals simp_all [Utf8.runeError]
 all_goals omega
def M0(s:ByteArray):CV:=.val (.string s)
def Tb:Vc.Spec:=λcvs m h K=>∃s,cvs=[M0 s]/\K (cB (lS s)) m h
noncomputable def VW(s:ByteArray)(m:MH)(h:PH):Ctx:=
 ctx [] [(4,{A:=Nat×Nat×MH,st:=λx=>cD 44 45 [(15,vv (.pointer (some ⟨x.2.1,0,none⟩)))] [] x.2.2 h,inv:=λx=>x.1<=s.size/\cH m h x.2.1/\jQ m x.2.2 x.2.1 (.stringIter s x.1)/\(x.1=0\/lower ((mE s).headD 0)=true)/\((mE s).take x.1).all rY=true,mu:=λx=>s.size-x.1})] [] [] false
noncomputable def V0(s:ByteArray)(m:MH)(h:PH):Ctx:=
 ctx [] [BV 4 (λi=>cD 50 51 [(0,vv (.string s)),(3,iv i)] [] m h) (λi=>i<=s.size/\((mE s).take i).all rY=true) (λi=>s.size-i)] [] [] false
abbrev Mv(a b:(Nat×Nat×MH)->Prop):Prop:=(∃(x:Nat×Nat×MH),a x)/\∀(x:Nat×Nat×MH),b x
noncomputable abbrev iS(a:Nat×Nat×MH):Nat:=a.2.1
noncomputable abbrev fX(a:Nat×Nat×MH):Nat->Option Obj:=a.2.2
abbrev xO(a:Nat×Nat×MH)(b:ByteArray)(c:MH)(d:PH):Prop:=aA (a.1<=b.size) (cH c d (iS a)) (aA (jQ c (fX a) (iS a) (Obj.stringIter b a.1)) (a.1=0\/mD (lower (List.headD (mE b) 0))) (mD (List.all (List.take a.1 (mE b)) rY)))
abbrev cY(a b:Nat):Prop:=U6 a 0=U6 b 0
noncomputable abbrev AG(a:ByteArray)(b:Nat):Nat:=(Utf8.decode a b).1
abbrev Cz(a:(Nat×Nat×MH)->Prop)(b:ByteArray)(c:Nat×Nat×MH)(d:MH)(e:PH):Prop:=∃(x:Nat×Nat×MH),aA (a x) (b.size-x.1<b.size-c.1) (aA (cY (iS c) (iS x)) (d=fX x) (bN e e))
attribute [push_cast] Mv iS fX xO cY AG Cz
def Gz(s:ByteArray)(m:MH)(h:PH)(K:CV->MH->PH->Prop):Prop:=
  aW (↑s.size:Int) 1 (K aU m h) (eX (↑s.size:Int) 32 (K aU m h) (∀(b:Nat)(m1:MH),aR (cH m h b) (jQ m m1 b (Obj.stringIter s 0)) (Mv (λx=>aA (xO x s m h) (cY b (iS x)) (aA (m1=fX x) (h=h) True)) (λx=>xO x s m h->∃(s1:ByteArray)(p:Nat),aA (pH (fX x) (iS x) (Obj.stringIter s1 p)) (s1.size<=p->K fK (fX x) h) (p<s1.size->∀(m2:MH),jQ (fX x) m2 (iS x) (Obj.stringIter s1 (p+(Utf8.decode s1 p).2))->dA (decide ((↑(AG s1 p):Int)>=97)) (branch (!(decide ((↑(AG s1 p):Int)<=122))) (dA ((↑p:Int)==0) (K aU m2 h) ((↑(AG s1 p):Int) !=95) (aW (↑(AG s1 p):Int) 48 (K aU m2 h) (eX (↑(AG s1 p):Int) 57 (K aU m2 h) (Cz (λy=>xO y s m h) s x m2 h))) (Cz (λy=>xO y s m h) s x m2 h)) (Cz (λy
 =>xO y s m h) s x m2 h)) ((↑p:Int)==0) (K aU m2 h) (eR (↑(AG s1 p):Int) 95 (aW (↑(AG s1 p):Int) 48 (K aU m2 h) (eX (↑(AG s1 p):Int) 57 (K aU m2 h) (Cz (λy=>xO y s m h) s x m2 h))) (Cz (λy=>xO y s m h) s x m2 h)))))))
abbrev HK(a:Prop)(b:ByteArray)(c:Nat)(d:UInt8->UInt8)(e:UInt8->Prop):Prop:=a/\∃(x:UInt8),b.data.toList[c]? =Option.some (d x)/\e x
noncomputable abbrev wR(a:UInt8):Int:=(↑a.toNat:Int)
abbrev tF(a:Nat)(b:ByteArray):Prop:=a<=b.size/\mD (List.all (List.take a (mE b)) rY)
noncomputable abbrev pU(a:Nat):Nat:=(↑a:Int).toNat
attribute [push_cast] HK wR tF pU
def LC(s:ByteArray)(m:MH)(h:PH)(K:CV->MH->PH->Prop):Prop:=
  dA ((↑s.size:Int)==0) (K aU m h) (decide ((↑s.size:Int)>32)) (K aU m h) (HK (cG 0) s 0 (λb=>b) (λb=>aW (↑b.toNat:Int) 97 (K aU m h) (HK (cG 0) s 0 (λb1=>b1) (λb1=>eX (wR b1) 122 (K aU m h) (j2 (∃(x:Nat),aA (tF x s) (eQ (SV.at (M7 s))) (aA (aZ x) (m=m) (bN h h))) (λx=>tF x s->aW (↑x:Int) (↑s.size:Int) (HK (cG (↑x:Int)) s (pU x) (λb2=>b2) (λb2=>aW (↑b2.toNat:Int) 97 (aW (↑b2.toNat:Int) 48 (gV (wR b2 !=95) (K aU m h) (λy=>aA (tF y s) (s.size-y<s.size-x) (aA (eQ (SV.at (M7 s))) (fV (bB x 1)=bM y) (bT (m=m) h h)))) (eX (wR b2) 57 (gV (wR b2 !=95) (K aU m h) (λy=>aA (tF y s) (s.size-y<s.size-x) (aA (eQ (SV.at (M7 s))) (fV (bB x 1)=bM y) (bT
 (m=m) h h)))) (∃(y:Nat),aA (tF y s) (s.size-y<s.size-x) (aA (eQ (SV.at (M7 s))) (fV (bB x 1)=bM y) (bT (m=m) h h))))) (eX (wR b2) 122 (aW (↑b2.toNat:Int) 48 (gV (wR b2 !=95) (K aU m h) (λy=>aA (tF y s) (s.size-y<s.size-x) (aA (eQ (SV.at (M7 s))) (fV (bB x 1)=bM y) (bT (m=m) h h)))) (eX (wR b2) 57 (gV (wR b2 !=95) (K aU m h) (λy=>aA (tF y s) (s.size-y<s.size-x) (aA (eQ (SV.at (M7 s))) (fV (bB x 1)=bM y) (bT (m=m) h h)))) (∃(y:Nat),aA (tF y s) (s.size-y<s.size-x) (aA (eQ (SV.at (M7 s))) (fV (bB x 1)=bM y) (bT (m=m) h h))))) (∃(y:Nat),aA (tF y s) (s.size-y<s.size-x) (aA (eQ (SV.at (M7 s))) (fV (bB x 1)=bM y) (bT (m=m) h h)))))) (K fK m h)))))))
def kG(h:PH)(K:CV->MH->PH->Prop):CV->MH->PH->Prop:=λr m' h'=>∃m2 h2,(∀b o,m2 b=some o->m' b=some o)/\PH.le h h2/\PH.le h2 h'/\K r m2 h2
theorem kG.here{r:CV}(hK:K r m h):kG h K r m h:=⟨m,h,λ_ _ e=>e,.refl _,.refl _,hK⟩
theorem kG.sub{r:CV}(hm:∀b o,m b=some o->m' b=some o)(hK:K r m h):kG h K r m' h:=⟨m,h,hm,.refl _,.refl _,hK⟩
theorem jQ.keeps{o:Obj}(hb:cH m h b)(hu:jQ m m' b o):∀b o,m b=some o->m' b=some o:=λb' o' e=>by
 have hne:b'≠b:=λe'=>by rw[e',hb.m_]at e;cases e
 rw[hu.other b' hne,e]
theorem Rl:Sound Tryz.prog 135 Tb:=by
 refine Fa Tryz.func135 ?_;rintro cvs m h K ⟨s,rfl,hK⟩;refine⟨VW s m h,rfl,aF,Gz s m h (kG h K),by kernel_rfl,?_⟩;show Gz s m h (kG h K);dsimp only[Gz,push_cast];have hl:=LN s;refine aE (λh1=>?_) (λh1=>aE (λh2=>?_) (λh2 b m1 hb hm1=>?_))
 .refine .here (hP hK ?_);have:¬1<=s.size:=by omega
  simp[lS,this]
 .refine .here (hP hK ?_);have:¬s.size<=32:=by omega
  simp[lS,this]
 refine⟨⟨(0,b,m1),⟨by simp,hb,hm1,.inl rfl,by simp⟩,MT⟩,?_⟩;rintro⟨pos,b,mx⟩ ⟨hp,hb,hmx,hhead,hall⟩;simp only at hp hb hmx hhead hall;refine⟨s,pos,⟨hmx.at_⟩,λhge=>?_,λhlt m2 hm2=>?_⟩
 .refine .sub (jQ.keeps hb hmx) (hP hK ?_);rw[List.take_of_length_le aC]at hall
  have h3:lower ((mE s).headD 0)=true:=by
   rcases hhead with e|e
   .omega
   .exact e
  have h1':1<=s.size:=by omega
  have h2':s.size<=32:=by omega
  simp only[lS,hall,h3,decide_eq_true h1',decide_eq_true h2'];rfl
 .have hm3:=hmx.trans hm2;obtain⟨c,hc⟩:∃c,(mE s)[pos]? =some c:=⟨(mE s)[pos]'(by omega),List.getElem?_eq_getElem _⟩
  obtain⟨hg,hc256⟩:=UJ hc
  have hhd:pos=0->(mE s).headD 0=c:=λe=>by
   subst e;cases hcs:mE s with
   |nil=>rw[hcs]at hc;simp at hc
   |cons x l=>rw[hcs]at hc;simp at hc;simpa using hc
  have stop:¬((97<=(Utf8.decode s pos).1/\(Utf8.decode s pos).1<=122)\/(pos≠0/\((Utf8.decode s pos).1=95\/(48<=(Utf8.decode s pos).1/\(Utf8.decode s pos).1<=57))))->kG h K (.val (.bool false)) m2 h:=by
   intro hn;refine .sub (jQ.keeps hb hm3) (hP hK ?_);by_cases hlo:(s.get! pos).toNat<128
   .rw[GH hlo,hg]at hn;by_cases hp0:pos=0
    .have:lower c=false:=by
      simp only[lower,Bool.and_eq_false_iff,decide_eq_false_iff_not];simp only at hn;omega
     simp only[lS,hhd hp0,this,Bool.and_false,Bool.false_and]
    .have:rY c=false:=by
      simp only[rY,lower,Bool.or_eq_false_iff,Bool.and_eq_false_iff,decide_eq_false_iff_not,beq_eq_false_iff_ne];simp only at hn;omega
     simp[lS,yW hc this]
   .have:rY c=false:=by
     simp only[rY,lower,Bool.or_eq_false_iff,Bool.and_eq_false_iff,decide_eq_false_iff_not,beq_eq_false_iff_ne];omega
    simp[lS,yW hc this]
  have go:((97<=(Utf8.decode s pos).1/\(Utf8.decode s pos).1<=122)\/(pos≠0/\((Utf8.decode s pos).1=95\/(48<=(Utf8.decode s pos).1/\(Utf8.decode s pos).1<=57))))->pos+1<=s.size/\jQ m m2 b (.stringIter s (pos+1))/\lower ((mE s).headD 0)=true/\((mE s).take (pos+1)).all rY=true:=by
   intro hy
   have hlo:(s.get! pos).toNat<128:=by
    refine Decidable.byContradiction λhlo=>?_;have:=UI hlo;omega
   rw[GH hlo]at hm3;rw[GH hlo,hg]at hy;simp only at hy;refine⟨aC,hm3,?_,?_⟩
   .rcases hhead with e|e
    .rw[hhd e];simp only[lower,Bool.and_eq_true,decide_eq_true_eq];omega
    .exact e
   .rw[xD hc,hall];simp only[rY,lower,Bool.true_and,Bool.or_eq_true,Bool.and_eq_true,decide_eq_true_eq,beq_iff_eq];omega
  have next:((97<=(Utf8.decode s pos).1/\(Utf8.decode s pos).1<=122)\/(pos≠0/\((Utf8.decode s pos).1=95\/(48<=(Utf8.decode s pos).1/\(Utf8.decode s pos).1<=57))))->_:=λhy=>(⟨(pos+1,b,m2),⟨(go hy).1,hb,(go hy).2.1,.inr (go hy).2.2.1,(go hy).2.2.2⟩,by show s.size-(pos+1)<s.size-pos;omega,MT⟩:∃(y:Nat×Nat×MH),(y.fst<=s.size/\cH m h y.snd.fst/\jQ m y.snd.2 y.snd.fst (Obj.stringIter s y.fst)/\(y.fst=0\/lower ((mE s).headD 0)=true)/\(List.take y.fst (mE s)).all rY=true)/\s.size-y.fst<s.size-pos/\SV.at (At.val (Value.pointer (some (Addr.mk b 0 none))))=SV.at (At.val (Value.pointer (some (Addr.mk y.snd.fst 0 none))))/\m2=y.snd.2/\h=h/\True)
  clear go hm3 hm2 hall hhead hhd hmx hm1 hK
  repeat' (first|(refine aB (λ_=>?_) (λ_=>?_))|exact stop (by simp only[decide_eq_true_eq,decide_eq_false_iff_not,bne_iff_ne,ne_eq,beq_iff_eq,beq_eq_false_iff_ne,bne_eq_false_iff_eq,Bool.not_eq_true',Bool.not_eq_false']at*;omega)|exact next (by simp only[decide_eq_true_eq,decide_eq_false_iff_not,bne_iff_ne,ne_eq,beq_iff_eq,beq_eq_false_iff_ne,bne_eq_false_iff_eq,Bool.not_eq_true',Bool.not_eq_false']at*;omega))
theorem Ru:Sound Tryz.prog 122 Tb:=by
 refine iB Tryz.func122 ?_;rintro cvs m h K ⟨s,rfl,hK⟩;refine⟨V0 s m h,rfl,aF,LC s m h K,by kernel_rfl,?_⟩;dsimp only[LC,push_cast];have hl:=LN s;refine aB (λh1=>hP hK ?_) (λh1=>aE (λh2=>hP hK ?_) (λh2=>?_))
 .have:¬1<=s.size:=by have:(s.size:Int)=0:=(by simpa using h1);omega
  simp[lS,this]
 .have:¬s.size<=32:=by omega
  simp[lS,this]
 have h1:s.size≠0:=by intro e;rw[e]at h1;simp at h1
 obtain⟨c0,hc0⟩:∃c,s.data.toList[0]? =some c:=⟨s.data.toList[0]'(by simpa using(by omega:0<s.size)),List.getElem?_eq_getElem _⟩
 have hhd:(mE s).headD 0=c0.toNat:=by
  unfold mE;cases hcs:s.data.toList with
  |nil=>rw[hcs]at hc0;simp at hc0
  |cons x l=>rw[hcs]at hc0;simp at hc0;simp[hc0]
 refine⟨aC,c0,hc0,aE (λh3=>hP hK ?_) (λh3=>⟨aC,c0,hc0,aE (λh4=>hP hK ?_) (λh4=>?_)⟩)⟩
 .have:lower c0.toNat=false:=by simp only[lower,Bool.and_eq_false_iff,decide_eq_false_iff_not];omega
  simp only[lS,hhd,this,Bool.and_false,Bool.false_and]
 .have:lower c0.toNat=false:=by simp only[lower,Bool.and_eq_false_iff,decide_eq_false_iff_not];omega
  simp only[lS,hhd,this,Bool.and_false,Bool.false_and]
 refine⟨⟨0,⟨aC,by simp⟩,MT⟩,λi hi=>aE (λhlt=>?_) (λhge=>hP hK ?_)⟩
 .obtain⟨c,hc⟩:∃c,s.data.toList[i]? =some c:=⟨s.data.toList[i]'(by simpa using(by omega:i<s.size)),List.getElem?_eq_getElem _⟩
  have hcc:(mE s)[i]? =some c.toNat:=by simp[mE,hc]
  have stop:rY c.toNat=false->K (.val (.bool false)) m h:=λe=>hP hK (by simp[lS,yW hcc e]);have next:rY c.toNat=true->∃(y:Nat),(y<=s.size/\(List.take y (mE s)).all rY=true)/\s.size-y<s.size-i/\SV.at (At.val (Value.string s))=SV.at (At.val (Value.string s))/\SV.at (At.val (Value.int IntKind.i64 (IntKind.i64.wrap ((i:Int)+1))))=SV.at (At.val (Value.int IntKind.i64 (y:Int)))/\m=m/\h=h/\True:=λe=>⟨i+1,⟨aC,by rw[xD hcc,hi.2,e];rfl⟩,aC,MT⟩
  have hn:rY c.toNat=true↔(97<=c.toNat/\c.toNat<=122)\/(48<=c.toNat/\c.toNat<=57)\/c.toNat=95:=by
   simp only[rY,lower,Bool.or_eq_true,Bool.and_eq_true,decide_eq_true_eq,beq_iff_eq];omega
  have hn':rY c.toNat=false↔¬((97<=c.toNat/\c.toNat<=122)\/(48<=c.toNat/\c.toNat<=57)\/c.toNat=95):=by
   rw[<-hn];simp
  refine⟨aC,c,by simpa using hc,?_⟩;clear hK hi hhd hcc hn';rw[hn]at next
  have stop:=λe=>stop (by rw[<-Bool.not_eq_true,hn];exact e);clear hn
  repeat' (first|(refine aB (λ_=>?_) (λ_=>?_))|exact stop (by simp only[decide_eq_true_eq,decide_eq_false_iff_not,bne_iff_ne,ne_eq,beq_iff_eq,beq_eq_false_iff_ne,bne_eq_false_iff_eq,Bool.not_eq_true',Bool.not_eq_false']at*;omega)|exact next (by simp only[decide_eq_true_eq,decide_eq_false_iff_not,bne_iff_ne,ne_eq,beq_iff_eq,beq_eq_false_iff_ne,bne_eq_false_iff_eq,Bool.not_eq_true',Bool.not_eq_false']at*;omega))
 .have:=hi.2;rw[List.take_of_length_le aC]at this;have h5:lower c0.toNat=true:=by simp only[lower,Bool.and_eq_true,decide_eq_true_eq];omega
  have h1':1<=s.size:=by omega
  have h2':s.size<=32:=by omega
  simp only[lS,this,hhd,h5,decide_eq_true h1',decide_eq_true h2'];rfl
theorem Ma:Tryz.prog.underlying 9=some .string:=by kernel_rfl
theorem Ar:KeyLaw Tryz.prog 9 (λv=>∃s,v= .string s):=by
 refine⟨⟨_,Ma⟩,?_,?_,?_⟩
 .rintro _ w b ⟨s,rfl⟩
  have e:∀n:Nat,(Instr.checkKey b (n+1) 9 (.string s)).run Tryz.prog w= .ok () w:=λn=>by
   unfold Instr.checkKey;simp only[Sem.run_bind,run_underlying Ma,Result.andThen];simp
  exact e 9999
 .rintro _ _ w ⟨s,rfl⟩ ⟨t,rfl⟩;refine⟨_,run_equalIn_string w 9999 9 s t Ma,?_⟩;rw[beq_iff_eq];exact⟨λe=>by rw[wK e],λe=>by injection e with e;rw[e]⟩
 .rintro d _ _ r hd ⟨s,rfl⟩ ⟨t,rfl⟩ h;rw[Ma]at hd;cases hd;simp only[Instr.sameNow,Option.some.injEq]at h;subst h;rw[beq_toListBytes,beq_iff_eq];exact⟨λe=>by rw[wK e],λe=>by injection e with e;rw[e]⟩
def fB{α:Type}(T:List α->α->Prop)(l:List α)(i:Nat):Prop:=∀j x,j<i->l[j]? =some x->T (l.take j) x
def Good{α:Type}(T:List α->α->Prop)(l:List α):Prop:=∀(j:Nat) x,l[j]? =some x->T (l.take j) x
theorem fB.zero{α:Type}{T:List α->α->Prop}{l:List α}:fB T l 0:=λ_ _ h=>by omega
theorem fB.succ{α:Type}{T:List α->α->Prop}{l:List α}{x:α}(h:fB T l i)(hx:l[i]? =some x)(t:T (l.take i) x):fB T l (i+1):=by
 intro j y hj hy;by_cases e:j=i
 .subst e;rw[hx]at hy;cases hy;exact t
 .exact h j y aC hy
theorem fB.all{α:Type}{T:List α->α->Prop}{l:List α}(h:fB T l i)(hi:l.length<=i):Good T l:=λj x hx=>h j x (by have:=(List.getElem?_eq_some_iff.1 hx).1;omega) hx
theorem Good.not{α:Type}{T:List α->α->Prop}{l:List α}{x:α}(hx:l[i]? =some x)(t:¬T (l.take i) x):¬Good T l:=λh=>t (h i x hx)
def PZ(pre:List mA)(c:mA):Prop:=lS c.name=true/\eA c.kind=true/\c.name∉pre.map mA.name
def Ah(pre:List uD)(t:uD):Prop:=lS t.name=true/\1<=t.key/\t.key<=t.columns.length/\t.name∉pre.map uD.name/\Good PZ t.columns
def gR(s:nY)(t:Int):List Int:=if t<0 then[]else match s.tables[t.toNat]? with|none=>[]|some t=>t.columns.map mA.kind
def sR(s:nY)(t:Int):Bool:=decide (0<=t)&&decide (t<s.tables.length)
def aS(v:bR):CV:=.val (.agg ⟨v.enc⟩)
def nK(s:nY):Prop:=∀t∈s.tables,t.columns.length<=8
def Zb:Vc.Spec:=λcvs m h K=>∃v s t,cvs=[aS v,cI t]/\gS h s v/\K (cB (sR s t)) m h
def rX:Vc.Spec:=λcvs m h K=>∃v s t,cvs=[aS v,cI t]/\gS h s v/\nK s/\∀sl h',PH.le h h'->Ints h' sl (gR s t)->K (cS sl) m h'
noncomputable def MS(m:MH)(h:PH):Ctx:=
 dL [] [(5,{A:=Nat×Sl×List Int,st:=λx=>cD 35 37 [(5,.at (.lst 32)),(22,sv x.2.1),(23,iv x.2.1.len),(24,iv x.1)] [(32,.lst 3 1 (x.2.2.map eI))] m h})] [] [] false
noncomputable def Xq(m:MH)(h:PH):Ctx:=
 dL [(104,Zb)] [(5,{A:=Nat×Sl×List Int,st:=λx=>cD 38 40 [(5,.at (.lst 19)),(25,sv x.2.1),(26,iv x.2.1.len),(27,iv x.1)] [(19,.lst 3 1 (x.2.2.map eI))] m h})] [] [] false
noncomputable abbrev hU(a:bR):Int:=aG a.tables
attribute [push_cast] hU
def LI(v:bR)(t:Int)(m:MH)(h:PH)(K:CV->MH->PH->Prop):Prop:=
  gK t 0 (K (zR (decide (t<hU v))) m h) (K aU m h)
abbrev cZ(a:Option Addr)(b:Int)(c:Sl)(d:Nat->Nat->Sl->Prop):Prop:=bD (λx x1=>aH (bE a x x1) (0<=b) (b<aG c) (∃(x2:Sl),d x x1 x2))
noncomputable abbrev oU(a:bR):Option Addr:=a.tables.a
noncomputable abbrev aK(a:Sl):List Value:=iR (eC a)
abbrev HS(a:bR)(b:Int)(c:MH)(d:PH)(e g:Nat->Nat)(i:Nat)(j:Sl->Sl)(k:Sl->(Nat×Sl×List Int->Prop)->(Nat×Sl×List Int)->Prop)(l:(Nat×Sl×List Int->Prop)->(Nat×Sl×List Int->Nat)->(Nat×Sl×List Int)->Prop):Prop:=cZ (oU a) b a.tables (λx x1 x2=>aL c d (e x) (fJ (g x1) b i+1) (aK (j x2))/\∃(x3:Nat×Sl×List Int->Prop)(x4:Nat×Sl×List Int->Nat),(∃(x5:Nat×Sl×List Int),k x2 x3 x5)/\∀(x5:Nat×Sl×List Int),l x3 x4 x5)
abbrev bI(a b:Sl):Prop:=WT a=WT b
noncomputable abbrev kM(a:Nat×Sl×List Int):Sl:=a.2.1
abbrev bP(a b:Sl):Prop:=bM a.len=bM b.len
noncomputable abbrev cM(a b:Nat)(c:List (List Value)):Option Go.Vc.Own:=Option.some (Own.lst a b c)
abbrev mM(a b:Nat)(c:Option Own):Prop:=cM a b []=c
noncomputable abbrev DM(a:List Int):Option Go.Vc.Own:=cM 3 1 (List.map eI a)
abbrev pJ(a:List Int):Prop:=mM 3 1 (DM a)
noncomputable abbrev pW(a:Nat×Sl×List Int):List Int:=a.2.2
abbrev eO(a:Nat):Prop:=a<=140737488355328
noncomputable abbrev lI(a:List (List Value))(b:Nat):Nat:=a.length+b
noncomputable abbrev gU(a:List Int):List (List Value):=List.map eI a
abbrev xP(a:List Int):Prop:=eO (lI (gU a) 1*8)
abbrev dN(a:List (List Value)):Prop:=a.length<140737488355328
abbrev HR(a:Prop)(b:Nat×Sl×List Int)(c:Int)(d:Nat->Nat->mA->Prop)(e:mA->(Nat×Sl×List Int)->Prop)(g:Prop):Prop:=a->aW (↑b.1:Int) (aG (kM b)) (bD (λx x1=>aH (bE (kM b).a x x1) (c<=(↑b.1:Int)) ((↑b.1:Int)<aG (kM b)) (∃(x2:mA),aH (d x x1 x2) (xP (pW b)) (dN (gU (pW b))) (∃(x3:Nat×Sl×List Int),e x2 x3)))) g
noncomputable abbrev nQ(a:ByteArray)(b:Int):List Value:=jS (Value.string a) (eN b)
noncomputable abbrev gM(a:List Value):List (List Value):=[a]
noncomputable abbrev eT(a:List (List Value))(b:List Value):List (List Value):=a++gM b
abbrev rA(a:List Int)(b:Int)(c:List Int):Prop:=cM 3 1 (eT (gU a) (bW b))=DM c
abbrev dE(a b:PH)(c d:Prop):Prop:=aR (PH.le a b) c d
abbrev bV(a:PH)(b:Nat)(c:List (List Value))(d:Sl->PH->Prop):Prop:=∀(x:Sl)(x1:PH),dE a x1 (cR x1 x b c) (d x x1)
attribute [push_cast] cZ oU aK HS bI kM bP cM mM DM pJ pW eO lI gU xP dN HR nQ gM eT rA dE bV
def OZ(v:bR)(t:Int)(m:MH)(h:PH)(K:CV->MH->PH->Prop):Prop:=
  aW t 0 (K Dm m h) (gK t (hU v) (K Dm m h) (HS v t m h (λb=>b) (λo=>o) 5 (λy=>y) (λy I x=>aA (I x) (eL 32) (aA (bI y (kM x)) (bP y (kM x)) (aA (aZ x.1) (pJ (pW x)) (aA (m=m) (h=h) True)))) (λI m1 x=>HR (I x) x 0 (λb o y=>aL m h b (bF o x.1 2) (nQ y.name y.kind)) (λy x1=>aA (I x1) (m1 x1<m1 x) (aA (eL 32) (bI (kM x) (kM x1)) (aA (bP (kM x) (kM x1)) (fV (bB x.1 1)=bM x1.1) (aA (rA (pW x) y.kind (pW x1)) (m=m) (bN h h))))) (bV h 1 (gU (pW x)) (λs h1=>K (lY s) m h1)))))
abbrev jW(a:bR->nY->Prop):Prop:=∃(x:bR)(x1:nY),a x x1
noncomputable abbrev sA(a:bR):Value:=eN a.version
noncomputable abbrev rZ(a:bR):Value:=eC a.tables
noncomputable abbrev cA(a:bR):List Value:=jS (sA a) (rZ a)
abbrev sN(a:Int):Prop:=a<=281474976710656
attribute [push_cast] jW sA rZ cA sN
def ON(v:bR)(t:Int)(m:MH)(h:PH)(K:CV->MH->PH->Prop):Prop:=
  jW (λv1 s=>∃(t1:Int),aA (cJ (jK (cA v)) t=cJ (jK (cA v1)) t1) (gS h s v1) (branch (!(sR s t1)) (K Dm m h) (cZ (oU v) t v.tables (λb o y=>aA (aL m h b (fJ o t 5+1) (aK y)) (cG 0) (aA (cG (aG y)) (sN (aG y*8)) (sN (aG y)/\HS v t m h (λb1=>b1) (λo1=>o1) 5 (λy1=>y1) (λy1 I x=>aA (I x) (eL 19) (aA (bI y1 (kM x)) (bP y1 (kM x)) (aA (aZ x.1) (pJ (pW x)) (aA (m=m) (h=h) True)))) (λI m1 x=>HR (I x) x 0 (λb1 o1 y1=>aL m h b1 (bF o1 x.1 2) (nQ y1.name y1.kind)) (λy1 x1=>aA (I x1) (m1 x1<m1 x) (aA (eL 19) (bI (kM x) (kM x1)) (aA (bP (kM x) (kM x1)) (fV (bB x.1 1)=bM x1.1) (aA (rA (pW x) y1.kind (pW x1)) (m=m) (bN h h))))) (bV h 1 (gU (pW x))
 (λs1 h1=>K (lY s1) m h1)))))))))
theorem aX.part{o:Nat}{l:List Value}(r:aX h b o l)(k n:Nat):aX h b (o+k) ((l.drop k).take n):=
 ⟨λi v e=>by
  have:l[k+i]? =some v:=by
   rw[List.getElem?_take]at e;split at e
   .rwa [List.getElem?_drop]at e
   .cases e
  have:=r.rd (k+i) v this
  rwa [<-Nat.add_assoc]at this⟩
theorem BB.at{s:Sl}{l:List mA}(r:BB h s l){x:mA}(hi:l[i]? =some x):∃b o,s.a=some ⟨b,o,none⟩/\aX h b (o+i*2) (mA.enc x):=by
 obtain⟨b,o,v,e,k,rfl⟩:=bH.at r hi;exact⟨b,o,e,k⟩
theorem BX{t:Int}(h:¬(0<=t/\t<s.tables.length)):gR s t=[]:=by
 unfold gR;split
 .rfl
 .rw[List.getElem?_eq_none aC]
theorem Ha{t:Int}{x:uD}(h:0<=t)(hx:s.tables[t.toNat]? =some x):gR s t=x.columns.map mA.kind:=by
 unfold gR;rw[if_neg aC,hx]
theorem gS.table{v:bR}(hs:gS h s v){t:Int}(h0:0<=t)(h1:t<(v.tables.len:Int)):∃x b o w,s.tables[t.toNat]? =some x/\v.tables.a=some ⟨b,o,none⟩/\aX h b (o+t.toNat*5) (bO.enc w)/\GP h x w:=by
 have hl:=hs.tables.slen;have hx:s.tables[t.toNat]? =some (s.tables[t.toNat]'(by omega)):=List.getElem?_eq_getElem _;obtain⟨b,o,w,e,r,k⟩:=hs.tables.at hx;exact⟨_,b,o,w,hx,e,r,k⟩
theorem gG{α β:Type}{f:α->β}{l:List α}{x:α}(hx:l[i]? =some x):(l.take (i+1)).map f=(l.take i).map f++[f x]:=by
 rw[List.take_add_one,hx];simp
theorem JM:Sound Tryz.prog 104 Zb:=by
 refine iB Tryz.func104 ?_;rintro cvs m h K ⟨v,s,t,rfl,hs,hK⟩;refine⟨dL [] [] [] [] false,rfl,aF,LI v t m h K,by kernel_rfl,?_⟩;dsimp only[LI,push_cast];have hl:=hs.tables.slen;refine aE (λh1=>hP hK ?_) (λh1=>hP hK ?_)
 .have h1:0<=t:=h1;simp only[sR,hl,decide_eq_true h1,Bool.true_and]
 .have h1:¬0<=t:=by omega
  simp only[sR,decide_eq_false h1,Bool.false_and]
theorem C4:Sound Tryz.prog 44 rX:=by
 refine iB Tryz.func44 ?_;rintro cvs m h K ⟨v,s,t,rfl,hs,h8,hK⟩;refine⟨MS m h,rfl,aF,OZ v t m h K,by kernel_rfl,?_⟩;dsimp only[OZ,push_cast];have hl:=hs.tables.slen;have hnil:gR s t=[]->K (.val (.slice none 0 0)) m h:=λe=>hK ⟨none,0,0⟩ h (.refl _) (by rw[e];exact⟨.nil _ _,by simp⟩);refine aE (λh1=>hnil (BX aC)) (λh1=>aE (λh2=>hnil (BX aC)) (λh2=>?_));obtain⟨x,b,o,w,hx,ea,hr,hrep⟩:=hs.table (t:=t) aC aC;have hx8:=h8 x (List.mem_of_getElem? hx);have hcl:=bH.slen hrep.columns;rw[Ha aC hx]at hK;refine⟨b,o,ea,aC,aC,w.columns,.imm (aX.part hr 1 1),λ⟨i,sl,l⟩=>sl=w.columns/\i<=x.columns.length/\l=(x.columns.take i).map mA.kind,λ⟨i,_,_⟩=>x.columns.length-i,⟨(0,w.columns,[]),⟨rfl,by simp,by simp⟩,MT⟩,?_⟩;rintro⟨i,_,_⟩ ⟨rfl,hi,rfl⟩;dsimp only;refine aE (λhlt=>?_) (λhge sl h' hle hrow=>?_)
 .obtain⟨c,hc⟩:=eY hcl hlt;obtain⟨b,o,e,r⟩:=BB.at hrep.columns hc;refine⟨b,o,e,aC,hlt,c,.imm r,?_,?_,(i+1,w.columns,(x.columns.take (i+1)).map mA.kind),⟨rfl,aC,rfl⟩,by show x.columns.length-(i+1)<x.columns.length-i;omega,?_⟩
  .simp;omega
  .simp;omega
  .rw[gG hc,List.map_append];exact MT
 .rw[List.take_of_length_le aC]at hrow;exact hK sl h' hle ⟨hrow,by simp;omega⟩
theorem Gc:Sound Tryz.prog 72 rX:=by
 refine iB Tryz.func72 ?_;rintro cvs m h K ⟨v,s,t,rfl,hs,h8,hK⟩;refine⟨Xq m h,rfl,aD JM aF,ON v t m h K,by kernel_rfl,?_⟩;dsimp only[ON,push_cast];have hl:=hs.tables.slen;have hnil:gR s t=[]->K (.val (.slice none 0 0)) m h:=λe=>hK ⟨none,0,0⟩ h (.refl _) (by rw[e];exact⟨.nil _ _,by simp⟩);refine⟨v,s,t,rfl,hs,aB (λh1=>hnil (BX ?_)) (λh1=>?_)⟩
 .simp only[sR,Bool.not_eq_true',Bool.and_eq_false_iff,decide_eq_false_iff_not]at h1;omega
 simp only[sR,Bool.not_eq_false',Bool.and_eq_true,decide_eq_true_eq]at h1;obtain⟨x,b,o,w,hx,ea,hr,hrep⟩:=hs.table (t:=t) aC aC;have hx8:=h8 x (List.mem_of_getElem? hx);have hcl:=bH.slen hrep.columns;rw[Ha aC hx]at hK;refine⟨b,o,ea,aC,aC,w.columns,.imm (aX.part hr 1 1),aC,aC,aC,aC,b,o,ea,aC,aC,w.columns,.imm (aX.part hr 1 1),λ⟨i,sl,l⟩=>sl=w.columns/\i<=x.columns.length/\l=(x.columns.take i).map mA.kind,λ⟨i,_,_⟩=>x.columns.length-i,⟨(0,w.columns,[]),⟨rfl,by simp,by simp⟩,MT⟩,?_⟩;rintro⟨i,_,_⟩ ⟨rfl,hi,rfl⟩;dsimp only;refine aE (λhlt=>?_) (λhge sl h' hle hrow=>?_)
 .obtain⟨c,hc⟩:=eY hcl hlt;obtain⟨b,o,e,r⟩:=BB.at hrep.columns hc;refine⟨b,o,e,aC,hlt,c,.imm r,?_,?_,(i+1,w.columns,(x.columns.take (i+1)).map mA.kind),⟨rfl,aC,rfl⟩,by show x.columns.length-(i+1)<x.columns.length-i;omega,?_⟩
  .simp;omega
  .simp;omega
  .rw[gG hc,List.map_append];exact MT
 .rw[List.take_of_length_le aC]at hrow;exact hK sl h' hle ⟨hrow,by simp;omega⟩
def Sub(m m':MH):Prop:=∀b o,m b=some o->m' b=some o
theorem Sub.refl(m:MH):Sub m m:=λ_ _ e=>e
theorem Sub.free(h:Sub m m')(hb:m' b=none):m b=none:=by
 cases e:m b with
 |none=>rfl
 |some o=>rw[h b o e]at hb;cases hb
theorem Sub.upd{mx:MH}(h:Sub m mx)(hb:m b=none)(ho:∀b',b'≠b->m' b'=mx b'):Sub m m':=λb' o e=>by
 have hne:b'≠b:=λe'=>by rw[e',hb]at e;cases e
 rw[ho b' hne,h b' o e]
def GQ(m:MH)(b:Nat)(ns:List ByteArray):Prop:=y8 m b (ns.map λn=>(.string n,.bool true))
theorem GQ.other{b':Nat}{ns:List ByteArray}(h:GQ m b ns)(hne:b≠b')(ho:∀c,c≠b'->m' c=m c):GQ m' b ns:=by
 obtain⟨es,cl,h1,h2⟩:=h.ex;exact⟨es,cl,by rw[ho b hne,h1],h2⟩
def WB:Vc.Spec:=λcvs m h K=>∃v s,cvs=[aS v]/\gS h s v/\∀r:Bool,(r=true↔Good Ah s.tables)->K (cB r) m h
def Wl:Vc.Spec:=λcvs m h K=>∃v s t,∃i:Nat,cvs=[aS v,cI i]/\gS h s v/\s.tables[i]? =some t/\∀r:Bool,(r=true↔Ah (s.tables.take i) t)->K (cB r) m h
noncomputable def V3(v:bR)(h:PH):Ctx:=
 dL [(135,Tb)] [(3,{A:=Nat×Nat×MH,st:=λ⟨i,b1,mx⟩=>cD 79 80 [(3,vv (.map (some b1))),(11,sv v.tables),(12,iv v.tables.len),(13,iv i)] [] mx h}),
  (10,{A:=Nat×Nat×Nat×Nat×Sl×MH,st:=λ⟨i,k,b1,b2,sl,mx⟩=>cD 79 80 [(3,vv (.map (some b1))),(6,vv (.map (some b2))),(11,sv v.tables),(12,iv v.tables.len),(13,iv i),(45,sv sl),(46,iv sl.len),(47,iv k)] [] mx h})] [] [] false
noncomputable def Xg(v:bR)(i:Nat)(m:MH)(h:PH):Ctx:=
 dL [(122,Tb),(93,WD)] [(5,{A:=Nat×bO,st:=λ⟨k,w⟩=>cD 94 96 [(1,iv i),(2,.at (.ptr 2 0)),(5,.at (.ptr 5 0)),(6,iv k)] [(2,.cells 43 (v.enc.map .val)),(5,.cells 86 (w.enc.map .val))] m h}),
  (10,{A:=Nat×bO,st:=λ⟨k,w⟩=>cD 94 96 [(5,.at (.ptr 5 0)),(53,iv w.columns.len),(54,iv k)] [(5,.cells 86 (w.enc.map .val))] m h}),
  (15,{A:=Nat×Nat×bO,st:=λ⟨k,j,w⟩=>cD 94 96 [(5,.at (.ptr 5 0)),(7,iv k),(8,iv j),(53,iv w.columns.len),(54,iv k)] [(5,.cells 86 (w.enc.map .val))] m h})] [] [] false
abbrev AW(a:MH)(b:PH)(c:Nat)(d:Nat->MH->Prop):Prop:=∀(x:Nat)(x1:MH),aR (cH a b x) (jQ a x1 x (Obj.map (Array.mk []) c)) (d x x1)
noncomputable abbrev Br(a:Nat):Value:=Value.map (Option.some a)
abbrev DP(a b:Nat):Prop:=SV.at (At.val (Br a))=SV.at (At.val (Br b))
abbrev lG(a:bR):Prop:=aJ a.tables
abbrev gQ(a:bR):Prop:=bJ a.tables
abbrev Cx(a:Prop)(b:Nat)(c:bR)(d:Nat->Nat->bO->Prop)(e:Prop):Prop:=a->aW (↑b:Int) (aG c.tables) (bD (λx x1=>aH (bE (oU c) x x1) (0<=(↑b:Int)) ((↑b:Int)<aG c.tables) (∃(x2:bO),d x x1 x2))) e
noncomputable abbrev tT(a:bO):List Value:=aT (Value.string a.name) (eC a.columns) (aT (eN a.key) (eC a.references) (aK a.checks))
noncomputable abbrev jI(a:ByteArray):CV:=CV.val (Value.string a)
abbrev mJ(a:CV->MH->PH->Prop)(b:Nat×Nat×MH)(c:PH):Prop:=a aU (fX b) c
abbrev pT(a:Value->Prop):Prop:=KeyLaw Proofs.Tryz.prog 9 a
abbrev HZ(a:MH)(b:Nat)(c:(Value->Prop)->Prop)(d:(List (Value×Bool))->(Value×Bool)->Prop)(e:Prop)(g:Value)(i:Prop):Prop:=∃(x:List (Value×Bool))(x1:Value->Prop),aA (y8 a b (List.map (fun(x2:Value×Bool)=>(x2.1,Value.bool x2.2)) x)) (pT x1) (aA (c x1) (∀(x2:Value×Bool),List.Mem x2 x->x1 x2.1) (((∀(x2:Value×Bool),d x x2)->e)/\∀(x2:Bool),gP (List.Mem (g,x2) x) x2 i e))
noncomputable abbrev CW(a:bO):Value:=Value.string a.name
noncomputable abbrev Az(a:bO):Int:=aG a.columns
abbrev uX(a:(List (Value×Value))->(Value->Prop)->Prop):Prop:=∃(x:List (Value×Value))(x1:Value->Prop),a x x1
abbrev uR(a:Value×Value)(b:List (Value×Value))(c:Value->Prop):Prop:=List.Mem a b->c a.1
noncomputable abbrev kO(a b:Value)(c:List (Value×Value)):List (Value×Value):=(a,b)::c
noncomputable abbrev uV(a b:Value):List (Value×Value):=kO a b []
noncomputable abbrev zF:Value:=Value.bool true
abbrev Mx(a:Nat->Option Obj)(b:Nat)(c:(Value->Prop)->Prop)(d:Value)(e:MH->Prop):Prop:=uX (λx x1=>aA (y8 a b x) (pT x1) (aA (c x1) (∀(x2:Value×Value),uR x2 x x1) ((∀(x2:Value×Value),aR (List.Mem x2 x) (x2.1=d) False)/\∀(x2:MH),aR (iX a x2 b) (y8 x2 b (x++uV d zF)) (e x2))))
noncomputable abbrev FX(a:Nat×Nat×Nat×Nat×Sl×MH):Nat:=a.2.2.2.1
abbrev bX(a b:Nat):Prop:=bM a=bM b
noncomputable abbrev zH(a:Nat×Nat×Nat×Nat×Sl×MH):Sl:=a.2.2.2.2.1
noncomputable abbrev wX(a:Nat×Nat×Nat×Nat×Sl×MH):Nat->Option Obj:=a.2.2.2.2.2
noncomputable abbrev FV(a:mA):Value:=Value.string a.name
abbrev Mu(a:mA)(b:Int)(c:Prop)(d:(Nat×Nat×Nat×Nat×Sl×MH)->Prop):Prop:=branch (a.kind !=b) c (∃(x:Nat×Nat×Nat×Nat×Sl×MH),d x)
abbrev H7(a b:Nat×Nat×Nat×Nat×Sl×MH):Prop:=DP a.2.2.1 b.2.2.1
abbrev H8(a b:Nat×Nat×Nat×Nat×Sl×MH):Prop:=DP (FX a) (FX b)
abbrev H9(a b:Nat×Nat×Nat×Nat×Sl×MH):Prop:=bX a.1 b.1
abbrev Ia(a b:Nat×Nat×Nat×Nat×Sl×MH):Prop:=bI (zH a) (zH b)
abbrev Ib(a b:Nat×Nat×Nat×Nat×Sl×MH):Prop:=bP (zH a) (zH b)
abbrev Ic(a b:Nat×Nat×Nat×Nat×Sl×MH):Prop:=fV (bB a.2.1 1)=bM b.2.1
attribute [push_cast] AW Br DP lG gQ Cx tT jI mJ pT HZ CW Az uX uR kO uV zF Mx FX bX zH wX FV Mu H7 H8 H9 Ia Ib Ic
def GD(v:bR)(m:MH)(h:PH)(K:CV->MH->PH->Prop):Prop:=
  AW m h 0 (λb m1=>∃(I:Nat×Nat×MH->Prop)(m2:Nat×Nat×MH->Nat),Mv (λx=>aA (I x) (DP b (iS x)) (aA (lG v) (gQ v) (aH (aZ x.1) (m1=fX x) (h=h) True))) (λx=>Cx (I x) x.1 v (λb1 o y=>aL (fX x) h b1 (bF o x.1 5) (tT y)/\∃(s:ByteArray),hZ (fT (jI y.name) (jI s)) (!(lS s)) (mJ K x h) (HZ (fX x) (iS x) (λO=>O (CW y)) (λk e=>aR (List.Mem e k) (e.1=CW y) False) (aW y.key 1 (mJ K x h) (eX y.key (Az y) (mJ K x h) (Mx (fX x) (iS x) (λO=>O (CW y)) (CW y) (λm3=>AW m3 h 0 (λb2 m4=>∃(I1:Nat×Nat×Nat×Nat×Sl×MH->Prop)(m5:Nat×Nat×Nat×Nat×Sl×MH->Nat),(∃(x1:Nat×Nat×Nat×Nat×Sl×MH),aA (I1 x1) (DP (iS x) x1.2.2.1) (aA (DP b2 (FX
 x1)) (lG v) (aA (gQ v) (bX x.1 x1.1) (aA (bI y.columns (zH x1)) (bP y.columns (zH x1)) (aH (aZ x1.2.1) (m4=wX x1) (h=h) True)))))/\∀(x1:Nat×Nat×Nat×Nat×Sl×MH),I1 x1->aW (↑x1.2.1:Int) (aG (zH x1)) (bD (λb3 o1=>aH (bE (zH x1).a b3 o1) (0<=(↑x1.2.1:Int)) ((↑x1.2.1:Int)<aG (zH x1)) (∃(y1:mA),aL (wX x1) h b3 (bF o1 x1.2.1 2) (nQ y1.name y1.kind)/\∃(s1:ByteArray),hZ (fT (jI y1.name) (jI s1)) (!(lS s1)) (K aU (wX x1) h) (HZ (wX x1) (FX x1) (λO=>O (FV y1)) (λk e=>aR (List.Mem e k) (e.1=FV y1) False) (Mx (wX x1) (FX x1) (λO=>O (FV y1)) (FV y1) (λm6=>Mu y1 3 (Mu y1 4 (Mu y1 5 (K aU m6 h) (λx2=>aA (I1 x2) (m5 x2<m5 x1) (aA (H7 x1 x2) (H8
 x1 x2) (aA (lG v) (gQ v) (aA (H9 x1 x2) (Ia x1 x2) (aA (Ib x1 x2) (Ic x1 x2) (aA (m6=wX x2) (h=h) True))))))) (λx2=>aA (I1 x2) (m5 x2<m5 x1) (aA (H7 x1 x2) (H8 x1 x2) (aA (lG v) (gQ v) (aA (H9 x1 x2) (Ia x1 x2) (aA (Ib x1 x2) (Ic x1 x2) (aA (m6=wX x2) (h=h) True))))))) (λx2=>aA (I1 x2) (m5 x2<m5 x1) (aA (H7 x1 x2) (H8 x1 x2) (aA (lG v) (gQ v) (aA (H9 x1 x2) (Ia x1 x2) (aA (Ib x1 x2) (Ic x1 x2) (aA (m6=wX x2) (h=h) True)))))))) (FV y1) (K aU (wX x1) h))))) (∃(x2:Nat×Nat×MH),aA (I x2) (m2 x2<m2 x) (aA (DP x1.2.2.1 (iS x2)) (lG v) (aA (gQ v) (fV (bB x1.1 1)=bM x2.1) (aA (wX x1=fX x2) (h=h) True))))))))) (CW y) (mJ K x h))) (K fK (fX x)
 h)))
abbrev HL(a:(Nat×bO->Prop)->(Nat×bO)->Prop)(b:(Nat×bO->Prop)->(Nat×bO->Nat)->(Nat×bO)->Prop):Prop:=∃(x:Nat×bO->Prop)(x1:Nat×bO->Nat),(∃(x2:Nat×bO),a x x2)/\∀(x2:Nat×bO),b x x1 x2
noncomputable abbrev FY(a:bR):List At:=pA (eZ a.version) (uC a.tables)
abbrev bL(a:bR):Prop:=eQ (oQ 43 (FY a))
noncomputable abbrev jR(a:At):List At:=[a]
noncomputable abbrev fE(a:bO):List At:=eW (M7 a.name) (uC a.columns) (eW (eZ a.key) (uC a.references) (jR (uC a.checks)))
abbrev AY(a:bO)(b:Nat×bO):Prop:=oQ 86 (fE a)=oQ 86 (fE b.2)
abbrev Ie(a:Option Addr)(b:Int)(c:Nat)(d:Sl)(e:Nat->Nat->ByteArray->Prop):Prop:=bD (λx x1=>aH (bE a x x1) (b<=(↑c:Int)) ((↑c:Int)<aG d) (∃(x2:ByteArray),e x x1 x2))
noncomputable abbrev dP(a:Nat):Nat:=a+0
noncomputable abbrev qR(a:Nat×Nat×bO):Nat:=a.2.1
noncomputable abbrev jP(a:Nat×Nat×bO):bO:=a.2.2
attribute [push_cast] HL FY bL jR fE AY Ie dP qR jP
def OA(v:bR)(i:Nat)(m:MH)(h:PH)(K:CV->MH->PH->Prop):Prop:=
  bD (λb o=>aH (bE (oU v) b o) (0<=(↑i:Int)) ((↑i:Int)<aG v.tables) (∃(y:bO),aL m h b (bF o i 5) (tT y)/\∃(s:ByteArray),fT (jI y.name) (jI s)/\dA (!(lS s)) (K aU m h) (Az y==0) (K aU m h) (aW y.key 1 (K aU m h) (eX y.key (Az y) (K aU m h) (HL (λI x=>aA (I x) (eQ (bM i)) (aA (eP 2) eE (aA (aZ x.1) (bL v) (aA (AY y x) (m=m) (bN h h))))) (λI m1 x=>I x->aW (↑x.1:Int) (↑i:Int) (Ie (oU v) 0 x.1 v.tables (λb1 o1 y1=>aL m h b1 (dP (bF o1 x.1 5)) (iR (Value.string y1))/\branch (y1.toList==x.2.name.toList) (K aU m h) (∃(x1:Nat×bO),aA (I x1) (m1 x1<m1 x) (aA (eQ (bM i)) gC (aA eE (fV (bB x.1 1)=bM x1.1) (aA (bL v) (AY x.2 x1) (bT (m=m) h h))))))) (HL (λI1
 x1=>aA (I1 x1) eE (aA (bP x.2.columns x1.2.columns) (aZ x1.1) (aH (AY x.2 x1) (m=m) (h=h) True))) (λI1 m2 x1=>I1 x1->aW (↑x1.1:Int) (aG x1.2.columns) (bD (λb1 o1=>aH (bE x1.2.columns.a b1 o1) (0<=(↑x1.1:Int)) ((↑x1.1:Int)<aG x1.2.columns) (∃(y1:ByteArray),aL m h b1 (dP (bF o1 x1.1 2)) (iR (Value.string y1))/\∃(s1:ByteArray),hZ (fT (jI y1) (jI s1)) (!(lS s1)) (K aU m h) (bD (λb2 o2=>aH (bE x1.2.columns.a b2 o2) (0<=(↑x1.1:Int)) ((↑x1.1:Int)<aG x1.2.columns) (∃(y2:Int),aL m h b2 (bF o2 x1.1 2+1) (bW y2)/\∃(k:Int),hZ (nR y2 k) (!(eA k)) (K aU m h) (∃(I2:Nat×Nat×bO->Prop)(m3:Nat×Nat×bO->Nat),(∃(x2:Nat×Nat×bO),aA (I2 x2) eE (aA (bX x1.1 x2.1) (aZ (qR x2)) (aA (bP
 x1.2.columns (jP x2).columns) (bX x1.1 x2.1) (aA (oQ 86 (fE x1.2)=oQ 86 (fE (jP x2))) (m=m) (bN h h)))))/\∀(x2:Nat×Nat×bO),I2 x2->aW (↑(qR x2):Int) (↑x2.1:Int) (Ie (jP x2).columns.a 0 (qR x2) (jP x2).columns (λb3 o3 y3=>aL m h b3 (dP (bF o3 (qR x2) 2)) (iR (Value.string y3))/\Ie (jP x2).columns.a 0 x2.1 (jP x2).columns (λb4 o4 y4=>aL m h b4 (dP (bF o4 x2.1 2)) (iR (Value.string y4))/\branch (y3.toList==y4.toList) (K aU m h) (∃(x3:Nat×Nat×bO),aA (I2 x3) (m3 x3<m3 x2) (aA eE (bX x2.1 x3.1) (aA (fV (bB (qR x2) 1)=bM (qR x3)) (bP (jP x2).columns (jP x3).columns) (aA (bX x2.1 x3.1) (oQ 86 (fE (jP x2))=oQ 86 (fE (jP x3))) (bT (m=m) h h)))))))) (∃(x3:Nat×bO),aA (I1 x3) (m2
 x3<m2 x1) (aA eE (bP (jP x2).columns x3.2.columns) (aA (fV (bB x2.1 1)=bM x3.1) (AY (jP x2) x3) (aA (m=m) (h=h) True))))))))))) (K fK m h)))))))))
theorem GQ.snoc{ns:List ByteArray}{n:ByteArray}(h:y8 m b ((ns.map λn=>(Value.string n,Value.bool true))++[(.string n,.bool true)])):GQ m b (ns++[n]):=by
 unfold GQ;rw[List.map_append];exact h
theorem GQ.look{ns:List ByteArray}(h:GQ m b ns):y8 m b (List.map (λp:Value×Bool=>(p.fst,Value.bool p.snd)) (ns.map λn=>(Value.string n,true))):=by
 rw[List.map_map];exact h
theorem Es{β:Type}{ns:List ByteArray}{x:β}:∀e:Value×β,e∈(ns.map λn=>(Value.string n,x))->∃s,e.fst= .string s:=λe he=>by
 obtain⟨n,_,rfl⟩:=List.mem_map.1 he;exact⟨n,rfl⟩
theorem N9{β:Type}{ns:List ByteArray}{x:β}{n:ByteArray}(h:n∉ns):∀e:Value×β,e∈(ns.map λn=>(Value.string n,x))->e.fst= .string n->False:=λe he h'=>by
 obtain⟨n',hn,rfl⟩:=List.mem_map.1 he;exact h (by have:n'=n:=(by injection h');rwa [<-this])
theorem Cw{β:Type}{ns:List ByteArray}{x:β}{n:ByteArray}(h:∀e:Value×β,e∈(ns.map λn=>(Value.string n,x))->e.fst= .string n->False):n∉ns:=λhn=>h (.string n,x) (List.mem_map.2 ⟨n,hn,rfl⟩) rfl
theorem Oa{β:Type}{ns:List ByteArray}{x y:β}{n:ByteArray}(h:(Value.string n,y)∈(ns.map λn=>(Value.string n,x))):n∈ns/\y=x:=by
 obtain⟨n',hn,e⟩:=List.mem_map.1 h;injection e with e1 e2;injection e1 with e1;exact⟨by rwa [<-e1],e2.symm⟩
theorem RB:Sound Tryz.prog 111 WB:=by
 refine Fa Tryz.func111 ?_;rintro cvs m h K ⟨v,s,rfl,hs,hK⟩;refine⟨V3 v h,rfl,aD Rl aF,GD v m h (kG h K),by kernel_rfl,?_⟩;show GD v m h (kG h K);dsimp only[GD,push_cast];have hl:=hs.tables.slen;have hlen:=hs.tables.len;have hf:¬Good Ah s.tables->K (cB false) m h:=λh=>hK false ⟨λe=>(by cases e),λe=>(h e).elim⟩;intro b m1 hb hm1;refine⟨λ⟨i,b1,mx⟩=>i<=s.tables.length/\Sub m mx/\m b1=none/\GQ mx b1 ((s.tables.take i).map uD.name)/\fB Ah s.tables i,λ⟨i,_,_⟩=>s.tables.length-i,⟨(0,b,m1),⟨aC,(Sub.refl m).upd hb.m_ hm1.other,hb.m_,⟨_,_,hm1.at_,rfl⟩,.zero⟩,MT⟩,?_⟩;rintro⟨i,b1,mx⟩ ⟨hi,hsub,hb1,hmap,hgood⟩;dsimp only;refine aE (λhlt=>?_) (λhge=>.sub hsub (hK true ⟨λ_=>hgood.all aC,λ_=>rfl⟩));obtain⟨t,hx⟩:=eY hl hlt;obtain⟨bb,o,w,ea,hr,hrep⟩:=hs.tables.at hx;have hcl:=bH.slen hrep.columns;have hcb:=bH.len hrep.columns;have hnm:=hrep.name;have hky:=hrep.key;have bad:¬Ah (s.tables.take i) t->kG h K (.val (.bool false)) mx h:=λhn=>.sub hsub (hf (Good.not hx hn));have rest:t.name∉(s.tables.take i).map uD.name->lS w.name=true->1<=w.key->w.key<=w.columns.len->Good PZ t.columns->Ah (s.tables.take i) t:=λh1 h2 h3 h4 h5=>⟨by rw[<-hnm];exact h2,by rw[<-hky];exact h3,by rw[<-hky];omega,h1,h5⟩
 refine⟨bb,o,ea,aC,hlt,w,.imm hr,w.name,rfl,aB (λh1=>bad λht=>?_) (λh1=>⟨_,_,hmap.look,Ar,⟨_,rfl⟩,Es,λhno=>aE (λh2=>bad λht=>?_) (λh2=>aE (λh3=>bad λht=>?_) (λh3=>⟨_,_,hmap,Ar,⟨_,rfl⟩,Es,N9 (Cw hno),λm2 hs2 hm2 b2 m3 hb2 hm3=>?_⟩)),λy hy=>?_⟩)⟩
 .have:=ht.1;rw[<-hnm]at this;rw[this]at h1;cases h1
 .have:=ht.2.1;omega
 .have:=ht.2.2.1;omega
 .have hm2:=GQ.snoc hm2;have hsub2:Sub m m2:=hsub.upd hb1 hs2.other;have hsub3:Sub m m3:=hsub2.upd (hsub2.free hb2.m_) hm3.other
  have hne:b1≠b2:=λe=>by
   obtain⟨es,cl,e1,_⟩:=hm2.ex;rw[e,hb2.m_]at e1;cases e1
  have hno':t.name∉(s.tables.take i).map uD.name:=by rw[<-hnm];exact Cw hno
  rw[hnm, <-gG hx]at hm2
  refine⟨λ⟨i',k,b1',b2',sl,my⟩=>i'=i/\b1'=b1/\b2'=b2/\sl=w.columns/\k<=t.columns.length/\Sub m my/\GQ my b1 ((s.tables.take (i+1)).map uD.name)/\GQ my b2 ((t.columns.take k).map mA.name)/\fB PZ t.columns k,λ⟨_,k,_,_,_,_⟩=>t.columns.length-k,
   ⟨(i,0,b1,b2,w.columns,m3),⟨rfl,rfl,rfl,rfl,aC,hsub3,hm2.other hne hm3.other,⟨_,_,hm3.at_,rfl⟩,.zero⟩,MT⟩,?_⟩
  rintro⟨i,k,b1,b2,_,my⟩ ⟨rfl,rfl,rfl,rfl,hk,hsuby,hmy1,hmy2,hg2⟩;dsimp only;refine aE (λhlt2=>?_) (λhge2=>?_)
  .obtain⟨c,hc⟩:=eY hcl hlt2;obtain⟨bc,oc,ec,rc⟩:=BB.at hrep.columns hc;have cbad:∀mz,Sub m mz->¬PZ (t.columns.take k) c->kG h K (.val (.bool false)) mz h:=λmz hz hn=>.sub hz (hf (Good.not hx (λht=>Good.not hc hn ht.2.2.2.2)));refine⟨bc,oc,ec,aC,hlt2,c,.imm rc,c.name,rfl,aB (λh4=>cbad my hsuby λht=>?_) (λh4=>⟨_,_,hmy2.look,Ar,⟨_,rfl⟩,Es,λhno2=>⟨_,_,hmy2,Ar,⟨_,rfl⟩,Es,N9 (Cw hno2),λm4 hs4 hm4=>?_⟩,λy hy=>?_⟩)⟩
   .rw[ht.1]at h4;cases h4
   .have hm4:=GQ.snoc hm4;rw[<-gG hc]at hm4;have hsub4:Sub m m4:=hsuby.upd (hsub2.free hb2.m_) hs4.other;have cgood:eA c.kind=true->PZ (t.columns.take k) c:=λe=>⟨by simpa using h4,e,Cw hno2⟩
    have ckind:eA c.kind=false->¬PZ (t.columns.take k) c:=λe ht=>by rw[ht.2.1]at e;cases e
    have m1':=hmy1.other hne hs4.other
    repeat' (first|(refine aB (λ_=>?_) (λ_=>?_))|(refine cbad m4 hsub4 (ckind ?_);simp_all [eA];done)|exact⟨(i,k+1,b1,b2,w.columns,m4),⟨rfl,rfl,rfl,rfl,by show k+1<=t.columns.length;omega,hsub4,m1',hm4,hg2.succ hc (cgood (by simp_all [eA]))⟩,by show t.columns.length-(k+1)<t.columns.length-k;omega,MT⟩)
   .obtain⟨hin,rfl⟩:=Oa hy;exact aB (λ_=>cbad my hsuby λht=>ht.2.2 hin) (λe=>by cases e)
  .refine⟨(i+1,b1,my),⟨aC,hsuby,hb1,hmy1,hgood.succ hx (rest hno' (by simpa using h1) aC aC (hg2.all aC))⟩,?_,MT⟩;show s.tables.length-(i+1)<s.tables.length-i;omega
 .obtain⟨hin,rfl⟩:=Oa hy;exact aB (λ_=>bad λht=>ht.2.2.2.1 (by rw[<-hnm];exact hin)) (λe=>by cases e)
theorem IU{α:Type}{f:α->ByteArray}{l:List α}{x:α}{n:ByteArray}(hx:l[i]? =some x)(h:n∉(l.take i).map f)(hn:f x≠n):n∉(l.take (i+1)).map f:=by
 rw[gG hx,List.mem_append];rintro(e|e)
 .exact h e
 .simp at e;exact hn e.symm
theorem Yp{α:Type}{f:α->ByteArray}{l:List α}{x:α}{n:ByteArray}(hx:l[i]? =some x)(hi:i<k)(hn:f x=n):n∈(l.take k).map f:=
 List.mem_map.2 ⟨x,List.mem_of_getElem? (i:=i) (by rw[List.getElem?_take,if_pos hi,hx]),hn⟩
theorem TT:Sound Tryz.prog 91 Wl:=by
 refine iB Tryz.func91 ?_;rintro cvs m h K ⟨v,s,t,i,rfl,hs,hx,hK⟩;refine⟨Xg v i m h,rfl,aD Ru (aD KV aF),OA v i m h K,by kernel_rfl,?_⟩;dsimp only[OA,push_cast];have hl:=hs.tables.slen;have hlen:=hs.tables.len;have hil:i<s.tables.length:=(List.getElem?_eq_some_iff.1 hx).1;have bad:¬Ah (s.tables.take i) t->K (.val (.bool false)) m h:=λh=>hK false ⟨λe=>(by cases e),λe=>(h e).elim⟩;obtain⟨bb,o,w,ea,hr,hrep⟩:=hs.tables.at hx;have hcl:=bH.slen hrep.columns;have hcb:=bH.len hrep.columns;have hnm:=hrep.name;have hky:=hrep.key;refine⟨bb,o,ea,aC,aC,w,.imm hr,w.name,rfl,aB (λh1=>bad λht=>?_) (λh1=>aB (λh2=>bad λht=>?_) (λh2=>aE (λh3=>bad λht=>?_) (λh3=>aE (λh4=>bad λht=>?_) (λh4=>?_))))⟩
 .have:=ht.1;rw[<-hnm]at this;rw[this]at h1;cases h1
 .have:=ht.2.1;have:=ht.2.2.1;have:(w.columns.len:Int)=0:=(by simpa using h2);omega
 .have:=ht.2.1;omega
 .have:=ht.2.2.1;omega
 refine⟨λ⟨k,w'⟩=>w'=w/\k<=i/\t.name∉(s.tables.take k).map uD.name,λ⟨k,_⟩=>i-k,⟨(0,w),⟨rfl,aC,by simp⟩,MT⟩,?_⟩;rintro⟨k,w⟩ ⟨rfl,hk,hno⟩;dsimp only;refine aE (λhlt=>?_) (λhge=>?_)
 .obtain⟨t',hx'⟩:∃t',s.tables[k]? =some t':=⟨s.tables[k]'(by omega),List.getElem?_eq_getElem _⟩
  obtain⟨b',o',w',ea',hr',hrep'⟩:=hs.tables.at hx';refine⟨b',o',ea',aC,aC,w'.name,.imm (aX.part hr' 0 1),aB (λe=>bad λht=>?_) (λe=>?_)⟩
  .refine ht.2.2.2.1 (Yp hx' aC ?_);rw[<-hrep'.name, <-hnm];exact wK (by simpa using e)
  .refine⟨(k+1,w),⟨rfl,aC,IU hx' hno λe'=>?_⟩,by show i-(k+1)<i-k;omega,MT⟩;rw[<-hrep'.name, <-hnm]at e';rw[e']at e;simp at e
 .have hki:k=i:=by omega
  subst hki;refine⟨λ⟨k,w'⟩=>w'=w/\k<=t.columns.length/\fB PZ t.columns k,λ⟨k,_⟩=>t.columns.length-k,⟨(0,w),⟨rfl,aC,.zero⟩,MT⟩,?_⟩;rintro⟨c,w⟩ ⟨rfl,hc,hg⟩;dsimp only;refine aE (λhlt=>?_) (λhge2=>hK true ⟨λ_=>⟨by rw[<-hnm];simpa using h1,aC,aC,hno,hg.all aC⟩,λ_=>rfl⟩);obtain⟨x,hxc⟩:=eY hcl hlt;obtain⟨bc,oc,ec,rc⟩:=BB.at hrep.columns hxc;have cbad:¬PZ (t.columns.take c) x->K (.val (.bool false)) m h:=λhn=>bad λht=>Good.not hxc hn ht.2.2.2.2;refine⟨bc,oc,ec,aC,hlt,x.name,.imm (aX.part rc 0 1),x.name,rfl,aB (λe1=>cbad λht=>?_) (λe1=>⟨bc,oc,ec,aC,hlt,x.kind,.imm (aX.part rc 1 1),x.kind,rfl,aB (λe2=>cbad λht=>?_) (λe2=>?_)⟩)⟩
  .rw[ht.1]at e1;cases e1
  .rw[ht.2.1]at e2;cases e2
  refine⟨λ⟨c',j,w'⟩=>w'=w/\c'=c/\j<=c/\x.name∉(t.columns.take j).map mA.name,λ⟨_,j,_⟩=>c-j,⟨(c,0,w),⟨rfl,rfl,aC,by simp⟩,MT⟩,?_⟩;rintro⟨c,j,w⟩ ⟨rfl,rfl,hj,hnoj⟩;dsimp only;refine aE (λhlt3=>?_) (λhge3=>?_)
  .obtain⟨y,hy⟩:∃y,t.columns[j]? =some y:=⟨t.columns[j]'(by omega),List.getElem?_eq_getElem _⟩
   obtain⟨by',oy,ey,ry⟩:=BB.at hrep.columns hy;refine⟨by',oy,ey,aC,aC,y.name,.imm (aX.part ry 0 1),bc,oc,ec,aC,hlt,x.name,.imm (aX.part rc 0 1),aB (λe=>cbad λht=>?_) (λe=>?_)⟩
   .exact ht.2.2 (Yp hy aC (wK (by simpa using e)))
   .refine⟨(c,j+1,w),⟨rfl,rfl,by show j+1<=c;omega,IU hy hnoj λe'=>?_⟩,by show c-(j+1)<c-j;omega,MT⟩;rw[e']at e;simp at e
  .have:j=c:=by omega
   subst this;exact⟨(j+1,w),⟨rfl,aC,hg.succ hxc ⟨by simpa using e1,by simpa using e2,hnoj⟩⟩,by show t.columns.length-(j+1)<t.columns.length-j;omega,MT⟩
def D3(t g:uD)(k:Nat)(c:Int):Prop:=0<=c/\c<t.columns.length/\∃x y,t.columns[c.toNat]? =some x/\g.columns[k]? =some y/\x.kind=y.kind
def Wx(tabs:List uD)(t:uD)(_:List Ref)(r:Ref):Prop:=0<=r.table/\r.table<tabs.length/\∃g,tabs[r.table.toNat]? =some g/\(r.columns.length:Int)=g.key/\Good (λpre c=>D3 t g pre.length c) r.columns
def Bw(tabs:List uD)(_:List uD)(t:uD):Prop:=Good (Wx tabs t) t.refs
def Ww:Vc.Spec:=λcvs m h K=>∃v s,cvs=[aS v]/\gS h s v/\Good Ah s.tables/\∀r:Bool,(r=true↔Good (Bw s.tables) s.tables)->K (cB r) m h
def S4:Vc.Spec:=λcvs m h K=>∃v s t,∃i:Nat,cvs=[aS v,cI i]/\gS h s v/\Good Ah s.tables/\s.tables[i]? =some t/\∀r:Bool,(r=true↔Bw s.tables [] t)->K (cB r) m h
noncomputable def V2(v:bR)(m:MH)(h:PH):Ctx:=
 dL [] [(2,{A:=Nat,st:=λi=>cD 82 83 [(1,.at (.ptr 1 0)),(11,sv v.tables),(12,iv v.tables.len),(13,iv i)] [(1,.cells 43 (v.enc.map .val))] m h}),
  (5,{A:=Nat×Nat×bO,st:=λ⟨i,k,w⟩=>cD 82 83 [(1,.at (.ptr 1 0)),(4,.at (.ptr 4 0)),(11,sv v.tables),(12,iv v.tables.len),(13,iv i),(18,sv w.references),(19,iv w.references.len),(20,iv k)] [(1,.cells 43 (v.enc.map .val)),(4,.cells 86 (w.enc.map .val))] m h}),
  (13,{A:=Nat×Nat×Nat×bO×bO×Sl,st:=λ⟨i,k,j,w,g,sl⟩=>cD 82 83 [(1,.at (.ptr 1 0)),(4,.at (.ptr 4 0)),(7,.at (.ptr 7 0)),(11,sv v.tables),(12,iv v.tables.len),(13,iv i),(18,sv w.references),(19,iv w.references.len),(20,iv k),(48,sv sl),(49,iv sl.len),(50,iv j)] [(1,.cells 43 (v.enc.map .val)),(4,.cells 86 (w.enc.map .val)),(7,.cells 86 (g.enc.map .val))] m h})] [] [] false
noncomputable def Xf(v:bR)(m:MH)(h:PH):Ctx:=
 dL [] [(3,{A:=Nat×bO,st:=λ⟨k,w⟩=>cD 85 87 [(2,.at (.ptr 2 0)),(5,.at (.ptr 5 0)),(16,sv w.references),(17,iv w.references.len),(18,iv k)] [(2,.cells 43 (v.enc.map .val)),(5,.cells 86 (w.enc.map .val))] m h}),
  (8,{A:=Nat×Nat×bO×Bz,st:=λ⟨k,j,w,r⟩=>cD 85 87 [(2,.at (.ptr 2 0)),(5,.at (.ptr 5 0)),(7,.at (.ptr 7 0)),(16,sv w.references),(17,iv w.references.len),(18,iv k),(47,sv r.columns),(48,iv r.columns.len),(49,iv j)] [(2,.cells 43 (v.enc.map .val)),(5,.cells 86 (w.enc.map .val)),(7,.cells 118 (r.enc.map .val))] m h})] [] [] false
abbrev lV(a:(Nat->Prop)->Nat->Prop)(b:(Nat->Prop)->(Nat->Nat)->Nat->Prop):Prop:=∃(x:Nat->Prop)(x1:Nat->Nat),j2 (∃(x2:Nat),a x x2) (λx2=>b x x1 x2)
abbrev eD:Prop:=eP 1
abbrev AA(a b:bO):Prop:=bI a.references b.references
abbrev AB(a b:bO):Prop:=bP a.references b.references
abbrev Cy(a:bR)(b:Int)(c:Nat->Nat->Prop):Prop:=bD (λx x1=>aH (bE (oU a) x x1) (0<=b) (b<aG a.tables) (c x x1))
noncomputable abbrev oR(a:Nat×Nat×Nat×bO×bO×Sl):bO:=a.2.2.2.1
noncomputable abbrev tG(a:Nat×Nat×Nat×bO×bO×Sl):Sl:=a.2.2.2.2.2
noncomputable abbrev rF(a:Nat×Nat×Nat×bO×bO×Sl):Nat:=a.2.2.1
noncomputable abbrev FR(a:Nat×Nat×Nat×bO×bO×Sl):bO:=a.2.2.2.2.1
attribute [push_cast] lV eD AA AB Cy oR tG rF FR
def GC(v:bR)(m:MH)(h:PH)(K:CV->MH->PH->Prop):Prop:=
  lV (λI x=>aA (I x) eD (aA (lG v) (gQ v) (aA (aZ x) (bL v) (aA (m=m) (h=h) True)))) (λI m1 x=>Cx (I x) x v (λb o y=>aL m h b (bF o x 5) (tT y)/\∃(I1:Nat×Nat×bO->Prop)(m2:Nat×Nat×bO->Nat),(∃(x1:Nat×Nat×bO),aA (I1 x1) eD (aA (eP 4) (lG v) (aA (gQ v) (bX x x1.1) (aA (AA y (jP x1)) (AB y (jP x1)) (aA (aZ (qR x1)) (bL v) (aA (oQ 86 (fE y)=oQ 86 (fE (jP x1))) (m=m) (bN h h)))))))/\∀(x1:Nat×Nat×bO),I1 x1->aW (↑(qR x1):Int) (aG (jP x1).references) (bD (λb1 o1=>aH (bE (jP x1).references.a b1 o1) (0<=(↑(qR x1):Int)) ((↑(qR x1):Int)<aG (jP x1).references) (∃(y1:Bz),aL m h b1 (bF o1 (qR x1) 2) (jS (eC y1.columns) (eN y1.table))/\aW
 y1.table 0 (K aU m h) (gK y1.table (hU v) (K aU m h) (Cy v y1.table (λb2 o2=>∃(y2:bO),aL m h b2 (fJ o2 y1.table 5) (tT y2)/\eR (aG y1.columns) y2.key (K aU m h) (∃(I2:Nat×Nat×Nat×bO×bO×Sl->Prop)(m3:Nat×Nat×Nat×bO×bO×Sl->Nat),(∃(x2:Nat×Nat×Nat×bO×bO×Sl),aA (I2 x2) eD (aA (eP 4) (eP 7) (aA (lG v) (gQ v) (aA (bX x1.1 x2.1) (AA (jP x1) (oR x2)) (aA (AB (jP x1) (oR x2)) (bX (qR x1) x2.2.1) (aA (bI y1.columns (tG x2)) (bP y1.columns (tG x2)) (aA (aZ (rF x2)) (bL v) (aA (oQ 86 (fE (jP x1))=oQ 86 (fE (oR x2))) (oQ 86 (fE y2)=oQ 86 (fE (FR x2))) (bT (m=m) h h)))))))))/\∀(x2:Nat×Nat×Nat×bO×bO×Sl),I2 x2->aW (↑(rF x2):Int) (aG
 (tG x2)) (bD (λb3 o3=>aH (bE (tG x2).a b3 o3) (0<=(↑(rF x2):Int)) ((↑(rF x2):Int)<aG (tG x2)) (∃(y3:Int),aL m h b3 (bF o3 (rF x2) 1) (bW y3)/\aW y3 0 (K aU m h) (gK y3 (Az (oR x2)) (K aU m h) (bD (λb4 o4=>aH (bE (oR x2).columns.a b4 o4) (0<=y3) (y3<aG (oR x2).columns) (∃(y4:Int),aL m h b4 (fJ o4 y3 2+1) (bW y4)/\bD (λb5 o5=>aH (bE (FR x2).columns.a b5 o5) (0<=(↑(rF x2):Int)) ((↑(rF x2):Int)<aG (FR x2).columns) (∃(y5:Int),aL m h b5 (bF o5 (rF x2) 2+1) (bW y5)/\eR y4 y5 (K aU m h) (∃(x3:Nat×Nat×Nat×bO×bO×Sl),aA (I2 x3) (m3 x3<m3 x2) (aA eD (eP 4) (aA (eP 7) (lG v) (aA (gQ v) (bX x2.1 x3.1) (aA (AA (oR x2) (oR x3)) (AB
 (oR x2) (oR x3)) (aA (bX x2.2.1 x3.2.1) (bI (tG x2) (tG x3)) (aA (bP (tG x2) (tG x3)) (fV (bB (rF x2) 1)=bM (rF x3)) (aA (bL v) (oQ 86 (fE (oR x2))=oQ 86 (fE (oR x3))) (aH (oQ 86 (fE (FR x2))=oQ 86 (fE (FR x3))) (m=m) (h=h) True)))))))))))))))))) (∃(x3:Nat×Nat×bO),aA (I1 x3) (m2 x3<m2 x1) (aA eD (eP 4) (aA (lG v) (gQ v) (aA (bX x2.1 x3.1) (AA (oR x2) (jP x3)) (aA (AB (oR x2) (jP x3)) (fV (bB x2.2.1 1)=bM (qR x3)) (aA (bL v) (oQ 86 (fE (oR x2))=oQ 86 (fE (jP x3))) (bT (m=m) h h)))))))))))))) (∃(x2:Nat),aA (I x2) (m1 x2<m1 x) (aA eD (lG v) (aA (gQ v) (fV (bB x1.1 1)=bM x2) (aA (bL v) (m=m) (bN h h)))))) (K fK m h))
noncomputable abbrev oS(a:Nat×Nat×bO×Bz):bO:=a.2.2.1
noncomputable abbrev oC(a:Nat×Nat×bO×Bz):Sl:=a.2.2.2.columns
noncomputable abbrev CR(a:Nat×Nat×bO×Bz):Int:=a.2.2.2.table
attribute [push_cast] oS oC CR
def Js(v:bR)(i:Nat)(m:MH)(h:PH)(K:CV->MH->PH->Prop):Prop:=
  bD (λb o=>aH (bE (oU v) b o) (0<=(↑i:Int)) ((↑i:Int)<aG v.tables) (∃(y:bO),aL m h b (bF o i 5) (tT y)/\HL (λI x=>aA (I x) gC (aA (eP 5) (AA y x.2) (aA (AB y x.2) (aZ x.1) (aA (bL v) (AY y x) (bT (m=m) h h))))) (λI m1 x=>I x->aW (↑x.1:Int) (aG x.2.references) (bD (λb1 o1=>aH (bE x.2.references.a b1 o1) (0<=(↑x.1:Int)) ((↑x.1:Int)<aG x.2.references) (∃(y1:Bz),aL m h b1 (bF o1 x.1 2) (jS (eC y1.columns) (eN y1.table))/\aW y1.table 0 (K aU m h) (gK y1.table (hU v) (K aU m h) (bD (λb2 o2=>aH (bE (oU v) b2 o2) (0<=y1.table) (y1.table<aG v.tables) (∃(y2:Int),aL m h b2 (fJ o2 y1.table 5+2) (bW y2)/\eR (aG y1.columns) y2 (K aU m h) (∃(I1:Nat×Nat×bO×Bz->Prop)(m2
 :Nat×Nat×bO×Bz->Nat),(∃(x1:Nat×Nat×bO×Bz),aA (I1 x1) gC (aA (eP 5) (eP 7) (aA (AA x.2 (oS x1)) (AB x.2 (oS x1)) (aA (bX x.1 x1.1) (bI y1.columns (oC x1)) (aA (bP y1.columns (oC x1)) (aZ x1.2.1) (aA (bL v) (oQ 86 (fE x.2)=oQ 86 (fE (oS x1))) (aH (oQ 118 (pA (uC y1.columns) (eZ y1.table))=oQ 118 (pA (uC (oC x1)) (eZ (CR x1)))) (m=m) (h=h) True)))))))/\∀(x1:Nat×Nat×bO×Bz),I1 x1->aW (↑x1.2.1:Int) (aG (oC x1)) (bD (λb3 o3=>aH (bE (oC x1).a b3 o3) (0<=(↑x1.2.1:Int)) ((↑x1.2.1:Int)<aG (oC x1)) (∃(y3:Int),aL m h b3 (bF o3 x1.2.1 1) (bW y3)/\aW y3 0 (K aU m h) (gK y3 (Az (oS x1)) (K aU m h) (bD (λb4 o4=>aH (bE (oS x1).columns.a b4 o4) (0<=y3) (y3<
 aG (oS x1).columns) (∃(y4:Int),aL m h b4 (fJ o4 y3 2+1) (bW y4)/\cZ (oU v) (CR x1) v.tables (λb5 o5 y5=>aL m h b5 (fJ o5 (CR x1) 5+1) (aK y5)/\bD (λb6 o6=>aH (bE y5.a b6 o6) (0<=(↑x1.2.1:Int)) ((↑x1.2.1:Int)<aG y5) (∃(y6:Int),aL m h b6 (bF o6 x1.2.1 2+1) (bW y6)/\eR y4 y6 (K aU m h) (∃(x2:Nat×Nat×bO×Bz),aA (I1 x2) (m2 x2<m2 x1) (aA gC eE (aA (eP 7) (AA (oS x1) (oS x2)) (aA (AB (oS x1) (oS x2)) (bX x1.1 x2.1) (aA (bI (oC x1) (oC x2)) (bP (oC x1) (oC x2)) (aA (fV (bB x1.2.1 1)=bM x2.2.1) (bL v) (aA (oQ 86 (fE (oS x1))=oQ 86 (fE (oS x2))) (oQ 118 (pA (uC (oC x1)) (eZ (CR x1)))=oQ 118 (pA (uC (oC x2)) (eZ (CR x2)))) (aA (m=m) (h
 =h) True)))))))))))))))))) (∃(x2:Nat×bO),aA (I x2) (m1 x2<m1 x) (aA gC eE (aA (AA (oS x1) x2.2) (AB (oS x1) x2.2) (aA (fV (bB x1.1 1)=bM x2.1) (bL v) (aH (AY (oS x1) x2) (m=m) (h=h) True))))))))))))) (K fK m h))))
theorem Ints.at'{s:Sl}(r:Ints h s l){x:Int}(hi:l[i]? =some x):∃b o,s.a=some ⟨b,o,none⟩/\aX h b (o+i*1) [.int .i64 x]:=by
 obtain⟨b,o,e,k⟩:=r.at hi;exact⟨b,o,e,by rwa [Nat.mul_one]⟩
theorem NF{α:Type}{l:List α}{x:α}(h:l[i]? =some x):(l.take i).length=i:=by
 have:=(List.getElem?_eq_some_iff.1 h).1;rw[List.length_take];omega
theorem Good.key_le{tabs:List uD}(h:Good Ah tabs){g:uD}(hg:tabs[i]? =some g):g.key<=g.columns.length:=(h i g hg).2.2.1
theorem X7{v:bR}(hs:gS h s v)(hgood:Good Ah s.tables)(hK:∀r:Bool,(r=true↔Good (Bw s.tables) s.tables)->K (cB r) m h):GC v m h K:=by
 dsimp only[GC,push_cast];have hl:=hs.tables.slen;have hlen:=hs.tables.len;have hf:¬Good (Bw s.tables) s.tables->K (.val (.bool false)) m h:=λh=>hK false ⟨λe=>(by cases e),λe=>(h e).elim⟩;refine⟨λi=>i<=s.tables.length/\fB (Bw s.tables) s.tables i,λi=>s.tables.length-i,⟨0,⟨aC,.zero⟩,MT⟩,λi⟨hi,hg⟩=>aE (λhlt=>?_) (λhge=>hK true ⟨λ_=>hg.all aC,λ_=>rfl⟩)⟩;obtain⟨t,hx⟩:=eY hl hlt;obtain⟨b,o,w,ea,hr,hrep⟩:=hs.tables.at hx;have hcl:=bH.slen hrep.columns;have hrl:=bH.slen hrep.refs;have hrb:=bH.len hrep.refs;refine⟨b,o,ea,aC,hlt,w,.imm hr,λ⟨i',k,w'⟩=>i'=i/\w'=w/\k<=t.refs.length/\fB (Wx s.tables t) t.refs k,λ⟨_,k,_⟩=>t.refs.length-k,⟨(i,0,w),⟨rfl,rfl,aC,.zero⟩,MT⟩,?_⟩;rintro⟨i,k,w⟩ ⟨rfl,rfl,hk,hg2⟩;dsimp only;refine aE (λhlt2=>?_) (λhge2=>⟨i+1,⟨aC,hg.succ hx (hg2.all aC)⟩,by show s.tables.length-(i+1)<s.tables.length-i;omega,MT⟩);obtain⟨r,hrx⟩:=eY hrl hlt2;obtain⟨b2,o2,rv,ea2,hr2,hrep2⟩:=hrep.refs.at hrx;have rcl:=hrep2.columns.slen;have rcb:=hrep2.columns.len;have rt:=hrep2.table;have bad:¬Wx s.tables t (t.refs.take k) r->K (.val (.bool false)) m h:=λhn=>hf (Good.not hx (Good.not hrx hn));refine⟨b2,o2,ea2,aC,hlt2,rv,.imm hr2,aE (λh1=>bad λht=>?_) (λh1=>aE (λh2=>bad λht=>?_) (λh2=>?_))⟩
 .have:=ht.1;omega
 .have:=ht.2.1;omega
 obtain⟨g,b3,o3,gv,hgx,ea3,hr3,hrep3⟩:=hs.table (t:=rv.table) aC aC;have gcl:=bH.slen hrep3.columns;have hkey:=hgood.key_le hgx;have gk:=hrep3.key;refine⟨b3,o3,ea3,aC,aC,gv,.imm hr3,aB (λh3=>bad λht=>?_) (λh3=>?_)⟩
 .obtain⟨_,_,g',hg',hk',_⟩:=ht;rw[<-rt,hgx]at hg';cases hg';have:(rv.columns.len:Int)≠gv.key:=by simpa using h3
  omega
 have h3:(rv.columns.len:Int)=gv.key:=by simpa using h3
 refine⟨λ⟨i',k',j,w',g',sl⟩=>i'=i/\k'=k/\w'=w/\g'=gv/\sl=rv.columns/\j<=r.columns.length/\fB (λpre c=>D3 t g pre.length c) r.columns j,λ⟨_,_,j,_,_,_⟩=>r.columns.length-j,⟨(i,k,0,w,gv,rv.columns),⟨rfl,rfl,rfl,rfl,rfl,aC,.zero⟩,MT⟩,?_⟩;rintro⟨i,k,j,w,gv,_⟩ ⟨rfl,rfl,rfl,rfl,rfl,hj,hg3⟩;dsimp only;refine aE (λhlt3=>?_) (λhge3=>⟨(i,k+1,w),⟨rfl,rfl,by show k+1<=t.refs.length;omega,hg2.succ hrx ⟨aC,aC,g,by rw[<-rt];exact hgx,aC,hg3.all aC⟩⟩,by show t.refs.length-(k+1)<t.refs.length-k;omega,MT⟩);obtain⟨c,hc⟩:=eY rcl hlt3;obtain⟨b4,o4,ea4,hr4⟩:=hrep2.columns.at' hc;have htl:=NF hc
 have cbad:¬D3 t g j c->K (.val (.bool false)) m h:=λhn=>bad λht=>by
  obtain⟨_,_,g',hg',_,hgo⟩:=ht;rw[<-rt,hgx]at hg';cases hg';have:=hgo j c hc;dsimp only at this;rw[htl]at this;exact hn this
 refine⟨b4,o4,ea4,aC,hlt3,c,.imm hr4,aE (λh5=>cbad λht=>?_) (λh5=>aE (λh6=>cbad λht=>?_) (λh6=>?_))⟩
 .have:=ht.1;omega
 .have:=ht.2.1;omega
 obtain⟨x,hxx⟩:∃x,t.columns[c.toNat]? =some x:=⟨t.columns[c.toNat]'(by omega),List.getElem?_eq_getElem _⟩
 obtain⟨y,hyy⟩:∃y,g.columns[j]? =some y:=⟨g.columns[j]'(by omega),List.getElem?_eq_getElem _⟩
 obtain⟨b5,o5,ea5,hr5⟩:=BB.at hrep.columns hxx;obtain⟨b6,o6,ea6,hr6⟩:=BB.at hrep3.columns hyy;refine⟨b5,o5,ea5,aC,aC,x.kind,.imm (aX.part hr5 1 1),b6,o6,ea6,aC,aC,y.kind,.imm (aX.part hr6 1 1),aB (λh7=>cbad λht=>?_) (λh7=>?_)⟩
 .obtain⟨_,_,x',y',e1,e2,e3⟩:=ht;rw[hxx]at e1;rw[hyy]at e2;cases e1;cases e2;rw[e3]at h7;simp at h7
 .exact⟨(i,k,j+1,w,gv,rv.columns),⟨rfl,rfl,rfl,rfl,rfl,by show j+1<=r.columns.length;omega,hg3.succ hc (by show D3 t g (List.take j r.columns).length c;rw[htl];exact⟨aC,aC,x,y,hxx,hyy,by simpa using h7⟩)⟩,by show r.columns.length-(j+1)<r.columns.length-j;omega,MT⟩
theorem RA:Sound Tryz.prog 112 Ww:=by
 refine iB Tryz.func112 ?_;rintro cvs m h K ⟨v,s,rfl,hs,hg,hK⟩;refine⟨V2 v m h,rfl,aF,GC v m h K,by kernel_rfl,?_⟩;exact X7 hs hg hK
theorem Y1{v:bR}{t:uD}(hs:gS h s v)(hgood:Good Ah s.tables)(hx:s.tables[i]? =some t)(hK:∀r:Bool,(r=true↔Bw s.tables [] t)->K (cB r) m h):Js v i m h K:=by
 dsimp only[Js,push_cast];have hl:=hs.tables.slen;have hlen:=hs.tables.len;have hil:i<s.tables.length:=(List.getElem?_eq_some_iff.1 hx).1;have hf:¬Bw s.tables [] t->K (.val (.bool false)) m h:=λh=>hK false ⟨λe=>(by cases e),λe=>(h e).elim⟩;obtain⟨b,o,w,ea,hr,hrep⟩:=hs.tables.at hx;have hcl:=bH.slen hrep.columns;have hrl:=bH.slen hrep.refs;have hrb:=bH.len hrep.refs;refine⟨b,o,ea,aC,aC,w,.imm hr,λ⟨k,w'⟩=>w'=w/\k<=t.refs.length/\fB (Wx s.tables t) t.refs k,λ⟨k,_⟩=>t.refs.length-k,⟨(0,w),⟨rfl,aC,.zero⟩,MT⟩,?_⟩;rintro⟨k,w⟩ ⟨rfl,hk,hg2⟩;dsimp only;refine aE (λhlt2=>?_) (λhge2=>hK true ⟨λ_=>hg2.all aC,λ_=>rfl⟩);obtain⟨r,hrx⟩:=eY hrl hlt2;obtain⟨b2,o2,rv,ea2,hr2,hrep2⟩:=hrep.refs.at hrx;have rcl:=hrep2.columns.slen;have rcb:=hrep2.columns.len;have rt:=hrep2.table;have bad:¬Wx s.tables t (t.refs.take k) r->K (.val (.bool false)) m h:=λhn=>hf (Good.not hrx hn);refine⟨b2,o2,ea2,aC,hlt2,rv,.imm hr2,aE (λh1=>bad λht=>?_) (λh1=>aE (λh2=>bad λht=>?_) (λh2=>?_))⟩
 .have:=ht.1;omega
 .have:=ht.2.1;omega
 obtain⟨g,b3,o3,gv,hgx,ea3,hr3,hrep3⟩:=hs.table (t:=rv.table) aC aC;have gcl:=bH.slen hrep3.columns;have hkey:=hgood.key_le hgx;have gk:=hrep3.key;refine⟨b3,o3,ea3,aC,aC,gv.key,.imm (aX.part hr3 2 1),aB (λh3=>bad λht=>?_) (λh3=>?_)⟩
 .obtain⟨_,_,g',hg',hk',_⟩:=ht;rw[<-rt,hgx]at hg';cases hg';have:(rv.columns.len:Int)≠gv.key:=by simpa using h3
  omega
 have h3:(rv.columns.len:Int)=gv.key:=by simpa using h3
 refine⟨λ⟨k',j,w',r'⟩=>k'=k/\w'=w/\r'=rv/\j<=r.columns.length/\fB (λpre c=>D3 t g pre.length c) r.columns j,λ⟨_,j,_,_⟩=>r.columns.length-j,⟨(k,0,w,rv),⟨rfl,rfl,rfl,aC,.zero⟩,MT⟩,?_⟩;rintro⟨k,j,w,rv⟩ ⟨rfl,rfl,rfl,hj,hg3⟩;dsimp only;refine aE (λhlt3=>?_) (λhge3=>⟨(k+1,w),⟨rfl,by show k+1<=t.refs.length;omega,hg2.succ hrx ⟨aC,aC,g,by rw[<-rt];exact hgx,aC,hg3.all aC⟩⟩,by show t.refs.length-(k+1)<t.refs.length-k;omega,MT⟩);obtain⟨c,hc⟩:=eY rcl hlt3;obtain⟨b4,o4,ea4,hr4⟩:=hrep2.columns.at' hc;have htl:=NF hc
 have cbad:¬D3 t g j c->K (.val (.bool false)) m h:=λhn=>bad λht=>by
  obtain⟨_,_,g',hg',_,hgo⟩:=ht;rw[<-rt,hgx]at hg';cases hg';have:=hgo j c hc;dsimp only at this;rw[htl]at this;exact hn this
 refine⟨b4,o4,ea4,aC,hlt3,c,.imm hr4,aE (λh5=>cbad λht=>?_) (λh5=>aE (λh6=>cbad λht=>?_) (λh6=>?_))⟩
 .have:=ht.1;omega
 .have:=ht.2.1;omega
 obtain⟨x,hxx⟩:∃x,t.columns[c.toNat]? =some x:=⟨t.columns[c.toNat]'(by omega),List.getElem?_eq_getElem _⟩
 obtain⟨y,hyy⟩:∃y,g.columns[j]? =some y:=⟨g.columns[j]'(by omega),List.getElem?_eq_getElem _⟩
 obtain⟨b5,o5,ea5,hr5⟩:=BB.at hrep.columns hxx;obtain⟨b6,o6,ea6,hr6⟩:=BB.at hrep3.columns hyy;refine⟨b5,o5,ea5,aC,aC,x.kind,.imm (aX.part hr5 1 1),b3,o3,ea3,aC,aC,gv.columns,.imm (aX.part hr3 1 1),b6,o6,ea6,aC,aC,y.kind,.imm (aX.part hr6 1 1),aB (λh7=>cbad λht=>?_) (λh7=>?_)⟩
 .obtain⟨_,_,x',y',e1,e2,e3⟩:=ht;rw[hxx]at e1;rw[hyy]at e2;cases e1;cases e2;rw[e3]at h7;simp at h7
 .exact⟨(k,j+1,w,rv),⟨rfl,rfl,rfl,by show j+1<=r.columns.length;omega,hg3.succ hc (by show D3 t g (List.take j r.columns).length c;rw[htl];exact⟨aC,aC,x,y,hxx,hyy,by simpa using h7⟩)⟩,by show r.columns.length-(j+1)<r.columns.length-j;omega,MT⟩
theorem TS:Sound Tryz.prog 92 S4:=by
 refine iB Tryz.func92 ?_;rintro cvs m h K ⟨v,s,t,i,rfl,hs,hg,hx,hK⟩;refine⟨Xf v m h,rfl,aF,Js v i m h K,by kernel_rfl,?_⟩;exact Y1 hs hg hx hK
def JY(t:uD):Prop:=t.columns.length<=8/\t.refs.length<=4/\t.checks.length<=4
def Bk(s:nY):Prop:=s.tables.length<=8/\Good (λ_ t=>JY t) s.tables
def Hr(s:nY):Prop:=0<=s.version/\s.version<=1000/\Good Ah s.tables/\Good (Bw s.tables) s.tables
def pE:List Int->Int
 |[]=>0
 |e::r=>if e=0 then pE r else e
def qK(s:nY)(i:Nat):List Int:=match s.tables[i]? with|some t=>t.checks.map (iP (gR s i) [])|none=>[]
theorem uZ(a b:List Int)(h:∀e∈a,e=0):pE (a++b)=pE b:=by
 induction a with
 |nil=>rfl
 |cons x a ih=>
  simp only[List.cons_append,pE];rw[if_pos (h x (by simp)),ih λe he=>h e (by simp[he])]
theorem zM(a:List Int)(h:∀e∈a,e=0):pE a=0:=by
 have:=uZ a [] h;simpa[pE]using this
theorem Hh{n:Nat}{f:Nat->List Int}{e:Int}(hi:i<n)(h1:∀j<i,∀x∈f j,x=0)(h2:∀x∈(f i).take k,x=0)(h3:(f i)[k]? =some e)(he:e≠0):pE ((List.range n).flatMap f)=e:=by
 obtain⟨r,rfl⟩:∃r,n=i+(1+r):=⟨n-i-1,aC⟩
 rw[List.range_add,List.flatMap_append,uZ]
 .rw[show(List.range (1+r)).map (i+ ·)=i::(List.range' (i+1) r)from ?_,List.flatMap_cons, <-List.take_append_drop k (f i),List.append_assoc,uZ _ _ h2,drop_cons h3]
  .simp[pE,he]
  .rw[Nat.add_comm 1 r,List.range_succ_eq_map];simp[List.range'_eq_map_range,Nat.add_assoc,Nat.add_comm 1]
 .intro x hx;obtain⟨j,hj,hx⟩:=List.mem_flatMap.1 hx;exact h1 j (List.mem_range.1 hj) x hx
open Classical in
noncomputable def eV(s:nY):Int:=if Bk s then(if Hr s then pE ((List.range s.tables.length).flatMap (qK s))else 70)else 2
def Aj:Vc.Spec:=λcvs m h K=>∃v s,cvs=[aS v]/\gS h s v/\K (cI (eV s)) m h
noncomputable def Xm(v:bR)(m:MH)(h:PH):Ctx:=
 dL [(111,WB),(112,Ww),(72,rX),(113,qD)] [(4,{A:=Nat,st:=λi=>cD 83 84 [(1,.at (.ptr 1 0)),(16,sv v.tables),(17,iv v.tables.len),(18,iv i)] [(1,.cells 43 (v.enc.map .val))] m h}),
  (12,{A:=Nat×PH,st:=λ⟨i,hx⟩=>cD 83 84 [(1,.at (.ptr 1 0)),(58,sv v.tables),(59,iv v.tables.len),(60,iv i)] [(1,.cells 43 (v.enc.map .val))] m hx}),
  (16,{A:=Nat×Nat×Sl×Sl×PH,st:=λ⟨i,k,ks,cs,hx⟩=>cD 83 84 [(1,.at (.ptr 1 0)),(7,sv ks),(58,sv v.tables),(59,iv v.tables.len),(60,iv i),(69,sv cs),(70,iv cs.len),(71,iv k)] [(1,.cells 43 (v.enc.map .val))] m hx})] [] [] false
noncomputable def Xx(v:bR)(m:MH)(h:PH):Ctx:=
 dL [(91,Wl),(92,S4),(44,rX),(69,qD)] [(4,{A:=Nat,st:=λi=>cD 96 97 [(1,.at (.ptr 1 0)),(16,sv v.tables),(17,iv v.tables.len),(18,iv i)] [(1,.cells 43 (v.enc.map .val))] m h}),
  (12,{A:=Nat,st:=λi=>cD 96 97 [(1,.at (.ptr 1 0)),(49,iv v.tables.len),(50,iv i)] [(1,.cells 43 (v.enc.map .val))] m h}),
  (18,{A:=Nat,st:=λi=>cD 96 97 [(1,.at (.ptr 1 0)),(60,iv v.tables.len),(61,iv i)] [(1,.cells 43 (v.enc.map .val))] m h}),
  (24,{A:=Nat×PH,st:=λ⟨i,hx⟩=>cD 96 97 [(1,.at (.ptr 1 0)),(71,iv v.tables.len),(72,iv i)] [(1,.cells 43 (v.enc.map .val))] m hx}),
  (27,{A:=Nat×Nat×Sl×PH,st:=λ⟨i,k,cs,hx⟩=>cD 96 97 [(1,.at (.ptr 1 0)),(7,iv i),(71,iv v.tables.len),(72,iv i),(80,sv cs),(81,iv cs.len),(82,iv k)] [(1,.cells 43 (v.enc.map .val))] m hx})] [] [] false
abbrev xU(a:List CV)(b:Nat->Nat->Option Value)(c:Sl->PH->Prop):Prop:=jW (λx x1=>∃(x2:Int),aH (a=cJ (jK (cA x)) x2) (gS b x1 x) (nK x1) (∀(x3:Sl)(x4:PH),dE b x4 (Ints x4 x3 (gR x1 x2)) (c x3 x4)))
noncomputable abbrev tH(a:Nat×Nat×Sl×Sl×PH):Sl:=a.2.2.2.1
noncomputable abbrev yJ(a:Nat×Nat×Sl×Sl×PH):Nat->Nat->Option Value:=a.2.2.2.2
abbrev CC(a:List CV)(b:PH)(c:(List Int)->(List Int)->Pred->Prop):Prop:=j3 (λx x1=>∃(x2:PV),vB (λx3 x4=>∃(x5:Pred),aA (a=cW x (gL x1 (dX x2))) (Ints b x x3) (aA (Ints b x1 x4) (fA b x5 x2) (c x3 x4 x5))))
attribute [push_cast] xU tH yJ CC
def Ju(v:bR)(m:MH)(h:PH)(K:CV->MH->PH->Prop):Prop:=
  eX (hU v) 8 (K (fH 2) m h) (lV (λI x=>aA (I x) eD (aA (lG v) (gQ v) (aA (aZ x) (bL v) (aA (m=m) (h=h) True)))) (λI m1 x=>Cx (I x) x v (λb o y=>aL m h b (bF o x 5) (tT y)/\dA (decide (Az y>8)) (K (fH 2) m h) (decide (aG y.references>4)) (K (fH 2) m h) (eX (aG y.checks) 4 (K (fH 2) m h) (∃(x1:Nat),aA (I x1) (m1 x1<m1 x) (aA eD (lG v) (aA (gQ v) (fV (bB x 1)=bM x1) (aA (bL v) (m=m) (bN h h))))))) (aW v.version 0 (K (fH 70) m h) (eX v.version 1000 (K (fH 70) m h) (jW (λv1 s=>aA (fT (jK (cA v)) (jK (cA v1))) (gS h s v1) (∀(r:Bool),gP (fW r (Good Ah s.tables)) (!r) (K (fH 70) m h) (jW (λv2 s1=>aH (fT (jK (cA v)) (jK (cA v2))) (gS h s1 v2) (Good Ah s1.tables) (∀(r1:
 Bool),gP (fW r1 (Good (Bw s1.tables) s1.tables)) (!r1) (K (fH 70) m h) (∃(I1:Nat×PH->Prop)(m2:Nat×PH->Nat),(∃(x1:Nat×PH),aA (I1 x1) eD (aA (lG v) (gQ v) (aA (aZ x1.1) (bL v) (aA (m=m) (h=x1.2) True))))/\∀(x1:Nat×PH),Cx (I1 x1) x1.1 v (λb o y=>aL m x1.2 b (bF o x1.1 5) (tT y)/\xU (cJ (jK (cA v)) (↑x1.1:Int)) x1.2 (λs2 h1=>∃(I2:Nat×Nat×Sl×Sl×PH->Prop)(m3:Nat×Nat×Sl×Sl×PH->Nat),(∃(x2:Nat×Nat×Sl×Sl×PH),aA (I2 x2) eD (aA (bI s2 x2.2.2.1) (lG v) (aA (gQ v) (bX x1.1 x2.1) (aA (bI y.checks (tH x2)) (bP y.checks (tH x2)) (aA (aZ x2.2.1) (bL v) (aA (m=m) (h1=yJ x2) True))))))/\∀(x2:Nat×Nat×Sl×Sl×PH),I2 x2->aW (↑x2.2.1:Int) (aG (tH x2)) (bD (λb1 o1=>
 aH (bE (tH x2).a b1 o1) (0<=(↑x2.2.1:Int)) ((↑x2.2.1:Int)<aG (tH x2)) (∃(y1:PV),aL m (yJ x2) b1 (bF o1 x2.2.1 13) y1.enc/\CC (cW x2.2.2.1 (bK Dm (dX y1))) (yJ x2) (λc p p1=>eR (iP c p p1) 0 (K (fH (iP c p p1)) m (yJ x2)) (∃(x3:Nat×Nat×Sl×Sl×PH),aA (I2 x3) (m3 x3<m3 x2) (aA eD (bI x2.2.2.1 x3.2.2.1) (aA (lG v) (gQ v) (aA (bX x2.1 x3.1) (bI (tH x2) (tH x3)) (aA (bP (tH x2) (tH x3)) (fV (bB x2.2.1 1)=bM x3.2.1) (aA (bL v) (m=m) (bN (yJ x2) (yJ x3)))))))))))) (∃(x3:Nat×PH),aA (I1 x3) (m2 x3<m2 x1) (aA eD (lG v) (aA (gQ v) (fV (bB x2.1 1)=bM x3.1) (aA (bL v) (m=m) (bN (yJ x2) x3.2))))))) (K (fH 0) m x1.2))))))))))))
abbrev H0(a:nY)(b:Nat)(c:uD):Prop:=a.tables[b]? =Option.some c
noncomputable abbrev tI(a:Nat×Nat×Sl×PH):Sl:=a.2.2.1
attribute [push_cast] H0 tI
def Jw(v:bR)(m:MH)(h:PH)(K:CV->MH->PH->Prop):Prop:=
  eX (hU v) 8 (K (fH 2) m h) (lV (λI x=>aA (I x) eD (aA (lG v) (gQ v) (aA (aZ x) (bL v) (aA (m=m) (h=h) True)))) (λI m1 x=>Cx (I x) x v (λb o y=>aL m h b (bF o x 5) (tT y)/\dA (decide (Az y>8)) (K (fH 2) m h) (decide (aG y.references>4)) (K (fH 2) m h) (eX (aG y.checks) 4 (K (fH 2) m h) (∃(x1:Nat),aA (I x1) (m1 x1<m1 x) (aA eD (lG v) (aA (gQ v) (fV (bB x 1)=bM x1) (aA (bL v) (m=m) (bN h h))))))) (aW v.version 0 (K (fH 70) m h) (eX v.version 1000 (K (fH 70) m h) (lV (λI1 x1=>aA (I1 x1) eD (aA (gQ v) (aZ x1) (aH (bL v) (m=m) (h=h) True))) (λI1 m2 x1=>I1 x1->aW (↑x1:Int) (aG v.tables) (jW (λv1 s=>∃(t:uD)(i:Nat),aH (cJ (jK (cA v)) (↑x1:Int)=cJ (jK (cA
 v1)) (↑i:Int)) (gS h s v1) (H0 s i t) (∀(r:Bool),fW r (Ah (List.take i s.tables) t)->gV (!r) (K (fH 70) m h) (λx2=>aA (I1 x2) (m2 x2<m2 x1) (aA eD (gQ v) (aA (fV (bB x1 1)=bM x2) (bL v) (aA (m=m) (h=h) True))))))) (lV (λI2 x2=>aA (I2 x2) eD (aA (gQ v) (aZ x2) (aH (bL v) (m=m) (h=h) True))) (λI2 m3 x2=>I2 x2->aW (↑x2:Int) (aG v.tables) (jW (λv1 s=>∃(t:uD)(i:Nat),aA (cJ (jK (cA v)) (↑x2:Int)=cJ (jK (cA v1)) (↑i:Int)) (gS h s v1) (aA (Good Ah s.tables) (H0 s i t) (∀(r:Bool),fW r (Bw s.tables [] t)->gV (!r) (K (fH 70) m h) (λx3=>aA (I2 x3) (m3 x3<m3 x2) (aA eD (gQ v) (aA (fV (bB x2 1)=bM x3) (bL v) (aA (m=m) (h=h) True)))))))) (∃(I3:Nat×PH->Prop)(m4:Nat×PH->
 Nat),(∃(x3:Nat×PH),aA (I3 x3) eD (aA (gQ v) (aZ x3.1) (aH (bL v) (m=m) (h=x3.2) True)))/\∀(x3:Nat×PH),I3 x3->aW (↑x3.1:Int) (aG v.tables) (cZ (oU v) (↑x3.1:Int) v.tables (λb o y=>aL m x3.2 b (bF o x3.1 5+4) (aK y)/\∃(I4:Nat×Nat×Sl×PH->Prop)(m5:Nat×Nat×Sl×PH->Nat),(∃(x4:Nat×Nat×Sl×PH),aA (I4 x4) eD (aA (bX x3.1 x4.1) (gQ v) (aA (bX x3.1 x4.1) (bI y (tI x4)) (aA (bP y (tI x4)) (aZ x4.2.1) (aH (bL v) (m=m) (x3.2=x4.2.2.2) True)))))/\∀(x4:Nat×Nat×Sl×PH),I4 x4->aW (↑x4.2.1:Int) (aG (tI x4)) (bD (λb1 o1=>aH (bE (tI x4).a b1 o1) (0<=(↑x4.2.1:Int)) ((↑x4.2.1:Int)<aG (tI x4)) (∃(y1:PV),aL m x4.2.2.2 b1 (bF o1 x4.2.1 13) y1.enc/\xU (cJ (jK (cA v))
 (↑x4.1:Int)) x4.2.2.2 (λs h1=>CC (cW s (bK Dm (dX y1))) h1 (λc p p1=>eR (iP c p p1) 0 (K (fH (iP c p p1)) m h1) (∃(x5:Nat×Nat×Sl×PH),aA (I4 x5) (m5 x5<m5 x4) (aA eD (bX x4.1 x5.1) (aA (gQ v) (bX x4.1 x5.1) (aA (bI (tI x4) (tI x5)) (bP (tI x4) (tI x5)) (aA (fV (bB x4.2.1 1)=bM x5.2.1) (bL v) (aA (m=m) (h1=x5.2.2.2) True))))))))))) (∃(x5:Nat×PH),aA (I3 x5) (m4 x5<m4 x3) (aA eD (gQ v) (aA (fV (bB x4.1 1)=bM x5.1) (bL v) (aA (m=m) (x4.2.2.2=x5.2) True)))))) (K (fH 0) m x3.2))))))))))
theorem kG.out{hx:PH}{r:CV}(hm:Sub m m')(hle:PH.le h hx)(hK:K r m h):kG h K r m' hx:=⟨m,h,hm,.refl _,hle,hK⟩
theorem sH(h:¬Bk s):eV s=2:=by unfold eV;rw[if_neg h]
theorem ID(h:Bk s)(h':¬Hr s):eV s=70:=by unfold eV;rw[if_pos h,if_neg h']
theorem FL(h:Bk s)(h':Hr s):eV s=pE ((List.range s.tables.length).flatMap (qK s)):=by unfold eV;rw[if_pos h,if_pos h']
theorem Ap{t:uD}(hx:s.tables[i]? =some t)(hp:t.checks[k]? =some p):(qK s i)[k]? =some (iP (gR s i) [] p):=by
 unfold qK;rw[hx];simp[hp]
theorem GX{t:uD}(hx:s.tables[i]? =some t):(qK s i).length=t.checks.length:=by
 unfold qK;rw[hx];simp
theorem Kt{e:Int}(hk:l[k]? =some e)(h:∀x∈l.take k,x=0)(he:e=0):∀x∈l.take (k+1),x=0:=by
 intro x hx;rw[List.take_add_one,hk,List.mem_append]at hx;rcases hx with hx|hx
 .exact h x hx
 .simp at hx;rw[hx,he]
theorem Nv{f:Nat->List Int}(h:∀j<i,∀x∈f j,x=0)(hl:(f i).length<=k)(h2:∀x∈(f i).take k,x=0):∀j<i+1,∀x∈f j,x=0:=by
 intro j hj x hx;by_cases e:j=i
 .subst e;rw[List.take_of_length_le hl]at h2;exact h2 x hx
 .exact h j aC x hx
theorem KX:Sound Tryz.prog 79 Aj:=by
 refine Fa Tryz.func79 ?_;rintro cvs m h K ⟨v,s,rfl,hs,hK⟩;refine⟨Xm v m h,rfl,aD RB (aD RA (aD Gc (aD JJ aF))),Ju v m h (kG h K),by kernel_rfl,?_⟩;show Ju v m h (kG h K);dsimp only[Ju,push_cast];have hl:=hs.tables.slen;have hlen:=hs.tables.len;have hver:=hs.version;have out:∀(hx:PH)(x:Int),PH.le h hx->eV s=x->kG h K (.val (.int .i64 x)) m hx:=λhx x hle e=>.out (Sub.refl m) hle (by rw[<-e];exact hK);refine aE (λh1=>out h _ (.refl _) (sH λe=>by have:=e.1;omega)) (λh1=>?_);refine⟨λi=>i<=s.tables.length/\fB (λ_ t=>JY t) s.tables i,λi=>s.tables.length-i,⟨0,⟨aC,.zero⟩,MT⟩,λi⟨hi,hg⟩=>aE (λhlt=>?_) (λhge=>?_)⟩
 .obtain⟨t,hx⟩:=eY hl hlt;obtain⟨b,o,w,ea,hr,hrep⟩:=hs.tables.at hx;have e1:=bH.slen hrep.columns;have e2:=bH.slen hrep.refs;have e3:=bH.slen hrep.checks;have bad:¬JY t->kG h K (.val (.int .i64 2)) m h:=λhn=>out h _ (.refl _) (sH λe=>Good.not hx hn e.2);refine⟨b,o,ea,aC,hlt,w,.imm hr,aE (λh2=>bad λe=>?_) (λh2=>aE (λh3=>bad λe=>?_) (λh3=>aE (λh4=>bad λe=>?_) (λh4=>⟨i+1,⟨aC,hg.succ hx ⟨aC,aC,aC⟩⟩,by show s.tables.length-(i+1)<s.tables.length-i;omega,MT⟩)))⟩
  .have:=e.1;omega
  .have:=e.2.1;omega
  .have:=e.2.2;omega
 have lim:Bk s:=⟨aC,hg.all aC⟩
 have h8:nK s:=λt ht=>by
  obtain⟨j,hj⟩:=List.mem_iff_getElem?.1 ht;exact(lim.2 j t hj).1
 have bad:¬Hr s->kG h K (.val (.int .i64 70)) m h:=λhn=>out h _ (.refl _) (ID lim hn);refine aE (λh2=>bad λe=>?_) (λh2=>aE (λh3=>bad λe=>?_) (λh3=>⟨v,s,rfl,hs,λr hr=>aB (λh4=>bad λe=>?_) (λh4=>⟨v,s,rfl,hs,hr.1 (by simpa using h4),λr2 hr2=>aB (λh5=>bad λe=>?_) (λh5=>?_)⟩)⟩))
 .have:=e.1;omega
 .have:=e.2.1;omega
 .rw[hr.2 e.2.2.1]at h4;cases h4
 .rw[hr2.2 e.2.2.2]at h5;cases h5
 have ok:Hr s:=⟨aC,aC,hr.1 (by simpa using h4),hr2.1 (by simpa using h5)⟩
 rw[FL lim ok]at out;refine⟨λ⟨i,hx⟩=>i<=s.tables.length/\PH.le h hx/\∀j<i,∀x∈qK s j,x=0,λ⟨i,_⟩=>s.tables.length-i,⟨(0,h),⟨aC,.refl _,λj hj=>by omega⟩,MT⟩,?_⟩;rintro⟨i,hx⟩ ⟨hi,hle,hz⟩;dsimp only;refine aE (λhlt=>?_) (λhge=>out hx _ hle (zM _ λe he=>?_))
 .obtain⟨t,ht⟩:=eY hl hlt;obtain⟨b,o,w,ea,hr,hrep⟩:=(hs.mono hle).tables.at ht;have cl:=bH.slen hrep.checks;have cb:=bH.len hrep.checks;refine⟨b,o,ea,aC,hlt,w,.imm hr,v,s,i,rfl,hs.mono hle,h8,λsl h' hle' hints=>?_⟩;refine⟨λ⟨i',k,ks,cs,hy⟩=>i'=i/\cs=w.checks/\k<=t.checks.length/\PH.le h' hy/\Ints hy ks (gR s i)/\∀x∈(qK s i).take k,x=0,λ⟨_,k,_,_,_⟩=>t.checks.length-k,⟨(i,0,sl,w.checks,h'),⟨rfl,rfl,aC,.refl _,hints,λx hx=>by simp at hx⟩,MT⟩,?_⟩;rintro⟨i,k,ks,_,hy⟩ ⟨rfl,rfl,hk,hle2,hints2,hz2⟩;dsimp only;have hlh:PH.le h hy:=(hle.trans hle').trans hle2;refine aE (λhlt2=>?_) (λhge2=>⟨(i+1,hy),⟨aC,hlh,Nv hz (k:=k) (by rw[GX ht];omega) hz2⟩,by show s.tables.length-(i+1)<s.tables.length-i;omega,MT⟩);obtain⟨p,hp⟩:=eY cl hlt2;obtain⟨b2,o2,pv,ea2,hr2',hrep2⟩:=((hrep.checks.mono hle').mono hle2).at hp;refine⟨b2,o2,ea2,aC,hlt2,pv,.imm hr2',ks,⟨none,0,0⟩,pv,gR s i,[],p,rfl,hints2,⟨.nil _ _,by simp⟩,hrep2,aB (λh6=>?_) (λh6=>?_)⟩
  .exact out hy _ hlh (Hh aC hz hz2 (Ap ht hp) (by simpa using h6))
  .exact⟨(i,k+1,ks,w.checks,hy),⟨rfl,rfl,by show k+1<=t.checks.length;omega,hle2,hints2,Kt (Ap ht hp) hz2 (by simpa using h6)⟩,by show t.checks.length-(k+1)<t.checks.length-k;omega,MT⟩
 .obtain⟨j,hj,hx⟩:=List.mem_flatMap.1 he;exact hz j (by have:=List.mem_range.1 hj;omega) e hx
theorem T4:Sound Tryz.prog 63 Aj:=by
 refine Fa Tryz.func63 ?_;rintro cvs m h K ⟨v,s,rfl,hs,hK⟩;refine⟨Xx v m h,rfl,aD TT (aD TS (aD C4 (aD Ge aF))),Jw v m h (kG h K),by kernel_rfl,?_⟩;show Jw v m h (kG h K);dsimp only[Jw,push_cast];have hl:=hs.tables.slen;have hlen:=hs.tables.len;have hver:=hs.version;have out:∀(hx:PH)(x:Int),PH.le h hx->eV s=x->kG h K (.val (.int .i64 x)) m hx:=λhx x hle e=>.out (Sub.refl m) hle (by rw[<-e];exact hK);refine aE (λh1=>out h _ (.refl _) (sH λe=>by have:=e.1;omega)) (λh1=>?_);refine⟨λi=>i<=s.tables.length/\fB (λ_ t=>JY t) s.tables i,λi=>s.tables.length-i,⟨0,⟨aC,.zero⟩,MT⟩,λi⟨hi,hg⟩=>aE (λhlt=>?_) (λhge=>?_)⟩
 .obtain⟨t,hx⟩:=eY hl hlt;obtain⟨b,o,w,ea,hr,hrep⟩:=hs.tables.at hx;have e1:=bH.slen hrep.columns;have e2:=bH.slen hrep.refs;have e3:=bH.slen hrep.checks;have bad:¬JY t->kG h K (.val (.int .i64 2)) m h:=λhn=>out h _ (.refl _) (sH λe=>Good.not hx hn e.2);refine⟨b,o,ea,aC,hlt,w,.imm hr,aE (λh2=>bad λe=>?_) (λh2=>aE (λh3=>bad λe=>?_) (λh3=>aE (λh4=>bad λe=>?_) (λh4=>⟨i+1,⟨aC,hg.succ hx ⟨aC,aC,aC⟩⟩,by show s.tables.length-(i+1)<s.tables.length-i;omega,MT⟩)))⟩
  .have:=e.1;omega
  .have:=e.2.1;omega
  .have:=e.2.2;omega
 have lim:Bk s:=⟨aC,hg.all aC⟩
 have h8:nK s:=λt ht=>by
  obtain⟨j,hj⟩:=List.mem_iff_getElem?.1 ht;exact(lim.2 j t hj).1
 have bad:¬Hr s->kG h K (.val (.int .i64 70)) m h:=λhn=>out h _ (.refl _) (ID lim hn);refine aE (λh2=>bad λe=>?_) (λh2=>aE (λh3=>bad λe=>?_) (λh3=>?_))
 .have:=e.1;omega
 .have:=e.2.1;omega
 clear hi hg hge;refine⟨λi=>i<=s.tables.length/\fB Ah s.tables i,λi=>s.tables.length-i,⟨0,⟨aC,.zero⟩,MT⟩,λi⟨hi,hg⟩=>aE (λhlt=>?_) (λhge=>?_)⟩
 .obtain⟨t,hx⟩:=eY hl hlt;refine⟨v,s,t,i,rfl,hs,hx,λr hr=>aB (λh4=>bad λe=>?_) (λh4=>⟨i+1,⟨aC,hg.succ hx (hr.1 (by simpa using h4))⟩,by show s.tables.length-(i+1)<s.tables.length-i;omega,MT⟩)⟩;rw[hr.2 (e.2.2.1 i t hx)]at h4;cases h4
 have good:=hg.all aC;clear hi hg hge;refine⟨λi=>i<=s.tables.length/\fB (Bw s.tables) s.tables i,λi=>s.tables.length-i,⟨0,⟨aC,.zero⟩,MT⟩,λi⟨hi,hg⟩=>aE (λhlt=>?_) (λhge=>?_)⟩
 .obtain⟨t,hx⟩:=eY hl hlt;refine⟨v,s,t,i,rfl,hs,good,hx,λr hr=>aB (λh4=>bad λe=>?_) (λh4=>⟨i+1,⟨aC,hg.succ hx (hr.1 (by simpa using h4))⟩,by show s.tables.length-(i+1)<s.tables.length-i;omega,MT⟩)⟩;rw[hr.2 (e.2.2.2 i t hx)]at h4;cases h4
 have good2:=hg.all aC;clear hi hg hge;have ok:Hr s:=⟨aC,aC,good,good2⟩
 rw[FL lim ok]at out;refine⟨λ⟨i,hx⟩=>i<=s.tables.length/\PH.le h hx/\∀j<i,∀x∈qK s j,x=0,λ⟨i,_⟩=>s.tables.length-i,⟨(0,h),⟨aC,.refl _,λj hj=>by omega⟩,MT⟩,?_⟩;rintro⟨i,hx⟩ ⟨hi,hle,hz⟩;dsimp only;refine aE (λhlt=>?_) (λhge=>out hx _ hle (zM _ λe he=>?_))
 .obtain⟨t,ht⟩:=eY hl hlt;obtain⟨b,o,w,ea,hr,hrep⟩:=(hs.mono hle).tables.at ht;have cl:=bH.slen hrep.checks;have cb:=bH.len hrep.checks;refine⟨b,o,ea,aC,hlt,w.checks,.imm (aX.part hr 4 1),?_⟩;refine⟨λ⟨i',k,cs,hy⟩=>i'=i/\cs=w.checks/\k<=t.checks.length/\PH.le hx hy/\∀x∈(qK s i).take k,x=0,λ⟨_,k,_,_⟩=>t.checks.length-k,⟨(i,0,w.checks,hx),⟨rfl,rfl,aC,.refl _,λx hx=>by simp at hx⟩,MT⟩,?_⟩;rintro⟨i,k,_,hy⟩ ⟨rfl,rfl,hk,hle2,hz2⟩;dsimp only;have hlh:PH.le h hy:=hle.trans hle2;refine aE (λhlt2=>?_) (λhge2=>⟨(i+1,hy),⟨aC,hlh,Nv hz (k:=k) (by rw[GX ht];omega) hz2⟩,by show s.tables.length-(i+1)<s.tables.length-i;omega,MT⟩);obtain⟨p,hp⟩:=eY cl hlt2;obtain⟨b2,o2,pv,ea2,hr2',hrep2⟩:=(hrep.checks.mono hle2).at hp;refine⟨b2,o2,ea2,aC,hlt2,pv,.imm hr2',v,s,i,rfl,hs.mono hlh,h8,λsl h' hle' hints=>⟨sl,⟨none,0,0⟩,pv,gR s i,[],p,rfl,hints,⟨.nil _ _,by simp⟩,hrep2.mono hle',aB (λh6=>?_) (λh6=>?_)⟩⟩
  .exact out h' _ (hlh.trans hle') (Hh aC hz hz2 (Ap ht hp) (by simpa using h6))
  .exact⟨(i,k+1,w.checks,h'),⟨rfl,rfl,by show k+1<=t.checks.length;omega,hle2.trans hle',Kt (Ap ht hp) hz2 (by simpa using h6)⟩,by show t.checks.length-(k+1)<t.checks.length-k;omega,MT⟩
 .obtain⟨j,hj,hx⟩:=List.mem_flatMap.1 he;exact hz j (by have:=List.mem_range.1 hj;omega) e hx
mutual
def nL:Query->Int->Int
 |.mk _ _ _ _ _ _ _ _ args,n=>kV args (n+1)
def kV:List Query->Int->Int
 |[],n=>n
 |p::ps,n=>if n<=24 then kV ps (nL p n)else n
end
mutual
def nI:Query->Nat->Bool
 |.mk _ _ _ _ _ _ _ _ _,0=>true
 |.mk _ _ _ _ _ _ _ _ args,n+1=>xA args n
def xA:List Query->Nat->Bool
 |[],_=>false
 |p::ps,n=>nI p n||xA ps n
end
mutual
theorem Er:∀(p:Query)(n:Int),n<=24->n<nL p n/\nL p n<=25
 |.mk _ _ _ _ _ _ _ _ args,n,h=>by
  have:=Du args (n+1) aC;simp only[nL];omega
theorem Du:∀(ps:List Query)(n:Int),n<=25->n<=kV ps n/\kV ps n<=25
 |[],n,h=>by simp only[kV];omega
 |p::ps,n,h=>by
  simp only[kV];split
  .rename_i h1;have h2:=Er p n h1;have h3:=Du ps (nL p n) h2.2;omega
  .omega
end
theorem Ms(ps:List Query){n:Int}(h:¬n<=24):kV ps n=n:=by
 cases ps
 .simp[kV]
 .simp only[kV,if_neg h]
theorem Fl(n:Nat):∀ps:List Query,xA ps n=ps.any (nI · n)
 |[]=>by simp[xA]
 |p::ps=>by simp[xA,Fl n ps]
theorem dD.args{p:Query}(r:dD h p v):yY h v.args p.args:=by
 cases p;exact r.parts.args_
def mX(q:Query):Bool:=decide (nL q 0<=24)&& !nI q 8
def arity(op:Int):Int:=
 if op==1 then 0 else if op==2||op==3||op==9 then 1 else if op==4||op==5||op==6||op==7||op==8||op==10 then 2 else-1
def Nk(N:Nat):Vc.Spec:=λcvs m h K=>∃v p k,cvs=[aQ v,cI k,cI 24]/\dD h p v/\SizeOf.sizeOf p<N/\0<=k/\k<=24/\K (cI (nL p k)) m h
def Ka(N:Nat):Vc.Spec:=λcvs m h K=>∃v p,∃k:Nat,cvs=[aQ v,cI k]/\dD h p v/\SizeOf.sizeOf p<N/\k<=100/\K (cB (nI p k)) m h
def Nf:Vc.Spec:=λcvs m h K=>∃v p,cvs=[aQ v]/\dD h p v/\K (cB (mX p)) m h
def R6:Vc.Spec:=λcvs m h K=>∃op,cvs=[cI op]/\K (cI (arity op)) m h
def FE(l:List Int)(n:Int):Bool:=decide (0<=n)&&decide (n<l.length)
def ZA:Vc.Spec:=λcvs m h K=>∃s l n,cvs=[cS s,cI n]/\Ints h s l/\K (cB (FE l n)) m h
noncomputable def Xu(N:Nat)(v:QV)(m:MH)(h:PH):Ctx:=
 dL [(66,Nk N)] [(3,{A:=Nat×Int,st:=λx=>cD 31 34 [(1,iv x.2),(2,iv 24),(3,.at (.ptr 3 0)),(7,iv x.1)] [(3,.cells 38 (v.enc.map .val))] m h})] [] [] false
noncomputable def Xt(N:Nat)(v:QV)(k:Nat)(m:MH)(h:PH):Ctx:=
 dL [(67,Ka N)] [(4,{A:=Nat,st:=λi=>cD 23 25 [(1,iv k),(2,.at (.ptr 2 0)),(10,iv v.args.len),(11,iv i)] [(2,.cells 38 (v.enc.map .val))] m h})] [] [] false
abbrev dQ(a:QV):Prop:=eQ (xN 38 a.enc)
attribute [push_cast] dQ
def OS(N:Nat)(v:QV)(k:Int)(m:MH)(h:PH)(K:CV->MH->PH->Prop):Prop:=
  ∃(I:Nat×Int->Prop)(m1:Nat×Int->Nat),(∃(x:Nat×Int),aA (I x) (cL (iN (k+1)) x.2) (aA (eQ (fV 24)) (eP 3) (aA (aZ x.1) (dQ v) (aA (m=m) (h=h) True))))/\∀(x:Nat×Int),I x->aW (↑x.1:Int) (aG v.args) (branch (decide (x.2<=24)) (bD (λb o=>aH (bE v.args.a b o) (0<=(↑x.1:Int)) ((↑x.1:Int)<aG v.args) (∃(y:QV),aL m h b (bF o x.1 21) y.enc/\jV (λv1 p=>∃(k1:Int),aA (cE y.enc (cJ (fH x.2) 24)=cE v1.enc (cJ (fH k1) 24)) (dD h p v1) (aA (nP p N) (cG k1) (k1<=24/\∃(x1:Nat×Int),aA (I x1) (m1 x1<m1 x) (aA (cL (nL p k1) x1.2) (eQ (fV 24)) (aA (eP 3) (fV (bB x.1 1)=bM x1.1) (aA (dQ v) (m=m) (bN h h)))))))))) (K (fH x.2) m h)) (K (fH x.2) m h)
abbrev qT(a:QV):Prop:=bJ a.args
attribute [push_cast] qT
def OR(N:Nat)(v:QV)(k:Nat)(m:MH)(h:PH)(K:CV->MH->PH->Prop):Prop:=
  dR (↑k:Int) 0 (K fK m h) (lV (λI x=>aA (I x) (eQ (bM k)) (aA gC (qT v) (aA (aZ x) (dQ v) (aA (m=m) (h=h) True)))) (λI m1 x=>I x->aW (↑x:Int) (aG v.args) (bD (λb o=>aH (bE v.args.a b o) (0<=(↑x:Int)) ((↑x:Int)<aG v.args) (∃(y:QV),aL m h b (bF o x 21) y.enc/\jV (λv1 p=>∃(k1:Nat),aA (cJ (cN y) (iN ((↑k:Int)-1))=cJ (cN v1) (↑k1:Int)) (dD h p v1) (aA (nP p N) (k1<=100) (gV (nI p k1) (K fK m h) (λx1=>aA (I x1) (m1 x1<m1 x) (aA (eQ (bM k)) gC (aA (qT v) (fV (bB x 1)=bM x1) (aA (dQ v) (m=m) (bN h h))))))))))) (K aU m h)))
def Pb(N:Nat)(v:QV)(m:MH)(h:PH)(K:CV->MH->PH->Prop):Prop:=
  jV (λv1 p=>∃(k:Int),aA (cE v.enc (cJ (fH 0) 24)=cE v1.enc (cJ (fH k) 24)) (dD h p v1) (aA (nP p N) (cG k) (hZ (k<=24) (decide (nL p k<=24)) (jV (λv2 p1=>∃(k1:Nat),aA (cJ (cN v) 8=cJ (cN v2) (↑k1:Int)) (dD h p1 v2) (aA (nP p1 N) (k1<=100) (K (CV.val (Value.bool (!(nI p1 k1)))) m h)))) (K aU m h))))
def Oy(op:Int)(m:MH)(h:PH)(K:CV->MH->PH->Prop):Prop:=
  dA (op==1) (K (fH 0) m h) (op==2) (K (fH 1) m h) (dA (op==3) (K (fH 1) m h) (op==9) (K (fH 1) m h) (dA (op==4) (K (fH 2) m h) (op==5) (K (fH 2) m h) (dA (op==6) (K (fH 2) m h) (op==7) (K (fH 2) m h) (dA (op==8) (K (fH 2) m h) (op==10) (K (fH 2) m h) (K (fH (Int.negSucc 0)) m h)))))
def LA(s:Sl)(n:Int)(m:MH)(h:PH)(K:CV->MH->PH->Prop):Prop:=
  gK n 0 (K (zR (decide (n<aG s))) m h) (K aU m h)
theorem SG:∀N,Sound Tryz.prog 66 (Nk N)
 |0=>by
  refine eJ (fn:=Tryz.f66) (c:=dO Tryz.f66) Tryz.func66 rfl (by decide) ?_;rintro cvs m h K ⟨v,p,k,rfl,hr,hN,_⟩;omega
 |N+1=>by
  refine iB Tryz.func66 ?_;rintro cvs m h K ⟨v,p,k,rfl,hr,hN,h0,h1,hK⟩;refine⟨Xu N v m h,rfl,aD (SG N) aF,OS N v k m h K,by kernel_rfl,?_⟩;dsimp only[OS,push_cast];have hargs:=hr.args;have hlen:=hargs.slen;have hl:=hargs.len;refine⟨λx=>x.1<=p.args.length/\0<=x.2/\x.2<=25/\kV (p.args.drop x.1) x.2=nL p k,λx=>p.args.length-x.1,⟨(0,k+1),⟨by simp,by simp;omega,by simp;omega,?_⟩,?_⟩,?_⟩
  .cases p;simp[nL,Query.args]
  .rw[eB aC aC];exact MT
  rintro⟨i,n⟩ ⟨hi,hn0,hn1,he⟩;dsimp only at hi hn0 hn1 he⊢
  refine aE (λhlt=>aE (λhn=>?_) (λhn=>vG hK ?_)) (λhge=>vG hK ?_)
  .obtain⟨q,hq⟩:=eY hlen hlt;obtain⟨b,o,u,ea,hrd,hru⟩:=hargs.at hq;have hb:=Er q n hn;rw[drop_cons hq,kV,if_pos hn]at he;refine⟨b,o,ea,aC,hlt,u,.imm hrd,u,q,n,rfl,hru,?_,hn0,hn,(i+1,nL q n),⟨by dsimp only;omega,by dsimp only;omega,by dsimp only;omega,he⟩,by dsimp only;omega,MT⟩;have:=BK (List.mem_of_getElem? hq);omega
  .rw[<-he,Ms _ hn]
  .rw[<-he,List.drop_of_length_le aC];simp[kV]
theorem SF:∀N,Sound Tryz.prog 67 (Ka N)
 |0=>by
  refine eJ (fn:=Tryz.f67) (c:=dO Tryz.f67) Tryz.func67 rfl (by decide) ?_;rintro cvs m h K ⟨v,p,k,rfl,hr,hN,_⟩;omega
 |N+1=>by
  refine iB Tryz.func67 ?_;rintro cvs m h K ⟨v,p,k,rfl,hr,hN,h1,hK⟩;refine⟨Xt N v k m h,rfl,aD (SF N) aF,OR N v k m h K,by kernel_rfl,?_⟩;dsimp only[OR,push_cast];have hargs:=hr.args;have hlen:=hargs.slen;have hl:=hargs.len;refine aB (λhk=>hP hK ?_) (λhk=>?_)
  .have:k=0:=by have:(k:Int)=0:=(by simpa using hk);omega
   subst this;cases p;simp[nI]
  .have hk:k≠0:=by intro e;subst e;simp at hk
   have hdk:nI p k=p.args.any (nI · (k-1)):=by
    obtain⟨k',rfl⟩:∃k',k=k'+1:=⟨k-1,aC⟩
    cases p;simp[nI,Fl,Query.args]
   rw[hdk]at hK;refine⟨λi=>i<=p.args.length/\(p.args.take i).any (nI · (k-1))=false,λi=>p.args.length-i,⟨0,⟨aC,by simp⟩,MT⟩,λi hi=>aE (λhlt=>?_) (λhge=>hP hK ?_)⟩
   .obtain⟨q,hq⟩:=eY hlen hlt;obtain⟨b,o,u,ea,hrd,hru⟩:=hargs.at hq;refine⟨b,o,ea,aC,hlt,u,.imm hrd,u,q,k-1,?_,hru,?_,aC,aB (λhd=>hP hK ?_) (λhd=>?_)⟩
    .rw[eB aC aC,show((k-1:Nat):Int)=(k:Int)-1 by omega]
    .have:=BK (List.mem_of_getElem? hq);omega
    .rw[List.any_eq_true];exact⟨q,List.mem_of_getElem? hq,hd⟩
    .refine⟨i+1,⟨aC,?_⟩,by show p.args.length-(i+1)<p.args.length-i;omega,MT⟩;rw[List.take_add_one,List.any_append,hi.2,hq];simpa using hd
   .have:=hi.2
    rwa [List.take_of_length_le aC]at this
theorem K2:Sound Tryz.prog 28 Nf:=by
 refine iB Tryz.func28 ?_;rintro cvs m h K ⟨v,p,rfl,hr,hK⟩;refine⟨dL [(66,Nk (SizeOf.sizeOf p+1)),(67,Ka (SizeOf.sizeOf p+1))] [] [] [] false,rfl,aD (SG _) (aD (SF _) aF),Pb (SizeOf.sizeOf p+1) v m h K,by kernel_rfl,?_⟩;dsimp only[Pb,push_cast];refine⟨v,p,0,rfl,hr,aC,aC,aC,aB (λh1=>⟨v,p,8,rfl,hr,aC,aC,hP hK ?_⟩) (λh1=>hP hK ?_)⟩
 .simp only[mX,h1,Bool.true_and]
 .simp only[mX,h1,Bool.false_and]
theorem KU:Sound Tryz.prog 94 R6:=by
 refine iB Tryz.func94 ?_;rintro cvs m h K ⟨op,rfl,hK⟩;refine⟨dL [] [] [] [] false,rfl,aF,Oy op m h K,by kernel_rfl,?_⟩;dsimp only[Oy,push_cast]
 repeat' (first|(refine aB (λ_=>?_) (λ_=>?_))|(refine vG hK ?_;simp only[arity];simp only[*,Bool.or_false,Bool.false_or,Bool.or_true,Bool.true_or,Bool.and_true,Bool.true_and,Bool.and_false,Bool.false_and,Bool.not_true,Bool.not_false,Bool.false_eq_true,if_true,if_false, ↓reduceIte];done)|(refine vG hK ?_;simp only[arity];simp only[*,Bool.or_false,Bool.false_or,Bool.or_true,Bool.true_or,Bool.and_true,Bool.true_and,Bool.and_false,Bool.false_and,Bool.not_true,Bool.not_false,Bool.false_eq_true,if_true,if_false, ↓reduceIte];rfl))
theorem DW:Sound Tryz.prog 124 ZA:=by
 refine iB Tryz.func124 ?_;rintro cvs m h K ⟨s,l,n,rfl,hs,hK⟩;refine⟨dL [] [] [] [] false,rfl,aF,LA s n m h K,by kernel_rfl,?_⟩;dsimp only[LA,push_cast];have hl:=hs.slen;refine aE (λh1=>hP hK ?_) (λh1=>hP hK ?_)
 .have h1:0<=n:=h1;simp only[FE,hl,decide_eq_true h1,Bool.true_and]
 .have h1:¬0<=n:=by omega
  simp only[FE,decide_eq_false h1,Bool.false_and]
def Al(a b:List Int)(pre:List (Int×Int))(p:Int×Int):Prop:=FE a p.1=true/\FE b p.2=true/\a.getD p.1.toNat 0=b.getD p.2.toNat 0/\∀q∈pre,q.1≠p.1/\q.2≠p.2
def GR(a:List Int)(pre:List Int)(c:Int):Prop:=FE a c=true/\c∉pre
def J5(a:List Int)(_:List (Int×Bool))(o:Int×Bool):Prop:=FE a o.1=true
structure u9(a:List Int)(group:List Int)(order:List (Int×Bool))(limit:Int):Prop where
 group_:Good (GR a) group
 order_:Good (J5 a) order
 len_:order.length<=12
 low:0<=limit
 high:limit<=100
def S7:Vc.Spec:=λcvs m h K=>∃s t u on a b,cvs=[cS s,cS t,cS u]/\lK h s on/\Ints h t a/\Ints h u b/\∀r:Bool,(r=true↔Good (Al a b) on)->K (cB r) m h
def S5:Vc.Spec:=λcvs m h K=>∃v t g o a,cvs=[aQ v,cS t]/\Ints h v.group g/\iW h v.order o/\Ints h t a/\∀r:Bool,(r=true↔u9 a g o v.limit)->K (cB r) m h
noncomputable def VY(s t u:Sl)(m:MH)(h:PH):Ctx:=
 dL [(124,ZA)] [(2,{A:=Nat,st:=λi=>cD 66 69 [(0,sv s),(1,sv t),(2,sv u),(10,sv s),(11,iv s.len),(12,iv i)] [] m h}),
  (7,{A:=Nat×Nat×(Int×Int),st:=λ⟨i,k,p⟩=>cD 66 69 [(0,sv s),(1,sv t),(2,sv u),(7,iv i),(8,.at (.ptr 8 0)),(9,iv k),(10,sv s),(11,iv s.len),(12,iv i)] [(8,.cells 69 [.val (.int .i64 p.1),.val (.int .i64 p.2)])] m h})] [] [] false
noncomputable def VX(v:QV)(t:Sl)(m:MH)(h:PH):Ctx:=
 dL [(124,ZA)] [(2,{A:=Nat,st:=λi=>cD 62 64 [(1,sv t),(2,.at (.ptr 2 0)),(11,sv v.group),(12,iv v.group.len),(13,iv i)] [(2,.cells 38 (v.enc.map .val))] m h}),
  (7,{A:=Nat×Nat×Int,st:=λ⟨i,k,c⟩=>cD 62 64 [(1,sv t),(2,.at (.ptr 2 0)),(5,iv i),(6,iv c),(7,iv k),(11,sv v.group),(12,iv v.group.len),(13,iv i)] [(2,.cells 38 (v.enc.map .val))] m h}),
  (13,{A:=Nat,st:=λi=>cD 62 64 [(1,sv t),(2,.at (.ptr 2 0)),(36,sv v.order),(37,iv v.order.len),(38,iv i)] [(2,.cells 38 (v.enc.map .val))] m h})] [] [] false
noncomputable abbrev iK(a:Sl)(b:Int):List CV:=cJ (lY a) b
abbrev Ew(a:Sl)(b:Int)(c:Nat->Nat->Option Value)(d e:Prop):Prop:=AP (λx x1=>∃(x2:Int),aA (iK a b=iK x x2) (Ints c x x1) (branch (!(FE x1 x2)) d e))
abbrev fQ:Prop:=eP 8
abbrev AR(a b:List At):Prop:=oQ 69 a=oQ 69 b
noncomputable abbrev pK(a:Int×Int):List At:=pA (eZ a.1) (eZ a.2)
attribute [push_cast] iK Ew fQ AR pK
def Lz(s t u:Sl)(m:MH)(h:PH)(K:CV->MH->PH->Prop):Prop:=
  lV (λI x=>aA (I x) (aJ s) (aA (aJ t) (aJ u) (aA (aJ s) (bJ s) (aA (aZ x) (m=m) (bN h h))))) (λI m1 x=>I x->aW (↑x:Int) (aG s) (bD (λb o=>aH (bE s.a b o) (0<=(↑x:Int)) ((↑x:Int)<aG s) (∃(y:Int×Int),aH (aL m h b (bF o x 2) (tM y)) ((0:Int)<=0) ((0:Int)<2) (Ew t y.1 h (K aU m h) (aA (cG 1) ((1:Int)<2) (Ew u y.2 h (K aU m h) (aA (cG 0) ((0:Int)<2) (bD (λb1 o1=>aH (bE t.a b1 o1) (0<=y.1) (y.1<aG t) (∃(y1:Int),aH (aL m h b1 (fJ o1 y.1 1) (bW y1)) ((0:Int)<=1) ((1:Int)<2) (bD (λb2 o2=>aH (bE u.a b2 o2) (0<=y.2) (y.2<aG u) (∃(y2:Int),aL m h b2 (fJ o2 y.2 1) (bW y2)/\eR y1 y2 (K aU m h) (∃(I1:Nat×Nat×Int×Int->Prop)(m2:Nat×Nat×Int×Int->Nat),(∃(x1
 :Nat×Nat×Int×Int),aA (I1 x1) (aJ s) (aA (aJ t) (aJ u) (aA (bX x x1.1) fQ (aA (aZ x1.2.1) (aJ s) (aA (bJ s) (bX x x1.1) (aA (AR (pK y) (pK x1.2.2)) (m=m) (bN h h)))))))/\∀(x1:Nat×Nat×Int×Int),I1 x1->aW (↑x1.2.1:Int) (↑x1.1:Int) (bD (λb3 o3=>aA (bE s.a b3 o3) (cG (↑x1.2.1:Int)) (aA ((↑x1.2.1:Int)<aG s) (cG 0) ((0:Int)<2/\∃(y3:Int),aH (aL m h b3 (dP (bF o3 x1.2.1 2)) (bW y3)) ((0:Int)<=0) ((0:Int)<2) (dR y3 x1.2.2.1 (K aU m h) (bD (λb4 o4=>aA (bE s.a b4 o4) (cG (↑x1.2.1:Int)) (aA ((↑x1.2.1:Int)<aG s) (cG 1) ((1:Int)<2/\∃(y4:Int),aH (aL m h b4 (bF o4 x1.2.1 2+1) (bW y4)) ((0:Int)<=1) ((1:Int)<2) (dR y4 x1.2.2.2 (K aU m h) (∃(x2:Nat×Nat×Int×Int),aA
 (I1 x2) (m2 x2<m2 x1) (aA (aJ s) (aJ t) (aA (aJ u) (bX x1.1 x2.1) (aA fQ (fV (bB x1.2.1 1)=bM x2.2.1) (aA (aJ s) (bJ s) (aA (bX x1.1 x2.1) (AR (pK x1.2.2) (pK x2.2.2)) (bT (m=m) h h))))))))))))))))) (∃(x2:Nat),aA (I x2) (m1 x2<m1 x) (aA (aJ s) (aJ t) (aA (aJ u) (aJ s) (aA (bJ s) (fV (bB x1.1 1)=bM x2) (bT (m=m) h h))))))))))))))))))) (K fK m h))
def Ly(v:QV)(t:Sl)(m:MH)(h:PH)(K:CV->MH->PH->Prop):Prop:=
  lV (λI x=>aA (I x) (aJ t) (aA (eP 2) (aJ v.group) (aA (bJ v.group) (aZ x) (aA (dQ v) (m=m) (bN h h))))) (λI m1 x=>I x->aW (↑x:Int) (aG v.group) (bD (λb o=>aH (bE v.group.a b o) (0<=(↑x:Int)) ((↑x:Int)<aG v.group) (∃(y:Int),aL m h b (bF o x 1) (bW y)/\Ew t y h (K aU m h) (∃(I1:Nat×Nat×Int->Prop)(m2:Nat×Nat×Int->Nat),(∃(x1:Nat×Nat×Int),aA (I1 x1) (aJ t) (aA (eP 2) (bX x x1.1) (aA (cL y x1.2.2) (aZ x1.2.1) (aA (aJ v.group) (bJ v.group) (aA (bX x x1.1) (dQ v) (aA (m=m) (h=h) True))))))/\∀(x1:Nat×Nat×Int),I1 x1->aW (↑x1.2.1:Int) (↑x1.1:Int) (bD (λb1 o1=>aH (bE v.group.a b1 o1) (0<=(↑x1.2.1:Int)) ((↑x1.2.1:Int)<aG v.group) (∃(y1:Int),aL m h b1 (bF o1 x1.2.1 1) (bW
 y1)/\dR y1 x1.2.2 (K aU m h) (∃(x2:Nat×Nat×Int),aA (I1 x2) (m2 x2<m2 x1) (aA (aJ t) gC (aA (bX x1.1 x2.1) (cL x1.2.2 x2.2.2) (aA (fV (bB x1.2.1 1)=bM x2.2.1) (aJ v.group) (aA (bJ v.group) (bX x1.1 x2.1) (aA (dQ v) (m=m) (bN h h)))))))))) (∃(x2:Nat),aA (I x2) (m1 x2<m1 x) (aA (aJ t) gC (aA (aJ v.group) (bJ v.group) (aA (fV (bB x1.1 1)=bM x2) (dQ v) (bT (m=m) h h))))))))) (lV (λI1 x1=>aA (I1 x1) (aJ t) (aA (eP 2) (aJ v.order) (aA (bJ v.order) (aZ x1) (aA (dQ v) (m=m) (bN h h))))) (λI1 m2 x1=>I1 x1->aW (↑x1:Int) (aG v.order) (bD (λb o=>aH (bE v.order.a b o) (0<=(↑x1:Int)) ((↑x1:Int)<aG v.order) (∃(y:Int×Bool),aL m h b (bF o x1 2) (xZ y)/\AP (λs l=>∃(n:Int),aA
 (iK t y.1=iK s n) (Ints h s l) (gV (!(FE l n)) (K aU m h) (λx2=>aA (I1 x2) (m2 x2<m2 x1) (aA (aJ t) gC (aA (aJ v.order) (bJ v.order) (aA (fV (bB x1 1)=bM x2) (dQ v) (bT (m=m) h h)))))))))) (branch (decide (aG v.order<=12)) (gK v.limit 0 (K (zR (decide (v.limit<=100))) m h) (K aU m h)) (K aU m h)))))
theorem Jf{α:Type}{l:List α}{x:α}(hx:l[i]? =some x)(hi:i<k):x∈l.take k:=List.mem_of_getElem? (i:=i) (by rw[List.getElem?_take,if_pos hi,hx])
theorem ND{α:Type}{l:List α}{x y:α}(hx:l[i]? =some x)(hy:y∈l.take (i+1)):y∈l.take i\/y=x:=by
 rw[List.take_add_one,hx,List.mem_append]at hy;rcases hy with h|h
 .exact .inl h
 .simp at h;exact .inr h
theorem kE{n:Int}:FE l n=true↔0<=n/\n<l.length:=by simp[FE]
theorem Rs:Sound Tryz.prog 125 S7:=by
 refine iB Tryz.func125 ?_;rintro cvs m h K ⟨s,t,u,on,a,b,rfl,hs,ht,hu,hK⟩;refine⟨VY s t u m h,rfl,aD DW aF,Lz s t u m h K,by kernel_rfl,?_⟩;dsimp only[Lz,push_cast];have hl:=hs.slen;have hlen:=hs.len;have ta:=ht.slen;have ub:=hu.slen;refine⟨λi=>i<=on.length/\fB (Al a b) on i,λi=>on.length-i,⟨0,⟨aC,.zero⟩,MT⟩,λi⟨hi,hg⟩=>aE (λhlt=>?_) (λhge=>hK true ⟨λ_=>hg.all aC,λ_=>rfl⟩)⟩;obtain⟨p,hp⟩:=eY hl hlt;obtain⟨b1,o1,e1,r1⟩:=hs.at hp;have bad:¬Al a b (on.take i) p->K (.val (.bool false)) m h:=λhn=>hK false ⟨λe=>(by cases e),λe=>(Good.not hp hn e).elim⟩;refine⟨b1,o1,e1,aC,hlt,p,.imm r1,aC,aC,t,a,p.1,rfl,ht,aB (λh1=>bad λhh=>?_) (λh1=>⟨aC,aC,u,b,p.2,rfl,hu,aB (λh2=>bad λhh=>?_) (λh2=>?_)⟩)⟩
 .rw[hh.1]at h1;cases h1
 .rw[hh.2.1]at h2;cases h2
 have i1:FE a p.1=true:=by simpa using h1
 have i2:FE b p.2=true:=by simpa using h2
 have i1':=kE.1 i1;have i2':=kE.1 i2;obtain⟨b2,o2,e2,r2⟩:=ht.inb i1'.1 i1'.2;obtain⟨b3,o3,e3,r3⟩:=hu.inb i2'.1 i2'.2;refine⟨aC,aC,b2,o2,e2,aC,aC,_,.imm r2,aC,aC,b3,o3,e3,aC,aC,_,.imm r3,aB (λh3=>bad λhh=>?_) (λh3=>?_)⟩
 .rw[hh.2.2.1]at h3;simp at h3
 refine⟨λ⟨i',k,p'⟩=>i'=i/\p'=p/\k<=i/\∀q∈on.take k,q.1≠p.1/\q.2≠p.2,λ⟨_,k,_⟩=>i-k,⟨(i,0,p),⟨rfl,rfl,aC,λq hq=>by simp at hq⟩,MT⟩,?_⟩;rintro⟨i,k,p⟩ ⟨rfl,rfl,hk,hno⟩;dsimp only;refine aE (λhlt2=>?_) (λhge2=>?_)
 .obtain⟨q,hq⟩:∃q,on[k]? =some q:=⟨on[k]'(by omega),List.getElem?_eq_getElem _⟩
  obtain⟨b4,o4,e4,r4⟩:=hs.at hq;refine⟨b4,o4,e4,aC,aC,aC,aC,q.1,.imm (aX.part r4 0 1),aC,aC,aB (λh4=>bad λhh=>?_) (λh4=>⟨b4,o4,e4,aC,aC,aC,aC,q.2,.imm (aX.part r4 1 1),aC,aC,aB (λh5=>bad λhh=>?_) (λh5=>?_)⟩)⟩
  .exact(hh.2.2.2 q (Jf hq aC)).1 (by simpa using h4)
  .exact(hh.2.2.2 q (Jf hq aC)).2 (by simpa using h5)
  .refine⟨(i,k+1,p),⟨rfl,rfl,by show k+1<=i;omega,λq' hq'=>?_⟩,by show i-(k+1)<i-k;omega,MT⟩;rcases ND hq hq' with e|rfl
   .exact hno q' e
   .exact⟨by simpa using h4,by simpa using h5⟩
 .have:k=i:=by omega
  subst this;exact⟨k+1,⟨aC,hg.succ hp ⟨i1,i2,by simpa using h3,hno⟩⟩,by show on.length-(k+1)<on.length-k;omega,MT⟩
theorem Rr:Sound Tryz.prog 126 S5:=by
 refine iB Tryz.func126 ?_;rintro cvs m h K ⟨v,t,g,o,a,rfl,hg,ho,ht,hK⟩;refine⟨VX v t m h,rfl,aD DW aF,Ly v t m h K,by kernel_rfl,?_⟩;dsimp only[Ly,push_cast];have gl:=hg.slen;have glen:=hg.len;have ol:=ho.slen;have olen:=ho.len;have bad:¬u9 a g o v.limit->K (.val (.bool false)) m h:=λhn=>hK false ⟨λe=>(by cases e),λe=>(hn e).elim⟩;refine⟨λi=>i<=g.length/\fB (GR a) g i,λi=>g.length-i,⟨0,⟨aC,.zero⟩,MT⟩,λi⟨hi,hgi⟩=>aE (λhlt=>?_) (λhge=>?_)⟩
 .obtain⟨c,hc⟩:=eY gl hlt;obtain⟨b1,o1,e1,r1⟩:=hg.at' hc;refine⟨b1,o1,e1,aC,hlt,c,.imm r1,t,a,c,rfl,ht,aB (λh1=>bad λhh=>Good.not hc (λhx=>?_) hh.group_) (λh1=>?_)⟩
  .rw[hx.1]at h1;cases h1
  refine⟨λ⟨i',k,c'⟩=>i'=i/\c'=c/\k<=i/\c∉g.take k,λ⟨_,k,_⟩=>i-k,⟨(i,0,c),⟨rfl,rfl,aC,by simp⟩,MT⟩,?_⟩;rintro⟨i,k,c⟩ ⟨rfl,rfl,hk,hno⟩;dsimp only;refine aE (λhlt2=>?_) (λhge2=>?_)
  .obtain⟨q,hq⟩:∃q,g[k]? =some q:=⟨g[k]'(by omega),List.getElem?_eq_getElem _⟩
   obtain⟨b4,o4,e4,r4⟩:=hg.at' hq;refine⟨b4,o4,e4,aC,aC,q,.imm r4,aB (λh4=>bad λhh=>Good.not hc (λhx=>?_) hh.group_) (λh4=>?_)⟩
   .refine hx.2 ?_;have:q=c:=by simpa using h4
    rw[<-this];exact Jf hq aC
   .refine⟨(i,k+1,c),⟨rfl,rfl,by show k+1<=i;omega,λhq'=>?_⟩,by show i-(k+1)<i-k;omega,MT⟩;rcases ND hq hq' with e|rfl
    .exact hno e
    .simp at h4
  .have:k=i:=by omega
   subst this;exact⟨k+1,⟨aC,hgi.succ hc ⟨by simpa using h1,hno⟩⟩,by show g.length-(k+1)<g.length-k;omega,MT⟩
 have gg:=hgi.all aC;clear hi hgi hge;refine⟨λi=>i<=o.length/\fB (J5 a) o i,λi=>o.length-i,⟨0,⟨aC,.zero⟩,MT⟩,λi⟨hi,hoi⟩=>aE (λhlt=>?_) (λhge=>?_)⟩
 .obtain⟨c,hc⟩:=eY ol hlt;obtain⟨b1,o1,e1,r1⟩:=ho.at hc;refine⟨b1,o1,e1,aC,hlt,c,.imm r1,t,a,c.1,rfl,ht,aB (λh1=>bad λhh=>Good.not hc (λhx=>?_) hh.order_) (λh1=>⟨i+1,⟨aC,hoi.succ hc (by simpa[J5]using h1)⟩,by show o.length-(i+1)<o.length-i;omega,MT⟩)⟩;rw[show FE a c.1=true from hx]at h1;cases h1
 have oo:=hoi.all aC;refine aE (λh1=>aE (λh2=>?_) (λh2=>bad λhh=>?_)) (λh1=>bad λhh=>?_)
 .refine hK (decide (v.limit<=100)) ⟨λe=>⟨gg,oo,aC,h2,by simpa using e⟩,λe=>decide_eq_true e.high⟩
 .have:=hh.low;omega
 .have:=hh.len_;omega
def iO:Pred:=.mk 0 0 dW dW []
def dZ:Query->Prop
 |.mk op ta w co on gr od li _=>(op=1\/ta=0)/\(op=2\/w=iO)/\(op=3\/co=[])/\(op=4\/op=5\/on=[])/\(op=9\/op=10\/(gr=[]/\od=[]/\li=0))
def zK(l:List Int):List Int×Int:=if l.length<=12 then(l,0)else([],2)
def j7(e:Int):List Int×Int:=([],e)
open Classical in
noncomputable def jC(s:nY)(ps:List Int)(q:Query)(a b:List Int):List Int×Int:=
 if arity (match q with|.mk op .. =>op)<0\/¬dZ q then j7 100 else
 match q with
 |.mk op ta w co on gr od li _=>
  if op=1 then(if 0<=ta/\ta<s.tables.length then zK (gR s ta)else j7 100)
  else if op=2 then(if iP a ps w=0 then zK a else j7 (iP a ps w))
  else if op=3 then(if co≠[]/\Good (λ_ c=>FE a c=true) co then zK (co.map λc=>a.getD c.toNat 0)else j7 100)
  else if op=4 then(if Good (Al a b) on then zK (a++b)else j7 100)
  else if op=5 then(if Good (Al a b) on then zK a else j7 100)
  else if op=9 then(if u9 a gr od li then zK a else j7 100)
  else if op=10 then(if a=b/\u9 a gr od li then zK a else j7 100)
  else(if a=b then zK a else j7 100)
def SU:Vc.Spec:=λcvs m h K=>∃v q,cvs=[aQ v]/\dD h q v/\∀r:Bool,(r=true↔dZ q)->K (cB r) m h
def KR(K:CV->MH->PH->Prop)(m:MH)(h:PH)(r:List Int×Int):Prop:=∀sl h',PH.le h h'->Ints h' sl r.1->K (.tup [cS sl,cI r.2]) m h'
def YA:Vc.Spec:=λcvs m h K=>∃sc p v a b s ps q la lb,cvs=[aS sc,cS p,aQ v,cS a,cS b]/\gS h s sc/\nK s/\Ints h p ps/\dD h q v/\Ints h a la/\Ints h b lb/\la.length<=12/\lb.length<=12/\KR K m h (jC s ps q la lb)
noncomputable def Xe(m:MH):Ctx:=
 dL [(94,R6),(123,SU),(44,rX),(69,qD),(124,ZA),(125,S7),(126,S5),(127,Ak)] [(20,{A:=Nat×Sl×Sl×List Int×PH,st:=λ⟨i,a,co,l,h⟩=>cD 121 126 [(3,sv a),(12,.at (.lst 94)),(78,sv co),(79,iv co.len),(80,iv i)] [(94,.lst 3 1 (l.map eI))] m h})] [] [] false
noncomputable def VZ(v:QV)(m:MH)(h:PH):Ctx:=
 ZD [(163,Yl)] [] [(2,{A:=Bool,st:=λr=>cD 78 79 [(1,.at (.ptr 1 0)),(3,bv r)] [(1,.cells 38 (v.enc.map .val))] m h})] [(2,[(9,{A:=Bool×Bool,st:=λx=>cD 78 79 [(1,.at (.ptr 1 0)),(3,bv x.1),(20,bv x.2)] [(1,.cells 38 (v.enc.map .val))] m h}),
  (11,{A:=Bool×Bool,st:=λx=>cD 78 79 [(1,.at (.ptr 1 0)),(3,bv x.1),(31,bv x.2)] [(1,.cells 38 (v.enc.map .val))] m h}),
  (11,{A:=Bool×Bool,st:=λx=>cD 78 79 [(1,.at (.ptr 1 0)),(3,bv x.1),(42,bv x.2)] [(1,.cells 38 (v.enc.map .val))] m h}),
  (16,{A:=Bool×Bool,st:=λx=>cD 78 79 [(1,.at (.ptr 1 0)),(3,bv x.1),(58,bv x.2)] [(1,.cells 38 (v.enc.map .val))] m h})])] [] false
abbrev hX(a b:Bool):Prop:=Ze a=Ze b
abbrev uU(a:Bool):Prop:=hX true a
abbrev EK(a:Prop)(b:(Bool×Bool->Prop)->Prop)(c:(Bool×Bool->Prop)->(Bool×Bool)->Prop):Prop:=a->∃(x:Bool×Bool->Prop),b x/\∀(x1:Bool×Bool),c x x1
noncomputable abbrev oO(a b:Value)(c:List Value):List Value:=aT a cO (aT cO cO (aT cO cO (aT b cO c)))
noncomputable abbrev iL:List Value:=iR uE
abbrev CA(a:Bool×Bool->Prop)(b:Bool×Bool)(c:(Bool×Bool)->Prop)(d:QV)(e:MH)(g:PH):Prop:=∃(x:Bool×Bool),aA (a x) eD (aA (hX b.1 x.1) (c x) (aH (dQ d) (e=e) (g=g) True))
abbrev AD(a:Bool):Prop:=hX false a
attribute [push_cast] hX uU EK oO iL CA AD
def LB(v:QV)(m:MH)(h:PH)(K:CV->MH->PH->Prop):Prop:=
  ∃(I:Bool->Prop),dR v.op 9 (∃(x:Bool),aA (I x) eD (aA (uU x) (dQ v) (bT (m=m) h h))) (∃(x:Bool),aA (I x) eD (aA (hX (v.op==10) x) (dQ v) (bT (m=m) h h)))/\∀(x:Bool),EK (I x) (λI1=>dR v.op 1 (∃(x1:Bool×Bool),aA (I1 x1) eD (aA (hX x x1.1) (uU x1.2) (aH (dQ v) (m=m) (h=h) True))) (∃(x1:Bool×Bool),aA (I1 x1) eD (aA (hX x x1.1) (hX (v.table==0) x1.2) (aH (dQ v) (m=m) (h=h) True)))) (λI1 x1=>EK (I1 x1) (λI2=>branch x1.2 (dR v.op 2 (∃(x2:Bool×Bool),aA (I2 x2) eD (aA (hX x1.1 x2.1) (uU x2.2) (aH (dQ v) (m=m) (h=h) True))) (EJ (λv1 w p q=>aH (bK (dX v.where_) (jK (oO cO R9 (aT cO cO (aT cO R9 iL))))=bK (dX v1) (dX w)) (fA h p v1) (fA
 h q w) (∀(r:Bool),fW r (p=q)->CA I2 x1 (λx2=>hX r x2.2) v m h)))) (∃(x2:Bool×Bool),aA (I2 x2) eD (aA (hX x1.1 x2.1) (AD x2.2) (aH (dQ v) (m=m) (h=h) True)))) (λI2 x2=>EK (I2 x2) (λI3=>branch x2.2 (dR v.op 3 (∃(x3:Bool×Bool),aA (I3 x3) eD (aA (hX x2.1 x3.1) (uU x3.2) (aH (dQ v) (m=m) (h=h) True))) (CA I3 x2 (λx3=>hX (aG v.columns==0) x3.2) v m h)) (∃(x3:Bool×Bool),aA (I3 x3) eD (aA (hX x2.1 x3.1) (AD x3.2) (aH (dQ v) (m=m) (h=h) True)))) (λI3 x3=>EK (I3 x3) (λI4=>branch x3.2 (dA (v.op==4) (CA I4 x3 (λx4=>uU x4.2) v m h) (v.op==5) (CA I4 x3 (λx4=>uU x4.2) v m h) (CA I4 x3 (λx4=>hX (aG v.on==0) x4.2) v m h)) (∃(x4:Bool×Bool),aA (I4 x4) eD (aA
 (hX x3.1 x4.1) (AD x4.2) (aH (dQ v) (m=m) (h=h) True)))) (λI4 x4=>gP (I4 x4) x4.2 (dA x4.1 (K fK m h) (aG v.group==0) (dR (aG v.order) 0 (K (zR (v.limit==0)) m h) (K aU m h)) (K aU m h)) (K aU m h)))))
abbrev dK(a:CV->MH->PH->Prop)(b:Int)(c:MH)(d:PH):Prop:=a (CV.tup (cJ Dm b)) c d
abbrev tW(a b:QV):Prop:=fT (cN a) (cN b)
noncomputable abbrev cV(a:Sl):Sl:=Sl.mk a.a a.len a.cap
noncomputable abbrev j9(a:List (List Value)):Int:=(↑a.length:Int)
abbrev vM(a:PH)(b:List (List Value))(c:CV->MH->PH->Prop)(d:MH):Prop:=bV a 1 b (λx x1=>c (CV.tup (cJ (lY x) 0)) d x1)
noncomputable abbrev tJ(a:Nat×Sl×Sl×List Int×PH):Sl:=a.2.2.1
noncomputable abbrev xW(a:Nat×Sl×Sl×List Int×PH):List Int:=a.2.2.2.1
noncomputable abbrev tK(a:Nat×Sl×Sl×List Int×PH):Nat->Nat->Option Value:=a.2.2.2.2
abbrev I9(a:Sl->(List (Int×Int))->Prop):Prop:=∃(x:Sl)(x1:List (Int×Int)),a x x1
abbrev pX(a b:List (List Value))(c:Nat):Prop:=eO (lI a b.length*c)
noncomputable abbrev pY(a b:List (List Value)):Nat:=lI a b.length
attribute [push_cast] dK tW cV j9 vM tJ xW tK I9 pX pY
def Jr(sc:bR)(p:Sl)(v:QV)(a b:Sl)(m:MH)(h:PH)(K:CV->MH->PH->Prop):Prop:=
  tE v.op (λo=>aW (arity o) 0 (dK K 100 m h) (jV (λv1 q=>aA (tW v v1) (dD h q v1) (∀(r:Bool),gP (fW r (dZ q)) (!r) (dK K 100 m h) (∃(y:List (List Value)),aA (eG 1 y) (cR h (cV a) 1 y) (aA (eO (y.length*8)) (eO y.length) (dA (v.op==1) (aW v.table 0 (dK K 100 m h) (gK v.table (hU sc) (dK K 100 m h) (xU (cJ (jK (cA sc)) v.table) h (λs h1=>eX (aG s) 12 (dK K 2 m h1) (K (CV.tup (cJ (lY s) 0)) m h1))))) (v.op==2) (CC (cW a (gL p (dX v.where_))) h (λc p1 p2=>dA (iP c p1 p2 !=0) (dK K (iP c p1 p2) m h) (decide (j9 y>12)) (dK K 2 m h) (vM h y K m))) (dA (v.op==3) (dR (aG v.columns) 0 (dK K 100 m h) (∃(I:Nat×Sl×Sl×List Int×PH->Prop)(m1:Nat×Sl×Sl×List Int×PH->Nat),
 (∃(x:Nat×Sl×Sl×List Int×PH),aA (I x) (bI a x.2.1) (aA (eL 94) (bI v.columns (tJ x)) (aA (bP v.columns (tJ x)) (aZ x.1) (aA (pJ (xW x)) (m=m) (bN h (tK x))))))/\∀(x:Nat×Sl×Sl×List Int×PH),I x->aW (↑x.1:Int) (aG (tJ x)) (bD (λb1 o1=>aH (bE (tJ x).a b1 o1) (0<=(↑x.1:Int)) ((↑x.1:Int)<aG (tJ x)) (∃(y1:Int),aL m (tK x) b1 (bF o1 x.1 1) (bW y1)/\Ew x.2.1 y1 (tK x) (dK K 100 m (tK x)) (bD (λb2 o2=>aH (bE x.2.1.a b2 o2) (0<=y1) (y1<aG x.2.1) (∃(y2:Int),aH (aL m (tK x) b2 (fJ o2 y1 1) (bW y2)) (xP (xW x)) (dN (gU (xW x))) (∃(x1:Nat×Sl×Sl×List Int×PH),aA (I x1) (m1 x1<m1 x) (aA (bI x.2.1 x1.2.1) (eL 94) (aA (bI (tJ x) (tJ x1))
 (bP (tJ x) (tJ x1)) (aA (fV (bB x.1 1)=bM x1.1) (rA (xW x) y2 (xW x1)) (bT (m=m) (tK x) (tK x1)))))))))))) (eX (j9 (gU (xW x))) 12 (dK K 2 m (tK x)) (bV (tK x) 1 (gU (xW x)) (λs h1=>K (CV.tup (cJ (lY s) 0)) m h1))))) (v.op==4) (j3 (λs t=>I9 (λu o1=>vB (λa1 b1=>aA (cW v.on (gJ a b)=cW s (gJ t u)) (lK h s o1) (aA (Ints h t a1) (Ints h u b1) (∀(r1:Bool),fW r1 (Good (Al a1 b1) o1)->dA (!r1) (dK K 100 m h) (v.op==4) (∃(y1:List (List Value)),aA (eG 1 y1) (cR h (cV b) 1 y1) (aA (pX y y1 8) (eO (pY y y1)) (eX (j9 (y++y1)) 12 (dK K 2 m h) (vM h (y++y1) K m)))) (eX (j9 y) 12 (dK K 2 m h) (vM h y K m)))))))) (dA (v.op==5) (j3 (λs t=>I9
 (λu o1=>vB (λa1 b1=>aA (cW v.on (gJ a b)=cW s (gJ t u)) (lK h s o1) (aA (Ints h t a1) (Ints h u b1) (∀(r1:Bool),fW r1 (Good (Al a1 b1) o1)->dA (!r1) (dK K 100 m h) (v.op==4) (∃(y1:List (List Value)),aA (eG 1 y1) (cR h (cV b) 1 y1) (aA (pX y y1 8) (eO (pY y y1)) (eX (j9 (y++y1)) 12 (dK K 2 m h) (vM h (y++y1) K m)))) (eX (j9 y) 12 (dK K 2 m h) (vM h y K m)))))))) (v.op==9) (∃(v2:QV),AP (λt g=>∃(o1:List (Int×Bool))(a1:List Int),aA (bK (cN v) (lY a)=bK (cN v2) (lY t)) (Ints h v2.group g) (aA (iW h v2.order o1) (Ints h t a1) (∀(r1:Bool),fW r1 (u9 a1 g o1 v2.limit)->dA (!r1) (dK K 100 m h) (decide (j9 y>12)) (dK K 2 m h) (vM h y K m))))) (CB a b h (λa1 b1 r1=>fW r1 (a1=
 b1)->dA (!r1) (dK K 100 m h) (v.op==10) (∃(v2:QV),AP (λt g=>∃(o1:List (Int×Bool))(a2:List Int),aA (bK (cN v) (lY a)=bK (cN v2) (lY t)) (Ints h v2.group g) (aA (iW h v2.order o1) (Ints h t a2) (∀(r2:Bool),fW r2 (u9 a2 g o1 v2.limit)->dA (!r2) (dK K 100 m h) (decide (j9 y>12)) (dK K 2 m h) (vM h y K m))))) (eX (j9 y) 12 (dK K 2 m h) (vM h y K m)))))))))))))
theorem Dq{α:Type}{n:Nat}{l:List α}(h:n=l.length):((n:Int)==0)=true↔l=[]:=by
 rw[beq_iff_eq,h, <-List.length_eq_zero_iff];omega
theorem As(h:PH):fA h iO ⟨0,0,dW,dW,⟨none,0,0⟩⟩:=fA.mk (v:=⟨0,0,dW,dW,⟨none,0,0⟩⟩) (.nil _ _ _ _)
theorem Rt:Sound Tryz.prog 123 SU:=by
 refine iB Tryz.func123 ?_;rintro cvs m h K ⟨v,q,rfl,hq,hK⟩;refine⟨VZ v m h,rfl,aD Q0 aF,LB v m h K,by kernel_rfl,?_⟩;dsimp only[LB,push_cast];obtain⟨op,ta,w,co,on,gr,od,li,args⟩:=q;have a:=hq.parts;have e0:=a.op_;have e1:=a.table_;have e2:=a.limit_;have l1:=Dq a.columns_.slen;have l2:=Dq a.on_.slen;have l3:=Dq a.group_.slen;have l4:=Dq a.order_.slen;simp only[dZ]at hK;subst e0 e1 e2;refine⟨λr=>(r=true↔v.op=9\/v.op=10),aB (λh1=>⟨true,by simp at h1;simp[h1],MT⟩) (λh1=>⟨_,?_,MT⟩),λr hr=>?_⟩
 .simp only[beq_eq_false_iff_ne]at h1;simp[h1]
 refine⟨λx=>x.1=r/\(x.2=true↔(v.op=1\/v.table=0)),aB (λh1=>⟨(r,true),⟨rfl,by simp at h1;simp[h1]⟩,MT⟩) (λh1=>⟨(r,_),⟨rfl,?_⟩,MT⟩),?_⟩
 .simp only[beq_eq_false_iff_ne]at h1;simp[h1]
 rintro⟨r,c⟩ ⟨rfl,hc⟩;dsimp only at hc hr⊢
 refine⟨λx=>x.1=r/\(x.2=true↔(v.op=1\/v.table=0)/\(v.op=2\/w=iO)),aB (λh1=>aB (λh2=>⟨(r,true),⟨rfl,⟨λ_=>⟨hc.1 h1,.inl (by simpa using h2)⟩,λ_=>rfl⟩⟩,MT⟩) (λh2=>⟨v.where_,⟨0,0,dW,dW,⟨none,0,0⟩⟩,w,iO,rfl,a.where_,As h,λr' hr'=>⟨(r,r'),⟨rfl,?_⟩,MT⟩⟩)) (λh1=>⟨(r,false),⟨rfl,?_⟩,MT⟩),?_⟩
 .simp only[beq_eq_false_iff_ne]at h2;simp only[hr',hc.1 h1,h2,true_and,false_or]
 .rw[h1]at hc;simp only[Bool.false_eq_true,false_iff]at hc⊢;exactλe=>hc e.1
 clear hc c;rintro⟨r,c⟩ ⟨rfl,hc⟩;dsimp only at hc hr⊢
 refine⟨λx=>x.1=r/\(x.2=true↔(v.op=1\/v.table=0)/\(v.op=2\/w=iO)/\(v.op=3\/co=[])),aB (λh1=>aB (λh2=>⟨(r,true),⟨rfl,⟨λ_=>⟨(hc.1 h1).1,(hc.1 h1).2,.inl (by simpa using h2)⟩,λ_=>rfl⟩⟩,MT⟩) (λh2=>⟨(r,_),⟨rfl,?_⟩,MT⟩)) (λh1=>⟨(r,false),⟨rfl,?_⟩,MT⟩),?_⟩
 .simp only[beq_eq_false_iff_ne]at h2;simp only[l1,hc.1 h1,h2,true_and,false_or]
 .rw[h1]at hc;simp only[Bool.false_eq_true,false_iff]at hc⊢;exactλe=>hc ⟨e.1,e.2.1⟩
 clear hc c;rintro⟨r,c⟩ ⟨rfl,hc⟩;dsimp only at hc hr⊢
 refine⟨λx=>x.1=r/\(x.2=true↔(v.op=1\/v.table=0)/\(v.op=2\/w=iO)/\(v.op=3\/co=[])/\(v.op=4\/v.op=5\/on=[])),aB (λh1=>aB (λh2=>⟨(r,true),⟨rfl,⟨λ_=>⟨(hc.1 h1).1,(hc.1 h1).2.1,(hc.1 h1).2.2,.inl (by simpa using h2)⟩,λ_=>rfl⟩⟩,MT⟩) (λh2=>aB (λh3=>⟨(r,true),⟨rfl,⟨λ_=>⟨(hc.1 h1).1,(hc.1 h1).2.1,(hc.1 h1).2.2,.inr (.inl (by simpa using h3))⟩,λ_=>rfl⟩⟩,MT⟩) (λh3=>⟨(r,_),⟨rfl,?_⟩,MT⟩))) (λh1=>⟨(r,false),⟨rfl,?_⟩,MT⟩),?_⟩
 .simp only[beq_eq_false_iff_ne]at h2 h3;simp only[l2,hc.1 h1,h2,h3,true_and,false_or]
 .rw[h1]at hc;simp only[Bool.false_eq_true,false_iff]at hc⊢;exactλe=>hc ⟨e.1,e.2.1,e.2.2.1⟩
 clear hc c;rintro⟨r,c⟩ ⟨rfl,hc⟩;dsimp only at hc hr⊢
 refine aB (λh1=>aB (λh2=>hK true ⟨λ_=>?_,λ_=>rfl⟩) (λh2=>aB (λh3=>aB (λh4=>hK _ ?_) (λh4=>hK false ?_)) (λh3=>hK false ?_))) (λh1=>hK false ?_)
 .obtain⟨p1,p2,p3,p4⟩:=hc.1 h1;refine⟨p1,p2,p3,p4,?_⟩;rcases hr.1 h2 with e|e
  .exact .inl e
  .exact .inr (.inl e)
 .obtain⟨p1,p2,p3,p4⟩:=hc.1 h1;have nr:¬(v.op=9\/v.op=10):=λe=>by rw[hr.2 e]at h2;cases h2
  rw[beq_iff_eq];refine⟨λe=>⟨p1,p2,p3,p4,.inr (.inr ⟨l3.1 h3,l4.1 h4,e⟩)⟩,λe=>?_⟩;rcases e.2.2.2.2 with e|e|e
  .exact(nr (.inl e)).elim
  .exact(nr (.inr e)).elim
  .exact e.2.2
 .have nr:¬(v.op=9\/v.op=10):=λe=>by rw[hr.2 e]at h2;cases h2
  refine⟨λe=>(by cases e),λe=>?_⟩;rcases e.2.2.2.2 with e|e|e
  .exact(nr (.inl e)).elim
  .exact(nr (.inr e)).elim
  .rw[l4.2 e.2.1]at h4;cases h4
 .have nr:¬(v.op=9\/v.op=10):=λe=>by rw[hr.2 e]at h2;cases h2
  refine⟨λe=>(by cases e),λe=>?_⟩;rcases e.2.2.2.2 with e|e|e
  .exact(nr (.inl e)).elim
  .exact(nr (.inr e)).elim
  .rw[l3.2 e.1]at h3;cases h3
 .refine⟨λe=>(by cases e),λe=>?_⟩;rw[hc.2 ⟨e.1,e.2.1,e.2.2.1,e.2.2.2.1⟩]at h1;cases h1
theorem xJ(l:List Int):eG 1 (l.map eI):=by
 constructor
 .intro e he;obtain⟨x,_,rfl⟩:=List.mem_map.1 he;rfl
 .intro e he u hu;obtain⟨x,_,rfl⟩:=List.mem_map.1 he;simp[eI]at hu;subst hu;rfl
theorem KR.err{r:List Int×Int}{e:Int}(hK:KR K m h r)(hle:PH.le h h')(he:r=j7 e):K (.tup [.val (.slice none 0 0),.val (.int .i64 e)]) m h':=by
 subst he;exact hK ⟨none,0,0⟩ h' hle ⟨.nil _ _,by simp[j7]⟩
theorem KR.big{r:List Int×Int}(hK:KR K m h r)(hle:PH.le h h')(he:r=zK l)(hl:12<l.length):K (.tup [.val (.slice none 0 0),.val (.int .i64 2)]) m h':=
 hK.err hle (by rw[he,zK,if_neg aC];rfl)
theorem KR.ok{r:List Int×Int}{sl:Sl}(hK:KR K m h r)(hle:PH.le h h')(he:r=zK l)(hl:l.length<=12)(hi:cR h' sl 1 (l.map eI)):K (.tup [.val (.slice sl.a sl.len sl.cap),.val (.int .i64 0)]) m h':=by
 rw[he,zK,if_pos hl]at hK;exact hK sl h' hle ⟨hi,by show l.length<=17592186044416;omega⟩
theorem Y0{p:Sl}{a b:Sl}{la lb:List Int}(hs:gS h s sc)(h8:nK s)(hp:Ints h p ps)(hq:dD h q v)(ha:Ints h a la)(hb:Ints h b lb)(la12:la.length<=12)(lb12:lb.length<=12)(hK:KR K m h (jC s ps q la lb)):Jr sc p v a b m h K:=by
 dsimp only[Jr,push_cast];have hqr:=hq;obtain⟨op,ta,w,co,on,gr,od,li,args⟩:=q;have x:=hq.parts;have e0:=x.op_;have e1:=x.table_;have e2:=x.limit_;have hsl:=hs.tables.slen;have hal:=ha.slen;have hcl:=x.columns_.slen;have hclen:=x.columns_.len;subst e0 e1 e2;refine⟨v.op,rfl,aE (λh1=>hK.err (.refl _) ?_) (λh1=>⟨v,_,rfl,hqr,λr hr=>aB (λh2=>hK.err (.refl _) ?_) (λh2=>?_)⟩)⟩
 .unfold jC;rw[if_pos (.inl h1)]
 .unfold jC;rw[if_pos (.inr λe=>by rw[hr.2 e]at h2;cases h2)]
 have hu:dZ (.mk v.op v.table w co on gr od v.limit args):=hr.1 (by simpa using h2);unfold jC at hK;rw[if_neg (λe=>e.elim h1 (λe=>e hu))]at hK;dsimp only at hK;clear hr h2;refine⟨la.map eI,xJ _,ha.row,by simp;omega,by simp;omega,aB (λc1=>?_) (λc1=>aB (λc2=>?_) (λc2=>aB (λc3=>?_) (λc3=>aB (λc4=>?_) (λc4=>aB (λc5=>?_) (λc5=>aB (λc6=>?_) (λc6=>?_))))))⟩
 .rw[beq_iff_eq]at c1;rw[if_pos c1]at hK;refine aE (λd1=>hK.err (.refl _) (if_neg aC)) (λd1=>aE (λd2=>hK.err (.refl _) (if_neg aC)) (λd2=>⟨sc,s,v.table,rfl,hs,h8,λsl h' hle hi=>?_⟩));rw[if_pos aC]at hK;have:=hi.slen;exact aE (λd3=>hK.big hle rfl aC) (λd3=>hK.ok hle rfl aC hi.row)
 .rw[beq_eq_false_iff_ne]at c1;rw[beq_iff_eq]at c2;rw[if_neg c1,if_pos c2]at hK;refine⟨a,p,v.where_,la,ps,w,rfl,ha,hp,x.where_,aB (λd1=>hK.err (.refl _) (if_neg (by simpa using d1))) (λd1=>?_)⟩;rw[if_pos (by simpa using d1)]at hK;exact aE (λd3=>hK.big (.refl _) rfl (by simp at d3;omega)) (λd3 sl h' hle hi=>hK.ok hle rfl aC hi)
 .rw[beq_eq_false_iff_ne]at c1 c2;rw[beq_iff_eq]at c3;rw[if_neg c1,if_neg c2,if_pos c3]at hK;refine aB (λd1=>hK.err (.refl _) (if_neg λe=>e.1 ((Dq hcl).1 d1))) (λd1=>?_);have hne:co≠[]:=λe=>by rw[(Dq hcl).2 e]at d1;cases d1
  refine⟨λ⟨i,a',co',l,hx⟩=>a'=a/\co'=v.columns/\hx=h/\i<=co.length/\l=(co.take i).map (λc=>la.getD c.toNat 0)/\fB (λ_ c=>FE la c=true) co i,λ⟨i,_,_,_,_⟩=>co.length-i,⟨(0,a,v.columns,[],h),⟨rfl,rfl,rfl,aC,by simp,.zero⟩,MT⟩,?_⟩;rintro⟨i,a,_,l,h⟩ ⟨rfl,rfl,rfl,hi,rfl,hg⟩;dsimp only;refine aE (λhlt=>?_) (λhge=>?_)
  .obtain⟨c,hc⟩:=eY hcl hlt;obtain⟨b1,o1,ea1,r1⟩:=x.columns_.at' hc;refine⟨b1,o1,ea1,aC,hlt,c,.imm r1,a,la,c,rfl,ha,aB (λd2=>hK.err (.refl _) (if_neg λe=>?_)) (λd2=>?_)⟩
   .have:=e.2 i c hc;rw[this]at d2;cases d2
   have d2:FE la c=true:=by simpa using d2
   have d3:=kE.1 d2;obtain⟨b2,o2,ea2,r2⟩:=ha.inb d3.1 d3.2;refine⟨b2,o2,ea2,aC,aC,_,.imm r2,?_,?_,(i+1,a,v.columns,(co.take (i+1)).map (λc=>la.getD c.toNat 0),h),⟨rfl,rfl,rfl,aC,rfl,hg.succ hc d2⟩,by show co.length-(i+1)<co.length-i;omega,?_⟩
   .simp;omega
   .simp;omega
   .rw[gG hc,List.map_append];exact MT
  .rw[if_pos ⟨hne,hg.all aC⟩]at hK;rw[List.take_of_length_le aC];exact aE (λd3=>hK.big (.refl _) rfl (by simp at d3⊢;omega)) (λd3 sl h' hle hi=>hK.ok hle rfl (by simp at d3⊢;omega) hi)
 .rw[beq_eq_false_iff_ne]at c1 c2 c3;have c4':=beq_iff_eq.1 c4;rw[if_neg c1,if_neg c2,if_neg c3,if_pos c4']at hK;refine⟨v.on,a,b,on,la,lb,rfl,x.on_,ha,hb,λr hr=>aB (λd1=>hK.err (.refl _) (if_neg λe=>?_)) (λd1=>aB (λ_=>⟨lb.map eI,xJ _,hb.row,by simp;omega,by simp;omega,?_⟩) (λd2=>?_))⟩
  .rw[hr.2 e]at d1;cases d1
  .rw[if_pos (hr.1 (by simpa using d1))]at hK;rw[<-List.map_append];exact aE (λd3=>hK.big (.refl _) rfl (by simp at d3⊢;omega)) (λd3 sl h' hle hi=>hK.ok hle rfl (by simp at d3⊢;omega) hi)
  .rw[c4]at d2;cases d2
 .rw[beq_eq_false_iff_ne]at c1 c2 c3;have c4':=beq_eq_false_iff_ne.1 c4;rw[beq_iff_eq]at c5;rw[if_neg c1,if_neg c2,if_neg c3,if_neg c4',if_pos c5]at hK;refine⟨v.on,a,b,on,la,lb,rfl,x.on_,ha,hb,λr hr=>aB (λd1=>hK.err (.refl _) (if_neg λe=>?_)) (λd1=>aB (λd2=>?_) (λd2=>?_))⟩
  .rw[hr.2 e]at d1;cases d1
  .rw[c4]at d2;cases d2
  .rw[if_pos (hr.1 (by simpa using d1))]at hK;exact aE (λd3=>hK.big (.refl _) rfl (by simp at d3;omega)) (λd3 sl h' hle hi=>hK.ok hle rfl aC hi)
 .rw[beq_eq_false_iff_ne]at c1 c2 c3 c4 c5;rw[beq_iff_eq]at c6;rw[if_neg c1,if_neg c2,if_neg c3,if_neg c4,if_neg c5,if_pos c6]at hK;refine⟨v,a,gr,od,la,rfl,x.group_,x.order_,ha,λr hr=>aB (λd1=>hK.err (.refl _) (if_neg λe=>?_)) (λd1=>?_)⟩
  .rw[hr.2 e]at d1;cases d1
  rw[if_pos (hr.1 (by simpa using d1))]at hK;exact aE (λd3=>hK.big (.refl _) rfl (by simp at d3;omega)) (λd3 sl h' hle hi=>hK.ok hle rfl aC hi)
 .rw[beq_eq_false_iff_ne]at c1 c2 c3 c4 c5 c6;rw[if_neg c1,if_neg c2,if_neg c3,if_neg c4,if_neg c5,if_neg c6]at hK;refine⟨a,b,la,lb,rfl,ha,hb,λr hr=>aB (λd1=>hK.err (.refl _) ?_) (λd1=>aB (λd2=>⟨v,a,gr,od,la,rfl,x.group_,x.order_,ha,λr2 hr2=>aB (λd4=>hK.err (.refl _) ?_) (λd4=>?_)⟩) (λd2=>?_))⟩
  .have hne:¬la=lb:=λe=>by rw[hr.2 e]at d1;cases d1
   by_cases h10:v.op=10
   .rw[if_pos h10,if_neg (λe=>hne e.1)]
   .rw[if_neg h10,if_neg hne]
  .rw[beq_iff_eq]at d2;rw[if_pos d2,if_neg λe=>by rw[hr2.2 e.2]at d4;cases d4]
  .rw[beq_iff_eq]at d2;rw[if_pos d2,if_pos ⟨hr.1 (by simpa using d1),hr2.1 (by simpa using d4)⟩]at hK;exact aE (λd3=>hK.big (.refl _) rfl (by simp at d3;omega)) (λd3 sl h' hle hi=>hK.ok hle rfl aC hi)
  .rw[beq_eq_false_iff_ne]at d2;rw[if_neg d2,if_pos (hr.1 (by simpa using d1))]at hK;exact aE (λd3=>hK.big (.refl _) rfl (by simp at d3;omega)) (λd3 sl h' hle hi=>hK.ok hle rfl aC hi)
theorem TR:Sound Tryz.prog 95 YA:=by
 refine iB Tryz.func95 ?_;rintro cvs m h K ⟨sc,p,v,a,b,s,ps,q,la,lb,rfl,hs,h8,hp,hq,ha,hb,h1,h2,hK⟩;refine⟨Xe m,rfl,aD KU (aD Rt (aD C4 (aD Ge (aD DW (aD Rs (aD Rr (aD Rq aF))))))),Jr sc p v a b m h K,by kernel_rfl,?_⟩;exact Y0 hs h8 hp hq ha hb h1 h2 hK
mutual
noncomputable def bZ(s:nY)(ps:List Int):Query->List Int×Int
 |.mk op ta w co on gr od li args=>
  match fZ s ps args with
  |(ks,e)=>if e=0 then(if(ks.length:Int)=arity op then jC s ps (.mk op ta w co on gr od li args) (ks.getD 0 []) (ks.getD 1 [])else j7 100)else j7 e
noncomputable def fZ(s:nY)(ps:List Int):List Query->List (List Int)×Int
 |[]=>([],0)
 |q::qs=>
  match bZ s ps q with
  |(k,e)=>if e=0 then(match fZ s ps qs with|(ks,e')=>if e'=0 then(k::ks,0)else([],e'))else([],e)
end
theorem A9{s:nY}{ps:List Int}:∀{qs:List Query}{ks:List (List Int)},qs.map (bZ s ps)=ks.map (λk=>(k,0))->fZ s ps qs=(ks,0)
 |[],[],_=>by simp[fZ]
 |q::qs,k::ks,h=>by
  simp only[List.map_cons,List.cons.injEq]at h;simp only[fZ,h.1,A9 h.2,if_true]
 |[],_::_,h=>by simp at h
 |_::_,[],h=>by simp at h
theorem BY{s:nY}{ps:List Int}{e:Int}(he:e≠0):∀{qs:List Query}{ks:List (List Int)}{i:Nat}{q:Query},(qs.take i).map (bZ s ps)=ks.map (λk=>(k,0))->qs[i]? =some q->(bZ s ps q).2=e->fZ s ps qs=([],e)
 |[],_,_,_,_,h,_=>by simp at h
 |q::qs,_,0,q',_,h,h2=>by
  simp at h;subst h;simp only[fZ,h2,if_neg he]
 |q::qs,[],i+1,_,h,_,_=>by simp at h
 |q::qs,k::ks,i+1,q',h,hq,h2=>by
  simp only[List.take_succ_cons,List.map_cons,List.cons.injEq]at h;have:=BY he h.2 (by simpa using hq) h2;simp only[fZ,h.1,this,if_true,if_neg he]
theorem Vg(l:List Int):(zK l).1.length<=12:=by unfold zK;split<;>simp_all
theorem TD(s:nY)(ps:List Int)(q:Query)(a b:List Int):(jC s ps q a b).1.length<=12:=by
 obtain⟨op,ta,w,co,on,gr,od,li,args⟩:=q;unfold jC;dsimp only
 repeat' split
 all_goals first|exact Vg _|(simp[j7];done)
theorem DR(s:nY)(ps:List Int)(q:Query):(bZ s ps q).1.length<=12:=by
 obtain⟨op,ta,w,co,on,gr,od,li,args⟩:=q;simp only[bZ]
 repeat' split
 all_goals first|exact TD .. |simp[j7]
noncomputable def fI(s:nY)(ps:List Int)(q:Query):List Int×Int:=
 if eV s=0 then(if ps.all eA=true then(if mX q=true then bZ s ps q else j7 2)else j7 1)else j7 (eV s)
def Slices(h:PH)(ss:List Sl)(ks:List (List Int)):Prop:=ss.length=ks.length/\∀(j:Nat) s k,ss[j]? =some s->ks[j]? =some k->Ints h s k
theorem Slices.mono{ss:List Sl}(x:Slices h ss ks)(le:PH.le h h'):Slices h' ss ks:=⟨x.1,λj s k h1 h2=>(x.2 j s k h1 h2).mono le⟩
theorem Slices.snoc{ss:List Sl}{s:Sl}{k:List Int}(x:Slices h ss ks)(hi:Ints h s k):Slices h (ss++[s]) (ks++[k]):=by
 refine⟨by simp[x.1],λj s' k' h1 h2=>?_⟩;by_cases hj:j<ss.length
 .rw[List.getElem?_append_left hj]at h1;rw[List.getElem?_append_left (by rw[<-x.1];exact hj)]at h2;exact x.2 j s' k' h1 h2
 .rw[List.getElem?_append_right aC]at h1;rw[List.getElem?_append_right (by have:=x.1;omega), <-x.1]at h2;cases e:j-ss.length with
  |zero=>rw[e]at h1 h2;simp at h1 h2;subst h1 h2;exact hi
  |succ n=>rw[e]at h1;simp at h1
def Bm(N:Nat):Vc.Spec:=λcvs m h K=>∃sc p v s ps q,cvs=[aS sc,cS p,aQ v]/\gS h s sc/\nK s/\Ints h p ps/\dD h q v/\SizeOf.sizeOf q<N/\KR K m h (bZ s ps q)
def Cj:Vc.Spec:=λcvs m h K=>∃sc p v s ps q,cvs=[aS sc,cS p,aQ v]/\gS h s sc/\Ints h p ps/\dD h q v/\KR K m h (fI s ps q)
noncomputable def Xv(N:Nat)(sc:bR)(p:Sl)(v:QV)(m:MH):Ctx:=
 dL [(65,Bm N),(94,R6),(95,YA)] [(3,{A:=Nat×List Sl×PH,st:=λ⟨i,ss,h⟩=>cD 58 61 [(1,sv p),(3,.at (.ptr 3 0)),(5,.at (.ptr 5 0)),(8,.at (.lst 35)),(14,iv v.args.len),(15,iv i)] [(3,.cells 43 (sc.enc.map .val)),(5,.cells 38 (v.enc.map .val)),(35,.lst 33 1 (ss.map eS))] m h})] [] [] false
noncomputable abbrev Ex(a:Nat×List Sl×PH):Option Go.Vc.Own:=cM 33 1 (List.map eS a.2.1)
noncomputable abbrev kN(a:Nat×List Sl×PH):Nat->Nat->Option Value:=a.2.2
abbrev DQ(a:bR->Sl->Prop):Prop:=∃(x:bR)(x1:Sl),a x x1
abbrev Dw(a:nY->(List Int)->Prop):Prop:=∃(x:nY)(x1:List Int),a x x1
noncomputable abbrev wV(a:bR)(b:Sl)(c:QV):List CV:=cE (cA a) (gL b (cN c))
abbrev EF(a:bR)(b:Sl)(c:QV)(d:PH)(e:QV->nY->(List Int)->Query->Prop):Prop:=DQ (λx x1=>∃(x2:QV),Dw (λx3 x4=>∃(x5:Query),aA (wV a b c=wV x x1 x2) (gS d x3 x) (aA (nK x3) (Ints d x1 x4) (e x2 x3 x4 x5))))
abbrev iG(a:List (List Value)):Prop:=eO (lI a 1*24)
noncomputable abbrev eU(a:List Sl):List (List Value):=List.map eS a
noncomputable abbrev uT(a:Nat×List Sl×PH):List (List Value):=eU a.2.1
noncomputable abbrev EL(a:Nat×List Sl×PH):List (List Value):=uT a++iL::gM iL
abbrev tX(a:List (List Value))(b:Nat)(c:List Value):Prop:=a[b]? =Option.some c
attribute [push_cast] Ex kN DQ Dw wV EF iG eU uT EL tX
def OT(N:Nat)(sc:bR)(p:Sl)(v:QV)(m:MH)(h:PH)(K:CV->MH->PH->Prop):Prop:=
  ∃(I:Nat×List Sl×PH->Prop)(m1:Nat×List Sl×PH->Nat),(∃(x:Nat×List Sl×PH),aA (I x) (aJ p) (aA (eP 3) eE (aA (eL 35) (qT v) (aA (aZ x.1) (bL sc) (aA (dQ v) (mM 33 1 (Ex x)) (aA (m=m) (h=kN x) True))))))/\∀(x:Nat×List Sl×PH),I x->aW (↑x.1:Int) (aG v.args) (bD (λb o=>aH (bE v.args.a b o) (0<=(↑x.1:Int)) ((↑x.1:Int)<aG v.args) (∃(y:QV),aL m (kN x) b (bF o x.1 21) y.enc/\EF sc p y (kN x) (λv1 s p1 q=>aA (dD (kN x) q v1) (nP q N) (∀(s1:Sl)(h1:PH),dE (kN x) h1 (Ints h1 s1 (bZ s p1 q).1) (eR (bZ s p1 q).2 0 (K (CV.tup (bK Dm (CV.val (eN (bZ s p1 q).2)))) m h1) (aA (iG (uT x)) (dN (uT x)) (∃(x1:Nat×List Sl×PH),aA (I x1) (m1 x1<m1 x) (aA (aJ p) (eP 3) (aA eE (eL
 35) (aA (qT v) (fV (bB x.1 1)=bM x1.1) (aA (bL sc) (dQ v) (aA (cM 33 1 (eT (uT x) (aK s1))=Ex x1) (m=m) (bN h1 (kN x1))))))))))))))) (∃(o:Int),hZ (nR v.op o) (j9 (uT x) !=arity o) (dK K 100 m (kN x)) (aA (eO (lI (uT x) 2*24)) (eO (lI (uT x) 2)) (aA (cG 0) (0<j9 (EL x)) (∃(e:List Value),tX (EL x) 0 e/\∃(y:Sl),aH (List.take 1 (List.drop 0 e)=aK y) ((0:Int)<=1) (1<j9 (EL x)) (∃(e1:List Value),tX (EL x) 1 e1/\∃(y1:Sl),List.take 1 (List.drop 0 e1)=aK y1/\DQ (λs p1=>∃(v1:QV),j3 (λa b=>Dw (λs1 p2=>∃(q:Query),vB (λl l1=>aA (cE (cA sc) (cW p (cE v.enc (gJ y y1)))=cE (cA s) (cW p1 (cE v1.enc (gJ a b)))) (gS (kN x)
 s1 s) (aA (nK s1) (Ints (kN x) p1 p2) (aA (dD (kN x) q v1) (Ints (kN x) a l) (aA (Ints (kN x) b l1) (l.length<=12) (l1.length<=12/\∀(s2:Sl)(h1:PH),dE (kN x) h1 (Ints h1 s2 (jC s1 p2 q l l1).1) (K (CV.tup (gL s2 (CV.val (eN (jC s1 p2 q l l1).2)))) m h1))))))))))))))
def Pd(N:Nat)(sc:bR)(p:Sl)(v:QV)(m:MH)(h:PH)(K:CV->MH->PH->Prop):Prop:=
  jW (λv1 s=>aA (fT (jK (cA sc)) (jK (cA v1))) (gS h s v1) (eR (eV s) 0 (dK K (eV s) m h) (AP (λs1 l=>aA (tY p s1) (Ints h s1 l) (branch (!(DO l)) (dK K 1 m h) (jV (λv2 p1=>aA (tW v v2) (dD h p1 v2) (branch (!(mX p1)) (dK K 2 m h) (EF sc p v h (λv3 s2 p2 q=>aA (dD h q v3) (nP q N) (∀(s3:Sl)(h1:PH),dE h h1 (Ints h1 s3 (bZ s2 p2 q).1) (K (CV.tup (gL s3 (CV.val (eN (bZ s2 p2 q).2)))) m h1))))))))))))
theorem F4{qs:List Query}(h:qs.map (bZ s ps)=ks.map (λk=>(k,0)))(j:Nat):(ks.getD j []).length<=12:=by
 rw[List.getD_eq_getElem?_getD];cases e:ks[j]? with
 |none=>simp
 |some k=>
  have h1:(qs.map (bZ s ps))[j]? =some (k,0):=by rw[h];simp[e]
  rw[List.getElem?_map,Option.map_eq_some_iff]at h1;obtain⟨q,_,h2⟩:=h1;have:=DR s ps q;rw[h2]at this;simpa using this
theorem Slices.pick{ss:List Sl}(x:Slices h ss ks)(j:Nat)(hj:j<ss.length+2):∃y:Sl,(ss.map eS++[[.slice none 0 0],[.slice none 0 0]])[j]? =some [.slice y.a y.len y.cap]/\Ints h y (ks.getD j []):=by
 by_cases h1:j<ss.length
 .refine⟨ss[j],?_,?_⟩
  .rw[List.getElem?_append_left (by simpa using h1)];simp[h1,eS]
  .have h2:j<ks.length:=by rw[<-x.1];exact h1
   rw[List.getD_eq_getElem?_getD,List.getElem?_eq_getElem h2];exact x.2 j _ _ (List.getElem?_eq_getElem h1) (List.getElem?_eq_getElem h2)
 .refine⟨⟨none,0,0⟩,?_,?_⟩
  .rw[List.getElem?_append_right (by simpa using h1)];simp only[List.length_map];have:j-ss.length=0\/j-ss.length=1:=by omega
   rcases this with e|e<;>rw[e]<;>rfl
  .rw[List.getD_eq_getElem?_getD,List.getElem?_eq_none (by have:=x.1;omega)];exact⟨.nil _ _,by simp⟩
theorem SH:∀N,Sound Tryz.prog 65 (Bm N)
 |0=>by
  refine eJ (fn:=Tryz.f65) (c:=dO Tryz.f65) Tryz.func65 rfl (by decide) ?_;rintro cvs m h K ⟨sc,p,v,s,ps,q,rfl,_,_,_,_,hN,_⟩;omega
 |N+1=>by
  refine iB Tryz.func65 ?_;rintro cvs m h K ⟨sc,p,v,s,ps,q,rfl,hs,h8,hp,hq,hN,hK⟩;refine⟨Xv N sc p v m,rfl,aD (SH N) (aD KU (aD TR aF)),OT N sc p v m h K,by kernel_rfl,?_⟩;dsimp only[OT,push_cast];have hlt:=@BK q;have hqr:=hq;obtain⟨op,ta,w,co,on,gr,od,li,args⟩:=q;have x:=hq.parts;have e0:=x.op_;have hl:=x.args_.slen;have hlen:=x.args_.len;simp only[Query.args]at hlt;simp only[bZ]at hK;refine⟨λ⟨i,ss,hx⟩=>i<=args.length/\PH.le h hx/\∃ks,Slices hx ss ks/\(args.take i).map (bZ s ps)=ks.map (λk=>(k,0)),λ⟨i,_,_⟩=>args.length-i,⟨(0,[],h),⟨aC,.refl _,[],⟨rfl,λj s k h1=>by simp at h1⟩,by simp⟩,MT⟩,?_⟩;rintro⟨i,ss,hx⟩ ⟨hi,hle,ks,hS,hks⟩;have hkl:ks.length=i:=by have:=congrArg List.length hks;simp at this;omega
  have hsl:ss.length=i:=by rw[hS.1,hkl]
  dsimp only;refine aE (λhlt2=>?_) (λhge=>?_)
  .obtain⟨q',hq'⟩:=eY hl hlt2;obtain⟨b1,o1,u,ea1,r1,hru⟩:=(x.args_.mono hle).at hq';refine⟨b1,o1,ea1,aC,hlt2,u,.imm r1,sc,p,u,s,ps,q',rfl,hs.mono hle,h8,hp.mono hle,hru,?_,λsl h' hle' hi'=>aB (λh1=>?_) (λh1=>?_)⟩
   .have:=hlt (List.mem_of_getElem? hq');omega
   .have he:(bZ s ps q').2≠0:=by simpa using h1
    rw[BY he hks hq' rfl]at hK;exact hK.err (hle.trans hle') (if_neg he)
   .have he:(bZ s ps q').2=0:=by simpa using h1
    refine⟨by simp;omega,by simp;omega,(i+1,ss++[sl],h'),⟨aC,hle.trans hle',ks++[(bZ s ps q').1],(hS.mono hle').snoc hi',?_⟩,by show args.length-(i+1)<args.length-i;omega,?_⟩
    .rw[gG hq',hks,List.map_append];simp only[List.map_cons,List.map_nil];rw[<-he]
    .rw[List.map_append];exact MT
  .rw[List.take_of_length_le aC]at hks;rw[A9 hks]at hK;simp only[if_true]at hK;refine⟨v.op,rfl,aB (λh1=>hK.err hle (if_neg λe=>?_)) (λh1=>?_)⟩
   .rw[e0]at h1;simp at h1;omega
   have h1:(ss.length:Int)=arity op:=by rw[e0]at h1;simpa using h1
   rw[if_pos aC]at hK;obtain⟨y0,hy0,i0⟩:=hS.pick 0 aC;obtain⟨y1,hy1,i1⟩:=hS.pick 1 aC;exact⟨by simp;omega,by simp;omega,aC,by simp;omega,_,hy0,y0,rfl,aC,by simp;omega,_,hy1,y1,rfl,sc,p,v,y0,y1,s,ps,_,_,_,rfl,hs.mono hle,h8,hp.mono hle,hqr.mono hle,i0,i1,F4 hks 0,F4 hks 1,λsl h' hle' hi=>hK sl h' (hle.trans hle') hi⟩
theorem Tw(h:eV s=0):nK s:=by
 have hl:Bk s:=Classical.byContradiction λhn=>by rw[sH hn]at h;cases h
 intro t ht;obtain⟨j,hj⟩:=List.mem_iff_getElem?.1 ht;exact(hl.2 j t hj).1
theorem K4:Sound Tryz.prog 25 Cj:=by
 refine iB Tryz.func25 ?_;rintro cvs m h K ⟨sc,p,v,s,ps,q,rfl,hs,hp,hq,hK⟩;refine⟨dL [(63,Aj),(64,J7),(28,Nf),(65,Bm (SizeOf.sizeOf q+1))] [] [] [] false,rfl,aD T4 (aD KY (aD K2 (aD (SH _) aF))),Pd (SizeOf.sizeOf q+1) sc p v m h K,by kernel_rfl,?_⟩;dsimp only[Pd,push_cast];unfold fI at hK;refine⟨sc,s,rfl,hs,aB (λh1=>hK.err (.refl _) (if_neg (by simpa using h1))) (λh1=>?_)⟩;have h1:eV s=0:=by simpa using h1
 rw[if_pos h1]at hK;refine⟨p,ps,rfl,hp,aB (λh2=>hK.err (.refl _) (if_neg λe=>by rw[e]at h2;cases h2)) (λh2=>?_)⟩;rw[if_pos (by rw[Bool.not_eq_false']at h2;exact h2)]at hK;refine⟨v,q,rfl,hq,aB (λh3=>hK.err (.refl _) (if_neg λe=>by rw[e]at h3;cases h3)) (λh3=>?_)⟩;rw[if_pos (by rw[Bool.not_eq_false']at h3;exact h3)]at hK;exact⟨sc,p,v,s,ps,q,rfl,hs,Tw h1,hp,hq,aC,hK⟩
def aN(n:NV):CV:=.val (.agg ⟨n.enc⟩)
structure u7(h:PH)(s:nY)(ps:List Int)(q:Query)(ks:List (List Int))(n:NV):Prop where
 s_:gS h s n.s
 ps_:Ints h n.params ps
 q_:dD h q n.q
 ks_:bH h 1 eS (λk sl=>Ints h sl k) n.args ks
 len:∀k∈ks,k.length<=12
def Query.withOf(u q:Query):Query:=match u,q with|.mk _ ta w co on gr od li _,.mk op _ _ _ _ _ _ _ args=>.mk op ta w co on gr od li args
def yZ:Vc.Spec:=λcvs m h K=>∃n k u s ps q ks uq,cvs=[aN n,cI k,aQ u]/\u7 h s ps q ks n/\dD h uq u/\∀r:Bool,(r=true↔(ks.length:Int)=k/\q=uq.withOf q)->K (cB r) m h
def J0:Vc.Spec:=λcvs m h K=>∃n s ps q ks,cvs=[aN n]/\u7 h s ps q ks n/\K (aQ ⟨0,0,⟨0,0,dW,dW,⟨none,0,0⟩⟩,⟨none,0,0⟩,⟨none,0,0⟩,n.q.group,n.q.order,n.q.limit,⟨none,0,0⟩⟩) m h
def J1:Vc.Spec:=λcvs m h K=>∃n s ps q ks a,cvs=[aN n]/\u7 h s ps q ks n/\ks[0]? =some a/\∀r:Bool,(r=true↔∃op ta w co on gr od li args,q= .mk op ta w co on gr od li args/\u9 a gr od li)->K (cB r) m h
def HG(ks:List (List Int)):Query->Prop
 |.mk op ta w co on gr od li _=>ks.length=2/\ta=0/\w=iO/\co=[]/\gr=[]/\od=[]/\li=0/\Good (Al (ks.getD 0 []) (ks.getD 1 [])) on
def J4:Vc.Spec:=λcvs m h K=>∃n s ps q ks,cvs=[aN n]/\u7 h s ps q ks n/\∀r:Bool,(r=true↔HG ks q)->K (cB r) m h
noncomputable def VI(n:NV)(h:PH):Ctx:=
 uM [] [(4,{A:=Nat×Nat×Nat×MH,st:=λ⟨i,wd,b,mx⟩=>cD 72 73 [(1,.at (.ptr 1 0)),(3,iv wd),(4,vv (.pointer (some ⟨b,0,none⟩))),(16,sv n.q.group),(17,iv n.q.group.len),(18,iv i)] [(1,.cells 152 (n.enc.map .val))] mx h}),
  (11,{A:=Nat×Nat×MH,st:=λ⟨i,wd,mx⟩=>cD 72 73 [(1,.at (.ptr 1 0)),(3,iv wd),(39,sv n.q.order),(40,iv n.q.order.len),(41,iv i)] [(1,.cells 152 (n.enc.map .val))] mx h})] [] [] [226] [] false
noncomputable def VK(n:NV)(h:PH):Ctx:=
 uM [(177,yZ)] [(6,{A:=Nat×Sl×Sl×Nat×Nat×MH,st:=λ⟨i,s,t,b,c,mx⟩=>cD 80 81 [(3,sv s),(4,sv t),(5,vv (.pointer (some ⟨b,0,none⟩))),(6,vv (.pointer (some ⟨c,0,none⟩))),(28,sv n.q.on),(29,iv n.q.on.len),(30,iv i)] [] mx h})] [] [] [226] [] false
noncomputable abbrev mN(a:QV):Value:=eN a.table
noncomputable abbrev mL(a:QV):Value:=eN a.where_.op
noncomputable abbrev mP(a:QV):Int:=a.where_.cmp
noncomputable abbrev kW(a:OV):Value:=eN a.kind
noncomputable abbrev iT(a:QV):OV:=a.where_.left
noncomputable abbrev wU(a:OV):Value:=eN a.index
noncomputable abbrev qB(a:OV):Value:=eN a.value.int
noncomputable abbrev CH(a b:QV)(c:List Value):List Value:=aT (eN a.op) (mN b) (aT (mL b) (eN (mP b)) (aT (kW (iT b)) (wU (iT b)) (aT (eN (o9 (iT b))) (qB (iT b)) c)))
noncomputable abbrev lJ(a:OV):Value:=Value.string a.value.text
noncomputable abbrev fN(a:QV):OV:=a.where_.right
noncomputable abbrev nB(a:QV):Value:=eC a.where_.args
noncomputable abbrev nC(a:QV):Value:=eC a.columns
noncomputable abbrev p9(a:QV):Value:=eC a.group
noncomputable abbrev qA(a:QV):Value:=eC a.order
attribute [push_cast] mN mL mP kW iT wU qB CH lJ fN nB nC p9 qA
def Lr(n:NV)(k:Int)(u:QV)(m:MH)(h:PH)(K:CV->MH->PH->Prop):Prop:=
  dR (aG n.args) k (∃(v:QV),jV (λw p=>∃(q:Query),aH (bK (cN n.q) (jK (CH n.q u (aT (lJ (iT u)) (kW (fN u)) (aT (wU (fN u)) (eN (o9 (fN u))) (aT (qB (fN u)) (lJ (fN u)) (aT (nB u) (nC u) (aT (eC u.on) (p9 u) (aT (qA u) (eN u.limit) (aK n.q.args)))))))))=bK (cN v) (cN w)) (dD h p v) (dD h q w) (∀(r:Bool),fW r (p=q)->K (zR r) m h))) (K aU m h)
noncomputable abbrev sK(a:Value)(b:List Value):List Value:=aT R9 cO (aT cO cO (aT cO R9 (aT uE a b)))
noncomputable abbrev HN(a:QV):List Value:=aT uE (p9 a) (aT (qA a) (eN a.limit) iL)
attribute [push_cast] sK HN
def Lp(n:NV)(m:MH)(h:PH)(K:CV->MH->PH->Prop):Prop:=
  K (jK (oO cO cO (sK uE (HN n.q)))) m h
noncomputable abbrev sP:Value:=Value.bool false
abbrev HM(a:MH)(b:PH)(c:Nat->MH->Prop):Prop:=∀(x:Nat)(x1:MH),aR (cH a b x) (bC a x1 x (aT sP sP (aT sP sP (aT sP sP (aT sP sP (aT sP sP (aT sP sP [])))))) 226) (c x x1)
noncomputable abbrev CX(a:QV)(b:At)(c:Sl)(d:List At):List At:=pQ a.where_ (eW b (uC c) (eW (uC a.group) (uC a.order) d))
noncomputable abbrev BR(a:QV):At:=uC a.columns
abbrev H4(a:bR)(b:At)(c:QV)(d:Sl)(e:List At):Prop:=eQ (oQ 152 (eW (eZ a.version) (uC a.tables) (eW b (eZ c.op) (eZ c.table::CX c (BR c) d (eW (eZ c.limit) (uC c.args) e)))))
abbrev AJ(a:NV):Prop:=H4 a.s (uC a.params) a.q a.q.on (jR (uC a.args))
attribute [push_cast] sP HM CX BR H4 AJ
def C6(n:NV)(m:MH)(h:PH)(K:CV->MH->PH->Prop):Prop:=
  cZ n.args.a 0 n.args (λb o y=>aL m h b (dP o) (aK y)/\HM m h (λb1 m1=>∃(I:Nat×Nat×Nat×MH->Prop)(m2:Nat×Nat×Nat×MH->Nat),(∃(x:Nat×Nat×Nat×MH),aA (I x) eD (aA (bM y.len=bM x.2.1) (cY b1 (iS x.2)) (aA (aJ n.q.group) (bJ n.q.group) (aA (aZ x.1) (AJ n) (bT (m1=fX x.2) h h)))))/\∀(x:Nat×Nat×Nat×MH),I x->aW (↑x.1:Int) (aG n.q.group) (bD (λb2 o1=>aH (bE n.q.group.a b2 o1) (0<=(↑x.1:Int)) ((↑x.1:Int)<aG n.q.group) (∃(y1:Int),aL (fX x.2) h b2 (bF o1 x.1 1) (bW y1)/\aW y1 0 (mJ K x.2 h) (gK y1 (↑x.2.1:Int) (mJ K x.2 h) (aA (cG y1) (y1<12) (∃(y2:Bool),aL (fX x.2) h (iS x.2) (fJ 0 y1 1) (iR (Value.bool y2))/\branch y2 (mJ K x.2 h) (aA (cG y1) (y1<12) (fD (λc E
 =>aA (pH (fX x.2) (iS x.2) (dY c E 0)) (dU (fJ 0 y1 1) c) (∀(m3:MH),bC (fX x.2) m3 (iS x.2) (splice c.toList (fJ 0 y1 1) (iR zF)) E->∃(x1:Nat×Nat×Nat×MH),aA (I x1) (m2 x1<m2 x) (aA eD (bX x.2.1 x1.2.1) (aA (cY (iS x.2) (iS x1.2)) (aJ n.q.group) (aA (bJ n.q.group) (fV (bB x.1 1)=bM x1.1) (aH (AJ n) (m3=fX x1.2) (h=h) True)))))))))))))) (∃(I1:Nat×Nat×MH->Prop)(m3:Nat×Nat×MH->Nat),Mv (λx1=>aA (I1 x1) eD (aA (bX x.2.1 (iS x1)) (aJ n.q.order) (aA (bJ n.q.order) (aZ x1.1) (aA (AJ n) (fX x.2=fX x1) (bN h h))))) (λx1=>I1 x1->aW (↑x1.1:Int) (aG n.q.order) (bD (λb2 o1=>aH (bE n.q.order.a b2 o1) (0<=(↑x1.1:Int)) ((↑x1.1:Int)<aG n.q.order) (∃(y1:Int×Bool),aL
 (fX x1) h b2 (bF o1 x1.1 2) (xZ y1)/\aW y1.1 0 (mJ K x1 h) (gK y1.1 (↑(iS x1):Int) (mJ K x1 h) (∃(x2:Nat×Nat×MH),aA (I1 x2) (m3 x2<m3 x1) (aA eD (bX (iS x1) (iS x2)) (aA (aJ n.q.order) (bJ n.q.order) (aA (fV (bB x1.1 1)=bM x2.1) (AJ n) (bT (fX x1=fX x2) h h))))))))) (branch (decide (aG n.q.order<=12)) (gK n.q.limit 0 (K (zR (decide (n.q.limit<=100))) (fX x1) h) (mJ K x1 h)) (mJ K x1 h))))))
abbrev AF(a:nY->(List Int)->Query->(List (List Int))->Prop):Prop:=Dw (λx x1=>∃(x2:Query)(x3:List (List Int)),a x x1 x2 x3)
abbrev xQ(a:List CV)(b:NV->Int->QV->List CV)(c:PH)(d:Int->Query->(List (List Int))->Query->Bool->Prop):Prop:=∃(x:NV)(x1:Int)(x2:QV),AF (λx3 x4 x5 x6=>∃(x7:Query),aH (a=b x x1 x2) (u7 c x3 x4 x5 x6 x) (dD c x7 x2) (∀(x8:Bool),d x1 x5 x6 x7 x8))
noncomputable abbrev fR(a:NV)(b:List Value):List Value:=aT (wU (iT a.q)) (eN (o9 (iT a.q))) (aT (qB (iT a.q)) (lJ (iT a.q)) (aT (kW (fN a.q)) (wU (fN a.q)) (aT (eN (o9 (fN a.q))) (qB (fN a.q)) b)))
noncomputable abbrev sM(a:QV):Value:=eC a.args
noncomputable abbrev fP(a:NV):List Value:=aT (lJ (fN a.q)) (nB a.q) (aT (nC a.q) (eC a.q.on) (aT (p9 a.q) (qA a.q) (aT (eN a.q.limit) (sM a.q) (aK a.args))))
abbrev xX(a:List (List Int))(b:Int)(c d:Query):Prop:=(↑a.length:Int)=b/\c=Query.withOf d c
noncomputable abbrev iI(a:Nat×Sl×Sl×Nat×Nat×MH):Nat×Nat×MH:=a.2.2.2
attribute [push_cast] AF xQ fR sM fP xX iI
def C7(n:NV)(m:MH)(h:PH)(K:CV->MH->PH->Prop):Prop:=
  xQ (cE (aT (sA n.s) (rZ n.s) (aT (eC n.params) (eN n.q.op) (aT (mN n.q) (mL n.q) (aT (eN (mP n.q)) (kW (iT n.q)) (fR n (fP n)))))) (bK (fH 2) (jK (oO cO cO (sK uE (aT (eC n.q.on) uE (aT uE cO iL))))))) (λn1 k u=>cE (aT (sA n1.s) (rZ n1.s) (aT (eC n1.params) (eN n1.q.op) (aT (mN n1.q) (mL n1.q) (aT (eN (mP n1.q)) (kW (iT n1.q)) (fR n1 (fP n1)))))) (bK (fH k) (cN u))) h (λk q k1 u r=>gP (fW r (xX k1 k q u)) (!r) (K aU m h) (cZ n.args.a 0 n.args (λb o y=>aL m h b (dP o) (aK y)/\cZ n.args.a 1 n.args (λb1 o1 y1=>aL m h b1 (o1+1) (aK y1)/\HM m h (λb2 m1=>HM m1 h (λb3 m2=>∃(I:Nat×Sl×Sl×Nat×Nat×MH->Prop)(m3:Nat×Sl×Sl×Nat×Nat×MH->Nat),(∃(x:Nat
 ×Sl×Sl×Nat×Nat×MH),aA (I x) (bI y x.2.1) (aA (bI y1 x.2.2.1) (cY b2 (iI x).1) (aA (cY b3 (iS (iI x))) (aJ n.q.on) (aA (bJ n.q.on) (aZ x.1) (bT (m2=fX (iI x)) h h)))))/\∀(x:Nat×Sl×Sl×Nat×Nat×MH),I x->aW (↑x.1:Int) (aG n.q.on) (bD (λb4 o2=>aH (bE n.q.on.a b4 o2) (0<=(↑x.1:Int)) ((↑x.1:Int)<aG n.q.on) (∃(y2:Int×Int),aA (aL (fX (iI x)) h b4 (bF o2 x.1 2) (tM y2)) (cG 0) (aA ((0:Int)<2) (cG 1) ((1:Int)<2/\aW y2.1 0 (mJ K (iI x) h) (gK y2.1 (aG x.2.1) (mJ K (iI x) h) (aW y2.2 0 (mJ K (iI x) h) (gK y2.2 (aG x.2.2.1) (mJ K (iI x) h) (bD (λb5 o3=>aH (bE x.2.1.a b5 o3) (0<=y2.1) (y2.1<aG x.2.1) (∃(y3:Int),aL (fX (iI x)) h b5 (fJ o3 y2.1 1) (bW
 y3)/\bD (λb6 o4=>aH (bE x.2.2.1.a b6 o4) (0<=y2.2) (y2.2<aG x.2.2.1) (∃(y4:Int),aL (fX (iI x)) h b6 (fJ o4 y2.2 1) (bW y4)/\eR y3 y4 (mJ K (iI x) h) (aA (cG y2.1) (y2.1<12) (∃(y5:Bool),aL (fX (iI x)) h (iI x).1 (fJ 0 y2.1 1) (iR (Value.bool y5))/\branch y5 (mJ K (iI x) h) (aA (cG y2.2) (y2.2<12) (∃(y6:Bool),aL (fX (iI x)) h (iS (iI x)) (fJ 0 y2.2 1) (iR (Value.bool y6))/\branch y6 (mJ K (iI x) h) (aA (cG y2.1) (y2.1<12) (fD (λc E=>aA (pH (fX (iI x)) (iI x).1 (dY c E 0)) (dU (fJ 0 y2.1 1) c) (∀(m4:MH),bC (fX (iI x)) m4 (iI x).1 (splice c.toList (fJ 0 y2.1 1) (iR zF)) E->aA (cG y2.2) (y2.2<12) (fD (λc1 E1=>aA (pH m4 (iS (iI x)) (dY c1 E1 0))
 (dU (fJ 0 y2.2 1) c1) (∀(m5:MH),bC m4 m5 (iS (iI x)) (splice c1.toList (fJ 0 y2.2 1) (iR zF)) E1->∃(x1:Nat×Sl×Sl×Nat×Nat×MH),aA (I x1) (m3 x1<m3 x) (aA (bI x.2.1 x1.2.1) (bI x.2.2.1 x1.2.2.1) (aA (cY (iI x).1 (iI x1).1) (cY (iS (iI x)) (iS (iI x1))) (aA (aJ n.q.on) (bJ n.q.on) (aH (fV (bB x.1 1)=bM x1.1) (m5=fX (iI x1)) (h=h) True)))))))))))))))))))))))))))) (K fK (fX (iI x)) h)))))))
structure Tp(m:MH)(b:Nat)(seen:List Int):Prop where
 ex:∃bs:List Bool,m b=some (.cells ⟨bs.map Value.bool⟩ 226 (0,0))/\bs.length=12/\∀k:Nat,k<12->(bs[k]? =some true↔(k:Int)∈seen)
theorem Tp.zero(h:m b=some (.cells ⟨[.bool false,.bool false,.bool false,.bool false,.bool false,.bool false,.bool false,.bool false,.bool false,.bool false,.bool false,.bool false]⟩ 226 (0,0))):Tp m b []:=
 ⟨⟨List.replicate 12 false,h,rfl,λk hk=>by rw[List.getElem?_replicate];simp[hk]⟩⟩
theorem Tp.look{seen:List Int}(x:Tp m b seen){n:Int}(h0:0<=n)(h1:n<12):∃y:Bool,aL m h b (0+n.toNat*1) [.bool y]/\(y=true↔n∈seen):=by
 obtain⟨bs,e,hl,hs⟩:=x.ex;have hk:n.toNat<bs.length:=by omega
 refine⟨bs[n.toNat],.lent _ _ _ e ?_,?_⟩
 .simp only[Nat.zero_add,Nat.mul_one,List.length_cons,List.length_nil];rw[List.drop_eq_getElem_cons (by simpa using hk)];simp
 .have:=hs n.toNat aC;rw[List.getElem?_eq_getElem hk]at this;rw[show((n.toNat:Nat):Int)=n by omega]at this;simpa using this
theorem Tp.store{seen:List Int}(x:Tp m b seen){n:Int}(h0:0<=n)(h1:n<12):∃(cs:Array Value)(E:TypeId),pH m b (.cells cs E (0,0))/\0+n.toNat*1<cs.size/\∀m',jQ m m' b (.cells ⟨splice cs.toList (0+n.toNat*1) [.bool true]⟩ E (0,0))->Tp m' b (seen++[n]):=by
 obtain⟨bs,e,hl,hs⟩:=x.ex;have hk:n.toNat<bs.length:=by omega
 refine⟨_,_,⟨e⟩,by simpa using hk,λm' hu=>⟨bs.set n.toNat true,?_,by simpa using hl,λk hk'=>?_⟩⟩
 .rw[hu.at_];congr 3;simp only[splice,Nat.zero_add,Nat.mul_one,List.length_cons,List.length_nil];rw[List.set_eq_take_append_cons_drop,if_pos hk];simp[List.map_take,List.map_drop]
 .rw[List.getElem?_set,List.mem_append,List.mem_singleton];by_cases e':n.toNat=k
  .subst e';rw[if_pos rfl,if_pos hk];exact⟨λ_=>.inr aC,λ_=>rfl⟩
  .rw[if_neg e',hs k hk'];exact⟨.inl,λh=>h.elim id λe=>by omega⟩
theorem Tp.other{b':Nat}{seen:List Int}(x:Tp m b seen)(hne:b≠b')(ho:∀c,c≠b'->m' c=m c):Tp m' b seen:=by
 obtain⟨bs,e,hl,hs⟩:=x.ex;exact⟨bs,by rw[ho b hne,e],hl,hs⟩
theorem u7.arg{n:NV}(x:u7 h s ps q ks n){j:Nat}{k:List Int}(hk:ks[j]? =some k):∃b o sl,n.args.a=some ⟨b,o,none⟩/\aX h b (o+j*1) [.slice sl.a sl.len sl.cap]/\Ints h sl k/\k.length<=12/\j<n.args.len:=by
 obtain⟨b,o,sl,e,r,hi⟩:=x.ks_.at hk;have:=(List.getElem?_eq_some_iff.1 hk).1;exact⟨b,o,sl,e,r,hi,x.len k (List.mem_of_getElem? hk),by rw[x.ks_.slen];exact this⟩
theorem XS{n:NV}(hK:K (aQ ⟨0,0,⟨0,0,dW,dW,⟨none,0,0⟩⟩,⟨none,0,0⟩,⟨none,0,0⟩,n.q.group,n.q.order,n.q.limit,⟨none,0,0⟩⟩) m h):Lp n m h K:=hK
theorem qC:Sound Tryz.prog 177 yZ:=by
 refine iB Tryz.func177 ?_;rintro cvs m h K ⟨n,k,u,s,ps,q,ks,uq,rfl,hn,hu,hK⟩;refine⟨dL [(204,Zy)] [] [] [] false,rfl,aD QO aF,Lr n k u m h K,by kernel_rfl,?_⟩;dsimp only[Lr,push_cast];have hl:=hn.ks_.slen;have hq:=hn.q_;have hq2:=hn.q_;obtain⟨op,ta,w,co,on,gr,od,li,args⟩:=q;obtain⟨op',ta',w',co',on',gr',od',li',args'⟩:=uq;have x:=hu.parts;have y:=hq.parts;refine aB (λh1=>⟨n.q,⟨n.q.op,u.table,u.where_,u.columns,u.on,u.group,u.order,u.limit,n.q.args⟩,_,.mk op ta' w' co' on' gr' od' li' args,rfl,hq2,oW.rep ⟨y.op_,x.table_,x.where_,x.columns_,x.on_,x.group_,x.order_,x.limit_,y.args_⟩,λr hr=>hK r (hr.trans ⟨λe=>⟨?_,e⟩,λe=>e.2⟩)⟩) (λh1=>hK false ⟨λe=>(by cases e),λe=>?_⟩)
 .have:(n.args.len:Int)=k:=by simpa using h1
  omega
 .have:(n.args.len:Int)≠k:=by simpa using h1
  have:=e.1;omega
theorem JE:Sound Tryz.prog 181 J0:=by
 refine iB Tryz.func181 ?_;rintro cvs m h K ⟨n,s,ps,q,ks,rfl,hn,hK⟩;refine⟨dL [] [] [] [] false,rfl,aF,Lp n m h K,by kernel_rfl,?_⟩;exact XS hK
theorem XR{n:NV}{op:Int}{on:List (Int×Int)}{args:List Query}(hn:u7 h s ps (.mk op ta w co on gr od li args) ks n)(ha:ks[0]? =some a)(hK:∀r:Bool,(r=true↔u9 a gr od li)->K (cB r) m h):C6 n m h (kG h K):=by
 dsimp only[C6,push_cast];have x:=hn.q_.parts;have gl:=x.group_.slen;have glen:=x.group_.len;have ol:=x.order_.slen;have olen:=x.order_.len;have el:=x.limit_;obtain⟨b0,o0,sl,e0,r0,hi0,hl12,hlen⟩:=hn.arg ha;have sla:=hi0.slen;have bad:∀mx,Sub m mx->¬u9 a gr od li->kG h K (.val (.bool false)) mx h:=λmx hm hn=>.sub hm (hK false ⟨λe=>(by cases e),λe=>(hn e).elim⟩);refine⟨b0,o0,e0,aC,aC,sl,.imm (by simpa using r0),λb m1 hb hm1=>?_⟩;refine⟨λ⟨i,wd,b',mx⟩=>wd=a.length/\b'=b/\i<=gr.length/\Sub m mx/\Tp mx b (gr.take i)/\fB (GR a) gr i,λ⟨i,_,_,_⟩=>gr.length-i,⟨(0,sl.len,b,m1),⟨sla,rfl,aC,(Sub.refl m).upd hb.m_ hm1.other,.zero hm1.at_,.zero⟩,MT⟩,?_⟩;rintro⟨i,wd,b,mx⟩ ⟨rfl,rfl,hi,hsub,harr,hg⟩;dsimp only;refine aE (λhlt=>?_) (λhge=>?_)
 .obtain⟨c,hc⟩:=eY gl hlt;obtain⟨b1,o1,e1,r1⟩:=x.group_.at' hc;have gbad:¬GR a (gr.take i) c->kG h K (.val (.bool false)) mx h:=λhn=>bad mx hsub λhh=>Good.not hc hn hh.group_;refine⟨b1,o1,e1,aC,hlt,c,.imm r1,aE (λh1=>gbad λhh=>?_) (λh1=>aE (λh2=>gbad λhh=>?_) (λh2=>?_))⟩
  .have:=kE.1 hh.1;omega
  .have:=kE.1 hh.1;omega
  obtain⟨y,hy,hys⟩:=harr.look (h:=h) (n:=c) aC aC;refine⟨aC,aC,y,hy,aB (λh3=>gbad λhh=>hh.2 (hys.1 h3)) (λh3=>?_)⟩;obtain⟨cs,E,hat,hsz,hst⟩:=harr.store (n:=c) aC aC;refine⟨aC,aC,cs,E,hat,hsz,λm2 hm2=>⟨(i+1,a.length,b,m2),⟨rfl,rfl,aC,hsub.upd hb.m_ hm2.other,?_,hg.succ hc ⟨kE.2 ⟨aC,aC⟩,λe=>?_⟩⟩,by show gr.length-(i+1)<gr.length-i;omega,MT⟩⟩
  .have:=hst m2 hm2
   rwa [List.take_add_one,hc]
  .rw[hys.2 e]at h3;cases h3
 have gg:=hg.all aC;refine⟨λ⟨i,wd,mx⟩=>wd=a.length/\i<=od.length/\Sub m mx/\fB (J5 a) od i,λ⟨i,_,_⟩=>od.length-i,⟨(0,a.length,mx),⟨rfl,aC,hsub,.zero⟩,MT⟩,?_⟩;clear hi hg hge hsub harr mx;rintro⟨i,wd,mx⟩ ⟨rfl,hi,hsub,hoi⟩;dsimp only;refine aE (λhlt=>?_) (λhge=>?_)
 .obtain⟨c,hc⟩:=eY ol hlt;obtain⟨b1,o1,e1,r1⟩:=x.order_.at hc;have obad:¬J5 a (od.take i) c->kG h K (.val (.bool false)) mx h:=λhn=>bad mx hsub λhh=>Good.not hc hn hh.order_;refine⟨b1,o1,e1,aC,hlt,c,.imm r1,aE (λh1=>obad λhh=>?_) (λh1=>aE (λh2=>obad λhh=>?_) (λh2=>⟨(i+1,a.length,mx),⟨rfl,aC,hsub,hoi.succ hc (kE.2 ⟨aC,aC⟩)⟩,by show od.length-(i+1)<od.length-i;omega,MT⟩))⟩
  .have:=kE.1 (show FE a c.1=true from hh);omega
  .have:=kE.1 (show FE a c.1=true from hh);omega
 have oo:=hoi.all aC;rw[el];refine aE (λh1=>aE (λh2=>?_) (λh2=>bad mx hsub λhh=>?_)) (λh1=>bad mx hsub λhh=>?_)
 .exact .sub hsub (hK (decide (li<=100)) ⟨λe=>⟨gg,oo,aC,h2,by simpa using e⟩,λe=>decide_eq_true e.high⟩)
 .have:=hh.low;omega
 .have:=hh.len_;omega
theorem JD:Sound Tryz.prog 182 J1:=by
 refine Fa Tryz.func182 ?_;rintro cvs m h K ⟨n,s,ps,q,ks,a,rfl,hn,ha,hK⟩;refine⟨VI n h,rfl,aF,C6 n m h (kG h K),by kernel_rfl,?_⟩;dsimp only[C6,push_cast];obtain⟨op,ta,w,co,on,gr,od,li,args⟩:=q;refine XR hn ha (λr hr=>hK r (hr.trans ⟨λe=>⟨_,_,_,_,_,_,_,_,_,rfl,e⟩,?_⟩));rintro⟨_,_,_,_,_,_,_,_,_,e,hr⟩;cases e;exact hr
theorem P2{on:List (Int×Int)}{sl:Sl}(hon:lK h sl on):dD h (.mk 0 0 iO [] on [] [] 0 []) ⟨0,0,⟨0,0,dW,dW,⟨none,0,0⟩⟩,⟨none,0,0⟩,sl,⟨none,0,0⟩,⟨none,0,0⟩,0,⟨none,0,0⟩⟩:=
 oW.rep ⟨rfl,rfl,As h,⟨.nil _ _,by simp⟩,hon,⟨.nil _ _,by simp⟩,⟨.nil _ _,by simp⟩,rfl,.nil _ _ _ _⟩
theorem JF:Sound Tryz.prog 178 J4:=by
 refine Fa Tryz.func178 ?_;rintro cvs m h K ⟨n,s,ps,q,ks,rfl,hn,hK⟩;refine⟨VK n h,rfl,aD qC aF,C7 n m h (kG h K),by kernel_rfl,?_⟩;dsimp only[C7,push_cast];obtain⟨op,ta,w,co,on,gr,od,li,args⟩:=q;show C7 n m h (kG h K);dsimp only[C7,push_cast];have x:=hn.q_.parts;have ol:=x.on_.slen;have olen:=x.on_.len;have bad:∀mx,Sub m mx->¬HG ks (.mk op ta w co on gr od li args)->kG h K (.val (.bool false)) mx h:=λmx hm hn=>.sub hm (hK false ⟨λe=>(by cases e),λe=>(hn e).elim⟩);refine⟨n,2,⟨0,0,⟨0,0,dW,dW,⟨none,0,0⟩⟩,⟨none,0,0⟩,n.q.on,⟨none,0,0⟩,⟨none,0,0⟩,0,⟨none,0,0⟩⟩,s,ps,_,ks,.mk 0 0 iO [] on [] [] 0 [],rfl,hn,P2 x.on_,λr hr=>aB (λh1=>bad m (Sub.refl m) λhh=>?_) (λh1=>?_)⟩
 .have:r=true:=hr.2 ⟨by have:=hh.1;omega,by obtain⟨_,rfl,rfl,rfl,rfl,rfl,rfl,_⟩:=hh;rfl⟩;rw[this]at h1;cases h1
 obtain⟨hk2,heq⟩:=hr.1 (by simpa using h1);simp only[Query.withOf,Query.mk.injEq]at heq;obtain⟨_,rfl,rfl,rfl,_,rfl,rfl,rfl,_⟩:=heq
 obtain⟨a0,a1,rfl⟩:∃a0 a1,ks=[a0,a1]:=by
  match ks,hk2 with
  |[a0,a1],_=>exact⟨a0,a1,rfl⟩
  |[],h=>simp at h
  |[_],h=>simp at h
  |_::_::_::_,h=>simp at h;omega
 obtain⟨b0,o0,s0,e0,r0,i0,l0,j0⟩:=hn.arg (j:=0) rfl;obtain⟨b1,o1,s1,e1,r1,i1,l1,j1⟩:=hn.arg (j:=1) rfl;have sl0:=i0.slen;have sl1:=i1.slen;have bad:∀mx,Sub m mx->¬Good (Al a0 a1) on->kG h K (.val (.bool false)) mx h:=λmx hm hn=>bad mx hm λhh=>hn hh.2.2.2.2.2.2.2;refine⟨b0,o0,e0,aC,aC,s0,.imm (by simpa using r0),b1,o1,e1,aC,aC,s1,.imm (by simpa using r1),λb m1 hb hm1 c m2 hc hm2=>?_⟩;have hne:b≠c:=λe=>by have:=hc.m_;rw[<-e,hm1.at_]at this;cases this
 have hs1:Sub m m1:=(Sub.refl m).upd hb.m_ hm1.other;have hcm:m c=none:=hs1.free hc.m_
 refine⟨λ⟨i,s',t',b',c',mx⟩=>s'=s0/\t'=s1/\b'=b/\c'=c/\i<=on.length/\Sub m mx/\Tp mx b ((on.take i).map Prod.fst)/\Tp mx c ((on.take i).map Prod.snd)/\fB (Al a0 a1) on i,λ⟨i,_,_,_,_,_⟩=>on.length-i,
  ⟨(0,s0,s1,b,c,m2),⟨rfl,rfl,rfl,rfl,aC,hs1.upd hcm hm2.other,(Tp.zero hm1.at_).other hne hm2.other,.zero hm2.at_,.zero⟩,MT⟩,?_⟩
 rintro⟨i,s0,s1,b,c,mx⟩ ⟨rfl,rfl,rfl,rfl,hi,hsub,hA,hB,hg⟩;dsimp only;refine aE (λhlt=>?_) (λhge=>.sub hsub (hK true ⟨λ_=>⟨rfl,rfl,rfl,rfl,rfl,rfl,rfl,hg.all aC⟩,λ_=>rfl⟩));obtain⟨p,hp⟩:=eY ol hlt;obtain⟨bp,op',ep,rp⟩:=x.on_.at hp;have pbad:¬Al a0 a1 (on.take i) p->kG h K (.val (.bool false)) mx h:=λhn=>bad mx hsub (Good.not hp hn);refine⟨bp,op',ep,aC,hlt,p,.imm rp,aC,aC,aC,aC,aE (λd1=>pbad λhh=>?_) (λd1=>aE (λd2=>pbad λhh=>?_) (λd2=>aE (λd3=>pbad λhh=>?_) (λd3=>aE (λd4=>pbad λhh=>?_) (λd4=>?_))))⟩
 .have:=kE.1 hh.1;omega
 .have:=kE.1 hh.1;omega
 .have:=kE.1 hh.2.1;omega
 .have:=kE.1 hh.2.1;omega
 obtain⟨b2,o2,e2,r2⟩:=i0.inb (n:=p.1) aC aC;obtain⟨b3,o3,e3,r3⟩:=i1.inb (n:=p.2) aC aC;obtain⟨y,hy,hys⟩:=hA.look (h:=h) (n:=p.1) aC aC;obtain⟨z,hz,hzs⟩:=hB.look (h:=h) (n:=p.2) aC aC;obtain⟨cs,E,hat,hsz,hst⟩:=hA.store (n:=p.1) aC aC;refine⟨b2,o2,e2,aC,aC,_,.imm r2,b3,o3,e3,aC,aC,_,.imm r3,aB (λd5=>pbad λhh=>?_) (λd5=>⟨aC,aC,y,hy,aB (λd6=>pbad λhh=>?_) (λd6=>⟨aC,aC,z,hz,aB (λd7=>pbad λhh=>?_) (λd7=>⟨aC,aC,cs,E,hat,hsz,λm3 hm3=>?_⟩)⟩)⟩)⟩
 .rw[hh.2.2.1]at d5;simp at d5
 .obtain⟨q,hq,e⟩:=List.mem_map.1 (hys.1 d6);exact(hh.2.2.2 q hq).1 e
 .obtain⟨q,hq,e⟩:=List.mem_map.1 (hzs.1 d7);exact(hh.2.2.2 q hq).2 e
 have hA3:=hst m3 hm3;have hB3:=hB.other hne.symm hm3.other;obtain⟨cs2,E2,hat2,hsz2,hst2⟩:=hB3.store (n:=p.2) aC aC;refine⟨aC,aC,cs2,E2,hat2,hsz2,λm4 hm4=>⟨(i+1,s0,s1,b,c,m4),⟨rfl,rfl,rfl,rfl,aC,(hsub.upd hb.m_ hm3.other).upd hcm hm4.other,?_,?_,hg.succ hp ⟨kE.2 ⟨aC,aC⟩,kE.2 ⟨aC,aC⟩,by simpa using d5,λq hq=>⟨λe=>?_,λe=>?_⟩⟩⟩,by show on.length-(i+1)<on.length-i;omega,MT⟩⟩
 .rw[gG hp];exact hA3.other hne hm4.other
 .rw[gG hp];exact hst2 m4 hm4
 .rw[hys.2 (List.mem_map.2 ⟨q,hq,e⟩)]at d6;cases d6
 .rw[hzs.2 (List.mem_map.2 ⟨q,hq,e⟩)]at d7;cases d7
def fin(r:List Int×Int):List Int×Int:=if r.2=0 then zK r.1 else j7 r.2
def Query.op:Query->Int
 |.mk op .. =>op
noncomputable def vE(s:nY)(ps:List Int)(q:Query)(ks:List (List Int)):List Int×Int:=if(ks.length:Int)=arity q.op then jC s ps q (ks.getD 0 []) (ks.getD 1 [])else j7 100
def vF(P:Int->Prop):Vc.Spec:=λcvs m h K=>∃n s ps q ks,cvs=[aN n]/\u7 h s ps q ks n/\nK s/\P q.op/\∀r,fin r=vE s ps q ks->KR K m h r
def Zr(h:PH)(ss:Sl)(ks:List (List Int)):Prop:=bH h 1 eS (λk sl=>Ints h sl k) ss ks
def Ir:Vc.Spec:=λcvs m h K=>∃ss ks,cvs=[cS ss]/\Zr h ss ks/\ks.length<=10/\(∀k∈ks,k.length<=12)/\∀sl h',PH.le h h'->Ints h' sl ks.flatten->K (cS sl) m h'
noncomputable def VR(n:NV)(m:MH)(h:PH):Ctx:=
 dL [(177,yZ)] [(5,{A:=Nat×List Int,st:=λ⟨i,l⟩=>cD 57 58 [(1,.at (.ptr 1 0)),(4,.at (.lst 25)),(28,sv n.q.columns),(29,iv n.q.columns.len),(30,iv i)] [(1,.cells 152 (n.enc.map .val)),(25,.lst 3 1 (l.map eI))] m h})] [] [] false
noncomputable abbrev zC(a:List Value):List Value:=aT uE uE (aT uE cO a)
noncomputable abbrev vY(a b:Value):List Value:=aT a b (aT cO cO (aT cO cO (aT cO cO (sK uE (zC iL)))))
attribute [push_cast] zC vY
def De(n:NV)(m:MH)(h:PH)(K:CV->MH->PH->Prop):Prop:=
  xQ (cE (aT (sA n.s) (rZ n.s) (aT (eC n.params) (eN n.q.op) (aT (mN n.q) (mL n.q) (aT (eN (mP n.q)) (kW (iT n.q)) (fR n (fP n)))))) (bK (fH 0) (jK (vY cO (mN n.q))))) (λn1 k u=>cE (aT (sA n1.s) (rZ n1.s) (aT (eC n1.params) (eN n1.q.op) (aT (mN n1.q) (mL n1.q) (aT (eN (mP n1.q)) (kW (iT n1.q)) (fR n1 (fP n1)))))) (bK (fH k) (cN u))) h (λk q k1 u r=>gP (fW r (xX k1 k q u)) (!r) (dK K 100 m h) (aW n.q.table 0 (dK K 100 m h) (gK n.q.table (hU n.s) (dK K 100 m h) (xU (cJ (jK (cA n.s)) n.q.table) h (λs h1=>K (CV.tup (cJ (lY s) 0)) m h1)))))
def Dd(n:NV)(m:MH)(h:PH)(K:CV->MH->PH->Prop):Prop:=
  xQ (cE (aT (sA n.s) (rZ n.s) (aT (eC n.params) (eN n.q.op) (aT (mN n.q) (mL n.q) (aT (eN (mP n.q)) (kW (iT n.q)) (fR n (fP n)))))) (bK (fH 1) (jK (aT cO cO (aT (mL n.q) (eN (mP n.q)) (aT (kW (iT n.q)) (wU (iT n.q)) (aT (eN (o9 (iT n.q))) (qB (iT n.q)) (aT (lJ (iT n.q)) (kW (fN n.q)) (aT (wU (fN n.q)) (eN (o9 (fN n.q))) (aT (qB (fN n.q)) (lJ (fN n.q)) (aT (nB n.q) uE (zC iL)))))))))))) (λn1 k u=>cE (aT (sA n1.s) (rZ n1.s) (aT (eC n1.params) (eN n1.q.op) (aT (mN n1.q) (mL n1.q) (aT (eN (mP n1.q)) (kW (iT n1.q)) (fR n1 (fP n1)))))) (bK (fH k) (cN u))) h (λk q k1 u r=>gP (fW r (xX k1 k q u)) (!r) (dK K 100 m h) (cZ n.args.a 0 n.args (λb o y
 =>aL m h b (dP o) (aK y)/\CC (cW y (gL n.params (dX n.q.where_))) h (λc p p1=>eR (iP c p p1) 0 (dK K (iP c p p1) m h) (cZ n.args.a 0 n.args (λb1 o1 y1=>aL m h b1 (dP o1) (aK y1)/\K (CV.tup (cJ (lY y1) 0)) m h))))))
def Dc(n:NV)(m:MH)(h:PH)(K:CV->MH->PH->Prop):Prop:=
  xQ (cE (aT (sA n.s) (rZ n.s) (aT (eC n.params) (eN n.q.op) (aT (mN n.q) (mL n.q) (aT (eN (mP n.q)) (kW (iT n.q)) (fR n (fP n)))))) (bK (fH 1) (jK (oO cO cO (sK (nC n.q) (zC iL)))))) (λn1 k u=>cE (aT (sA n1.s) (rZ n1.s) (aT (eC n1.params) (eN n1.q.op) (aT (mN n1.q) (mL n1.q) (aT (eN (mP n1.q)) (kW (iT n1.q)) (fR n1 (fP n1)))))) (bK (fH k) (cN u))) h (λk q k1 u r=>fW r (xX k1 k q u)->dA (!r) (dK K 100 m h) (aG n.q.columns==0) (dK K 100 m h) (aA (cG 0) (cG (aG n.q.columns)) (aA (sN (aG n.q.columns*8)) (sN (aG n.q.columns)) (∃(I:Nat×List Int->Prop)(m1:Nat×List Int->Nat),(∃(x:Nat×List Int),aA (I x) eD (aA (eL 25) (aJ n.q.columns) (aA (bJ n.q.columns)
 (aZ x.1) (aA (AJ n) (pJ x.2) (bT (m=m) h h)))))/\∀(x:Nat×List Int),I x->aW (↑x.1:Int) (aG n.q.columns) (bD (λb o=>aH (bE n.q.columns.a b o) (0<=(↑x.1:Int)) ((↑x.1:Int)<aG n.q.columns) (∃(y:Int),aL m h b (bF o x.1 1) (bW y)/\aW y 0 (dK K 100 m h) (cZ n.args.a 0 n.args (λb1 o1 y1=>aL m h b1 (dP o1) (aK y1)/\gK y (aG y1) (dK K 100 m h) (cZ n.args.a 0 n.args (λb2 o2 y2=>aL m h b2 (dP o2) (aK y2)/\bD (λb3 o3=>aH (bE y2.a b3 o3) (0<=y) (y<aG y2) (∃(y3:Int),aH (aL m h b3 (fJ o3 y 1) (bW y3)) (xP x.2) (dN (gU x.2)) (∃(x1:Nat×List Int),aA (I x1) (m1 x1<m1 x) (aA eD (eL 25) (aA (aJ n.q.columns) (bJ n.q.columns) (aA (fV (bB x.1 1)=bM x1.1) (AJ n) (aH (rA x.2 y3 x1.2)
 (m=m) (h=h) True)))))))))))))) (bV h 1 (gU x.2) (λs h1=>K (CV.tup (cJ (lY s) 0)) m h1))))))
noncomputable abbrev iU(a:NV)(b:List Value):CV:=jK (aT (sA a.s) (rZ a.s) (aT (eC a.params) (eN a.q.op) (aT (mN a.q) (mL a.q) (aT (eN (mP a.q)) (kW (iT a.q)) b))))
attribute [push_cast] iU
def Db(n:NV)(m:MH)(h:PH)(K:CV->MH->PH->Prop):Prop:=
  ∃(n1:NV),AF (λs p q k=>aA (fT (iU n (fR n (fP n))) (iU n1 (fR n1 (fP n1)))) (u7 h s p q k n1) (∀(r:Bool),gP (fW r (HG k q)) (!r) (dK K 100 m h) (cZ n.args.a 0 n.args (λb o y=>aL m h b (dP o) (aK y)/\cZ n.args.a 1 n.args (λb1 o1 y1=>aH (aL m h b1 (o1+1) (aK y1)) (aX h b (dP o) (aK y)) (aX h b1 (o1+1) (aK y1)) (bV h 1 (aK y::gM (aK y1)) (λs1 h1=>∃(s2:Sl)(k1:List (List Int)),aA (vL (lY s1)=vL (lY s2)) (Zr h1 s2 k1) (aA (k1.length<=10) (∀(k2:List Int),List.Mem k2 k1->k2.length<=12) (∀(s3:Sl)(h2:PH),dE h1 h2 (Ints h2 s3 k1.flatten) (K (CV.tup (cJ (lY s3) 0)) m h2))))))))))
def Da(n:NV)(m:MH)(h:PH)(K:CV->MH->PH->Prop):Prop:=
  ∃(n1:NV),AF (λs p q k=>aA (fT (iU n (fR n (fP n))) (iU n1 (fR n1 (fP n1)))) (u7 h s p q k n1) (∀(r:Bool),gP (fW r (HG k q)) (!r) (dK K 100 m h) (cZ n.args.a 0 n.args (λb o y=>aL m h b (dP o) (aK y)/\K (CV.tup (cJ (lY y) 0)) m h))))
def Gy(n:NV)(m:MH)(h:PH)(K:CV->MH->PH->Prop):Prop:=
  xQ (cE (aT (sA n.s) (rZ n.s) (aT (eC n.params) (eN n.q.op) (aT (mN n.q) (mL n.q) (aT (eN (mP n.q)) (kW (iT n.q)) (fR n (fP n)))))) (bK (fH 2) (jK zV))) (λn1 k u=>cE (aT (sA n1.s) (rZ n1.s) (aT (eC n1.params) (eN n1.q.op) (aT (mN n1.q) (mL n1.q) (aT (eN (mP n1.q)) (kW (iT n1.q)) (fR n1 (fP n1)))))) (bK (fH k) (cN u))) h (λk q k1 u r=>gP (fW r (xX k1 k q u)) (!r) (dK K 100 m h) (cZ n.args.a 0 n.args (λb o y=>aL m h b (dP o) (aK y)/\cZ n.args.a 1 n.args (λb1 o1 y1=>aL m h b1 (o1+1) (aK y1)/\CB y y1 h (λa b2 r1=>gP (fW r1 (a=b2)) (!r1) (dK K 100 m h) (cZ n.args.a 0 n.args (λb3 o2 y2=>aL m h b3 (dP o2) (aK y2)/\K (CV.tup (cJ (lY y2) 0)) m h)))))))
abbrev FW(a:(List Int)->(List (Int×Bool))->Prop):Prop:=∃(x:List Int)(x1:List (Int×Bool)),a x x1
attribute [push_cast] FW
def C9(n:NV)(m:MH)(h:PH)(K:CV->MH->PH->Prop):Prop:=
  ∃(n1:NV),AF (λs p q k=>aA (fT (iU n (fR n (fP n))) (iU n1 (fR n1 (fP n1)))) (u7 h s p q k n1) (xQ (cE (aT (sA n.s) (rZ n.s) (aT (eC n.params) (eN n.q.op) (aT (mN n.q) (mL n.q) (aT (eN (mP n.q)) (kW (iT n.q)) (fR n (fP n)))))) (bK (fH 1) (jK (oO cO cO (sK uE (HN n1.q)))))) (λn2 k1 u=>cE (aT (sA n2.s) (rZ n2.s) (aT (eC n2.params) (eN n2.q.op) (aT (mN n2.q) (mL n2.q) (aT (eN (mP n2.q)) (kW (iT n2.q)) (fR n2 (fP n2)))))) (bK (fH k1) (cN u))) h (λk1 q1 k2 u r=>gP (fW r (xX k2 k1 q1 u)) (!r) (dK K 100 m h) (∃(n2:NV),AF (λs1 p1 q2 k3=>∃(a:List Int),aH (fT (iU n (fR n (fP n))) (iU n2 (fR n2 (fP n2)))) (u7 h s1 p1 q2 k3 n2) (k3[0]? =
 Option.some a) (∀(r1:Bool),gP (fW r1 (∃(o t:Int)(w:Pred)(c:List Int)(o1:List (Int×Int)),FW (λg o2=>∃(l:Int)(a1:List Query),q2=Query.mk o t w c o1 g o2 l a1/\u9 a g o2 l))) (!r1) (dK K 100 m h) (cZ n.args.a 0 n.args (λb o y=>aL m h b (dP o) (aK y)/\K (CV.tup (cJ (lY y) 0)) m h))))))))
def C8(n:NV)(m:MH)(h:PH)(K:CV->MH->PH->Prop):Prop:=
  ∃(n1:NV),AF (λs p q k=>aA (fT (iU n (fR n (fP n))) (iU n1 (fR n1 (fP n1)))) (u7 h s p q k n1) (xQ (cE (aT (sA n.s) (rZ n.s) (aT (eC n.params) (eN n.q.op) (aT (mN n.q) (mL n.q) (aT (eN (mP n.q)) (kW (iT n.q)) (fR n (fP n)))))) (bK (fH 2) (jK (oO cO cO (sK uE (HN n1.q)))))) (λn2 k1 u=>cE (aT (sA n2.s) (rZ n2.s) (aT (eC n2.params) (eN n2.q.op) (aT (mN n2.q) (mL n2.q) (aT (eN (mP n2.q)) (kW (iT n2.q)) (fR n2 (fP n2)))))) (bK (fH k1) (cN u))) h (λk1 q1 k2 u r=>gP (fW r (xX k2 k1 q1 u)) (!r) (dK K 100 m h) (cZ n.args.a 0 n.args (λb o y=>aL m h b (dP o) (aK y)/\cZ n.args.a 1 n.args (λb1 o1 y1=>aL m h b1 (o1+1) (aK y1)/\CB y y1 h (λa b2 r1=>
 gP (fW r1 (a=b2)) (!r1) (aA (aX h b (dP o) (aK y)) (aX h b1 (o1+1) (aK y1)) (dK K 100 m h)) (aA (aX h b (dP o) (aK y)) (aX h b1 (o1+1) (aK y1)) (∃(n2:NV),AF (λs1 p1 q2 k3=>∃(a1:List Int),aH (fT (iU n (fR n (fP n))) (iU n2 (fR n2 (fP n2)))) (u7 h s1 p1 q2 k3 n2) (k3[0]? =Option.some a1) (∀(r2:Bool),gP (fW r2 (∃(o2 t:Int)(w:Pred)(c:List Int)(o3:List (Int×Int)),FW (λg o4=>∃(l:Int)(a2:List Query),q2=Query.mk o2 t w c o3 g o4 l a2/\u9 a1 g o4 l))) (!r2) (dK K 100 m h) (cZ n.args.a 0 n.args (λb3 o2 y2=>aL m h b3 (dP o2) (aK y2)/\K (CV.tup (cJ (lY y2) 0)) m h)))))))))))))
theorem W9{e:Int}(h:e≠0):fin (j7 e)=j7 e:=by unfold fin;rw[if_neg (by simpa[j7]using h)];rfl
theorem W8(l:List Int):fin (l,0)=zK l:=by unfold fin;rw[if_pos rfl]
structure UX(K:CV->MH->PH->Prop)(m:MH)(h:PH)(full:List Int×Int):Prop where
 all:∀r,fin r=full->KR K m h r
theorem UX.err{f:List Int×Int}{e:Int}(x:UX K m h f)(he:f=j7 e)(h0:e≠0)(hle:PH.le h h'):K (.tup [.val (.slice none 0 0),.val (.int .i64 e)]) m h':=
 (x.all (j7 e) (by rw[he,W9 h0])).err hle rfl
theorem UX.ok{f:List Int×Int}{sl:Sl}(x:UX K m h f)(he:f=zK l)(hle:PH.le h h')(hi:Ints h' sl l):K (.tup [.val (.slice sl.a sl.len sl.cap),.val (.int .i64 0)]) m h':=
 x.all (l,0) (by rw[he,W8]) sl h' hle hi
theorem rR(h:¬((ks.length:Int)=arity q.op/\dZ q)):vE s ps q ks=j7 100:=by
 unfold vE;by_cases h1:(ks.length:Int)=arity q.op
 .rw[if_pos h1];unfold jC;rw[if_pos (.inr λe=>h ⟨h1,e⟩)]
 .rw[if_neg h1]
theorem mW{s:nY}{ps:List Int}{op ta:Int}{w:Pred}{co:List Int}{on:List (Int×Int)}{gr:List Int}{od:List (Int×Bool)}{li:Int}{args:List Query}{ks:List (List Int)}(h1:(ks.length:Int)=arity op)(h2:dZ (.mk op ta w co on gr od li args))(h0:0<=arity op):
 vE s ps (.mk op ta w co on gr od li args) ks=jC s ps (.mk op ta w co on gr od li args) (ks.getD 0 []) (ks.getD 1 [])/\¬(arity op<0\/¬dZ (.mk op ta w co on gr od li args)):=by
 unfold vE;rw[if_pos (show(ks.length:Int)=arity (Query.op (.mk op ta w co on gr od li args))from h1)];exact⟨rfl,λe=>e.elim (λe=>by omega) λe=>e h2⟩
section
variable{n:NV}{s:nY}{ps:List Int}{ta:Int}{w:Pred}{co:List Int}{on:List (Int×Int)}{gr:List Int}{od:List (Int×Bool)}{li:Int}{args:List Query}{ks:List (List Int)}{m:MH}{h:PH}{K:CV->MH->PH->Prop}
theorem Qc(hk:(ks.length:Int)=1):∃a,ks=[a]:=by
 match ks,hk with
 |[a],_=>exact⟨a,rfl⟩
 |[],h=>simp at h
 |_::_::_,h=>simp at h;omega
theorem Mb(hk:(ks.length:Int)=2):∃a b,ks=[a,b]:=by
 match ks,hk with
 |[a,b],_=>exact⟨a,b,rfl⟩
 |[],h=>simp at h
 |[_],h=>simp at h
 |_::_::_::_,h=>simp at h;omega
theorem X4(hn:u7 h s ps (.mk 1 ta w co on gr od li args) ks n)(h8:nK s)(hT:UX K m h (vE s ps (.mk 1 ta w co on gr od li args) ks)):De n m h K:=by
 dsimp only[De,push_cast];have x:=hn.q_.parts;have et:=x.table_;have sl:=hn.s_.tables.slen;refine⟨n,0,⟨0,n.q.table,⟨0,0,dW,dW,⟨none,0,0⟩⟩,⟨none,0,0⟩,⟨none,0,0⟩,⟨none,0,0⟩,⟨none,0,0⟩,0,⟨none,0,0⟩⟩,s,ps,_,ks,.mk 0 ta iO [] [] [] [] 0 [],rfl,hn,oW.rep ⟨rfl,et,As h,⟨.nil _ _,by simp⟩,⟨.nil _ _,by simp⟩,⟨.nil _ _,by simp⟩,⟨.nil _ _,by simp⟩,rfl,.nil _ _ _ _⟩,λr hr=>aB (λh1=>hT.err (rR λe=>?_) aC (.refl _)) (λh1=>?_)⟩
 .have:r=true:=hr.2 ⟨e.1,by have:=e.2;simp[dZ]at this;obtain⟨rfl,rfl,rfl,rfl,rfl,rfl⟩:=this;rfl⟩;rw[this]at h1;cases h1
 obtain⟨hk,heq⟩:=hr.1 (by simpa using h1);simp only[Query.withOf,Query.mk.injEq]at heq;obtain⟨_,_,rfl,rfl,rfl,rfl,rfl,rfl,_⟩:=heq;obtain⟨hf,hg⟩:=mW (s:=s) (ps:=ps) (op:=1) (ta:=ta) (w:=iO) (co:=[]) (on:=[]) (gr:=[]) (od:=[]) (li:=0) (args:=args) (ks:=ks) hk (by simp[dZ]) (by decide);rw[hf]at hT;unfold jC at hT;rw[if_neg hg]at hT;dsimp only at hT;rw[if_pos rfl]at hT;refine aE (λd1=>hT.err (if_neg aC) aC (.refl _)) (λd1=>aE (λd2=>hT.err (if_neg aC) aC (.refl _)) (λd2=>⟨n.s,s,n.q.table,rfl,hn.s_,h8,λsl h' hle hi=>?_⟩));rw[et]at hi;exact hT.ok (if_pos aC) hle hi
theorem X2(hn:u7 h s ps (.mk 2 ta w co on gr od li args) ks n)(hT:UX K m h (vE s ps (.mk 2 ta w co on gr od li args) ks)):Dd n m h K:=by
 dsimp only[Dd,push_cast];have x:=hn.q_.parts;refine⟨n,1,⟨0,0,n.q.where_,⟨none,0,0⟩,⟨none,0,0⟩,⟨none,0,0⟩,⟨none,0,0⟩,0,⟨none,0,0⟩⟩,s,ps,_,ks,.mk 0 0 w [] [] [] [] 0 [],rfl,hn,oW.rep ⟨rfl,rfl,x.where_,⟨.nil _ _,by simp⟩,⟨.nil _ _,by simp⟩,⟨.nil _ _,by simp⟩,⟨.nil _ _,by simp⟩,rfl,.nil _ _ _ _⟩,λr hr=>aB (λh1=>hT.err (rR λe=>?_) aC (.refl _)) (λh1=>?_)⟩
 .have:r=true:=hr.2 ⟨e.1,by have:=e.2;simp[dZ]at this;obtain⟨rfl,rfl,rfl,rfl,rfl,rfl⟩:=this;rfl⟩;rw[this]at h1;cases h1
 obtain⟨hk,heq⟩:=hr.1 (by simpa using h1);simp only[Query.withOf,Query.mk.injEq]at heq;obtain⟨_,rfl,_,rfl,rfl,rfl,rfl,rfl,_⟩:=heq;obtain⟨hf,hg⟩:=mW (s:=s) (ps:=ps) (op:=2) (ta:=0) (w:=w) (co:=[]) (on:=[]) (gr:=[]) (od:=[]) (li:=0) (args:=args) (ks:=ks) hk (by simp[dZ]) (by decide);rw[hf]at hT;unfold jC at hT;rw[if_neg hg]at hT;dsimp only at hT;rw[if_neg (by decide),if_pos rfl]at hT;obtain⟨a,rfl⟩:=Qc hk;obtain⟨b0,o0,s0,e0,r0,i0,l0,j0⟩:=hn.arg (j:=0) rfl;simp only[List.getD_cons_zero]at hT;refine⟨b0,o0,e0,aC,aC,s0,.imm (by simpa using r0),s0,n.params,n.q.where_,a,ps,w,rfl,i0,hn.ps_,x.where_,aB (λd1=>hT.err (if_neg (by simpa using d1)) (by simpa using d1) (.refl _)) (λd1=>⟨b0,o0,e0,aC,aC,s0,.imm (by simpa using r0),hT.ok (if_pos (by simpa using d1)) (.refl _) i0⟩)⟩
theorem XZ(hn:u7 h s ps (.mk 5 ta w co on gr od li args) ks n)(hT:UX K m h (vE s ps (.mk 5 ta w co on gr od li args) ks)):Da n m h K:=by
 dsimp only[Da,push_cast];refine⟨n,s,ps,_,ks,rfl,hn,λr hr=>aB (λh1=>hT.err ?_ aC (.refl _)) (λh1=>?_)⟩
 .by_cases hb:((ks.length:Int)=arity 5/\dZ (.mk 5 ta w co on gr od li args))
  .obtain⟨hf,hg⟩:=mW (s:=s) (ps:=ps) hb.1 hb.2 (by decide);rw[hf];unfold jC;rw[if_neg hg];dsimp only;rw[if_neg (by decide),if_neg (by decide),if_neg (by decide),if_neg (by decide),if_pos rfl,if_neg];intro hgood;have h2:=hb.2;simp[dZ]at h2;have:r=true:=hr.2 ⟨by have:=hb.1;simp[arity]at this;omega,h2.1,h2.2.1,h2.2.2.1,h2.2.2.2.1,h2.2.2.2.2.1,h2.2.2.2.2.2,hgood⟩;rw[this]at h1;cases h1
  .exact rR hb
 obtain⟨hk,rfl,rfl,rfl,rfl,rfl,rfl,hgood⟩:=hr.1 (by simpa using h1);obtain⟨hf,hg⟩:=mW (s:=s) (ps:=ps) (op:=5) (ta:=0) (w:=iO) (co:=[]) (on:=on) (gr:=[]) (od:=[]) (li:=0) (args:=args) (ks:=ks) (by rw[hk];rfl) (by simp[dZ]) (by decide);rw[hf]at hT;unfold jC at hT;rw[if_neg hg]at hT;dsimp only at hT;rw[if_neg (by decide),if_neg (by decide),if_neg (by decide),if_neg (by decide),if_pos rfl,if_pos hgood]at hT;obtain⟨a,b,rfl⟩:=Mb (ks:=ks) aC;obtain⟨b0,o0,s0,e0,r0,i0,l0,j0⟩:=hn.arg (j:=0) rfl;exact⟨b0,o0,e0,aC,aC,s0,.imm (by simpa using r0),hT.ok rfl (.refl _) i0⟩
theorem X0(hn:u7 h s ps (.mk 4 ta w co on gr od li args) ks n)(hT:UX K m h (vE s ps (.mk 4 ta w co on gr od li args) ks)):Db n m h K:=by
 dsimp only[Db,push_cast];refine⟨n,s,ps,_,ks,rfl,hn,λr hr=>aB (λh1=>hT.err ?_ aC (.refl _)) (λh1=>?_)⟩
 .by_cases hb:((ks.length:Int)=arity 4/\dZ (.mk 4 ta w co on gr od li args))
  .obtain⟨hf,hg⟩:=mW (s:=s) (ps:=ps) hb.1 hb.2 (by decide);rw[hf];unfold jC;rw[if_neg hg];dsimp only;rw[if_neg (by decide),if_neg (by decide),if_neg (by decide),if_pos rfl,if_neg];intro hgood;have h2:=hb.2;simp[dZ]at h2;have:r=true:=hr.2 ⟨by have:=hb.1;simp[arity]at this;omega,h2.1,h2.2.1,h2.2.2.1,h2.2.2.2.1,h2.2.2.2.2.1,h2.2.2.2.2.2,hgood⟩;rw[this]at h1;cases h1
  .exact rR hb
 obtain⟨hk,rfl,rfl,rfl,rfl,rfl,rfl,hgood⟩:=hr.1 (by simpa using h1);obtain⟨hf,hg⟩:=mW (s:=s) (ps:=ps) (op:=4) (ta:=0) (w:=iO) (co:=[]) (on:=on) (gr:=[]) (od:=[]) (li:=0) (args:=args) (ks:=ks) (by rw[hk];rfl) (by simp[dZ]) (by decide);rw[hf]at hT;unfold jC at hT;rw[if_neg hg]at hT;dsimp only at hT;rw[if_neg (by decide),if_neg (by decide),if_neg (by decide),if_pos rfl,if_pos hgood]at hT;obtain⟨a,b,rfl⟩:=Mb (ks:=ks) aC;obtain⟨b0,o0,s0,e0,r0,i0,l0,j0⟩:=hn.arg (j:=0) rfl;obtain⟨b1,o1,s1,e1,r1,i1,l1,j1⟩:=hn.arg (j:=1) rfl;refine⟨b0,o0,e0,aC,aC,s0,.imm (by simpa using r0),b1,o1,e1,aC,aC,s1,.imm (by simpa using r1),by simpa using r0,by simpa using r1,λsl h' hle hrow=>⟨sl,[a,b],rfl,⟨⟨[s0,s1],hrow,rfl,λj k hk=>?_⟩,by simp⟩,by simp,λk hk=>hn.len k hk,λsl2 h2 hle2 hi2=>hT.ok (l:=a++b) (by simp) (hle.trans hle2) (by simpa using hi2)⟩⟩
 match j,hk with
 |0,hk=>simp at hk;subst hk;exact⟨s0,rfl,i0.mono hle⟩
 |1,hk=>simp at hk;subst hk;exact⟨s1,rfl,i1.mono hle⟩
 |_+2,hk=>simp at hk
theorem XY{op:Int}(hop:op=6\/op=7\/op=8)(hn:u7 h s ps (.mk op ta w co on gr od li args) ks n)(hT:UX K m h (vE s ps (.mk op ta w co on gr od li args) ks)):Gy n m h K:=by
 dsimp only[Gy,push_cast];have x:=hn.q_.parts;have ha:arity op=2:=by rcases hop with rfl|rfl|rfl<;>rfl
 have hne:op≠1/\op≠2/\op≠3/\op≠4/\op≠5/\op≠9/\op≠10:=by omega
 refine⟨n,2,⟨0,0,⟨0,0,dW,dW,⟨none,0,0⟩⟩,⟨none,0,0⟩,⟨none,0,0⟩,⟨none,0,0⟩,⟨none,0,0⟩,0,⟨none,0,0⟩⟩,s,ps,_,ks,.mk 0 0 iO [] [] [] [] 0 [],rfl,hn,oW.rep ⟨rfl,rfl,As h,⟨.nil _ _,by simp⟩,⟨.nil _ _,by simp⟩,⟨.nil _ _,by simp⟩,⟨.nil _ _,by simp⟩,rfl,.nil _ _ _ _⟩,λr hr=>aB (λh1=>hT.err (rR λe=>?_) aC (.refl _)) (λh1=>?_)⟩
 .have e1:(ks.length:Int)=arity op:=e.1;have:r=true:=hr.2 ⟨aC,by have:=e.2;simp[dZ,hne]at this;obtain⟨rfl,rfl,rfl,rfl,rfl,rfl,rfl⟩:=this;rfl⟩;rw[this]at h1;cases h1
 obtain⟨hk,heq⟩:=hr.1 (by simpa using h1);simp only[Query.withOf,Query.mk.injEq]at heq;obtain⟨_,rfl,rfl,rfl,rfl,rfl,rfl,rfl,_⟩:=heq;obtain⟨hf,hg⟩:=mW (s:=s) (ps:=ps) (op:=op) (ta:=0) (w:=iO) (co:=[]) (on:=[]) (gr:=[]) (od:=[]) (li:=0) (args:=args) (ks:=ks) aC (by simp[dZ]) aC;rw[hf]at hT;unfold jC at hT;rw[if_neg hg]at hT;dsimp only at hT;rw[if_neg hne.1,if_neg hne.2.1,if_neg hne.2.2.1,if_neg hne.2.2.2.1,if_neg hne.2.2.2.2.1,if_neg hne.2.2.2.2.2.1,if_neg hne.2.2.2.2.2.2]at hT;obtain⟨a,b,rfl⟩:=Mb hk;obtain⟨b0,o0,s0,e0,r0,i0,l0,j0⟩:=hn.arg (j:=0) rfl;obtain⟨b1,o1,s1,e1,r1,i1,l1,j1⟩:=hn.arg (j:=1) rfl;refine⟨b0,o0,e0,aC,aC,s0,.imm (by simpa using r0),b1,o1,e1,aC,aC,s1,.imm (by simpa using r1),s0,s1,a,b,rfl,i0,i1,λr2 hr2=>aB (λd1=>hT.err (if_neg λe=>?_) aC (.refl _)) (λd1=>⟨b0,o0,e0,aC,aC,s0,.imm (by simpa using r0),hT.ok (if_pos (hr2.1 (by simpa using d1))) (.refl _) i0⟩)⟩;have e:a=b:=e;rw[hr2.2 e]at d1;cases d1
theorem X1(hn:u7 h s ps (.mk 3 ta w co on gr od li args) ks n)(hT:UX K m h (vE s ps (.mk 3 ta w co on gr od li args) ks)):Dc n m h K:=by
 dsimp only[Dc,push_cast];have x:=hn.q_.parts;have cl:=x.columns_.slen;have clen:=x.columns_.len;refine⟨n,1,⟨0,0,⟨0,0,dW,dW,⟨none,0,0⟩⟩,n.q.columns,⟨none,0,0⟩,⟨none,0,0⟩,⟨none,0,0⟩,0,⟨none,0,0⟩⟩,s,ps,_,ks,.mk 0 0 iO co [] [] [] 0 [],rfl,hn,oW.rep ⟨rfl,rfl,As h,x.columns_,⟨.nil _ _,by simp⟩,⟨.nil _ _,by simp⟩,⟨.nil _ _,by simp⟩,rfl,.nil _ _ _ _⟩,λr hr=>aB (λh1=>hT.err (rR λe=>?_) aC (.refl _)) (λh1=>?_)⟩
 .have:r=true:=hr.2 ⟨e.1,by have:=e.2;simp[dZ]at this;obtain⟨rfl,rfl,rfl,rfl,rfl,rfl⟩:=this;rfl⟩;rw[this]at h1;cases h1
 obtain⟨hk,heq⟩:=hr.1 (by simpa using h1);simp only[Query.withOf,Query.mk.injEq]at heq;obtain⟨_,rfl,rfl,_,rfl,rfl,rfl,rfl,_⟩:=heq;obtain⟨hf,hg⟩:=mW (s:=s) (ps:=ps) (op:=3) (ta:=0) (w:=iO) (co:=co) (on:=[]) (gr:=[]) (od:=[]) (li:=0) (args:=args) (ks:=ks) hk (by simp[dZ]) (by decide);rw[hf]at hT;unfold jC at hT;rw[if_neg hg]at hT;dsimp only at hT;rw[if_neg (by decide),if_neg (by decide),if_pos rfl]at hT;obtain⟨a,rfl⟩:=Qc hk;obtain⟨b0,o0,s0,e0,r0,i0,l0,j0⟩:=hn.arg (j:=0) rfl;have sl0:=i0.slen;simp only[List.getD_cons_zero]at hT;refine aB (λd1=>hT.err (if_neg λe=>e.1 ((Dq cl).1 d1)) aC (.refl _)) (λd1=>?_);have hne:co≠[]:=λe=>by rw[(Dq cl).2 e]at d1;cases d1
 refine⟨aC,aC,aC,aC,λ⟨i,l⟩=>i<=co.length/\l=(co.take i).map (λc=>a.getD c.toNat 0)/\fB (λ_ c=>FE a c=true) co i,λ⟨i,_⟩=>co.length-i,⟨(0,[]),⟨aC,by simp,.zero⟩,MT⟩,?_⟩;rintro⟨i,_⟩ ⟨hi,rfl,hgo⟩;dsimp only;refine aE (λhlt=>?_) (λhge sl h' hle hrow=>?_)
 .obtain⟨c,hc⟩:=eY cl hlt;obtain⟨b1,o1,ea1,r1⟩:=x.columns_.at' hc;have cbad:¬FE a c=true->K (.tup [.val (.slice none 0 0),.val (.int .i64 100)]) m h:=λhx=>hT.err (if_neg λe=>hx (e.2 i c hc)) aC (.refl _);refine⟨b1,o1,ea1,aC,hlt,c,.imm r1,aE (λd2=>cbad λe=>?_) (λd2=>⟨b0,o0,e0,aC,aC,s0,.imm (by simpa using r0),aE (λd3=>cbad λe=>?_) (λd3=>?_)⟩)⟩
  .have:=kE.1 e;omega
  .have:=kE.1 e;omega
  obtain⟨b2,o2,ea2,r2⟩:=i0.inb (n:=c) aC aC;refine⟨b0,o0,e0,aC,aC,s0,.imm (by simpa using r0),b2,o2,ea2,aC,aC,_,.imm r2,?_,?_,(i+1,(co.take (i+1)).map (λc=>a.getD c.toNat 0)),⟨aC,rfl,hgo.succ hc (kE.2 ⟨aC,aC⟩)⟩,by show co.length-(i+1)<co.length-i;omega,?_⟩
  .simp;omega
  .simp;omega
  .rw[gG hc,List.map_append];exact MT
 .rw[List.take_of_length_le aC]at hrow;exact hT.ok (if_pos ⟨hne,hgo.all aC⟩) hle ⟨hrow,by simp;omega⟩
theorem XX(hn:u7 h s ps (.mk 9 ta w co on gr od li args) ks n)(hT:UX K m h (vE s ps (.mk 9 ta w co on gr od li args) ks)):C9 n m h K:=by
 dsimp only[C9,push_cast];have x:=hn.q_.parts;refine⟨n,s,ps,_,ks,rfl,hn,n,1,⟨0,0,⟨0,0,dW,dW,⟨none,0,0⟩⟩,⟨none,0,0⟩,⟨none,0,0⟩,n.q.group,n.q.order,n.q.limit,⟨none,0,0⟩⟩,s,ps,_,ks,.mk 0 0 iO [] [] gr od li [],rfl,hn,oW.rep ⟨rfl,rfl,As h,⟨.nil _ _,by simp⟩,⟨.nil _ _,by simp⟩,x.group_,x.order_,x.limit_,.nil _ _ _ _⟩,λr hr=>aB (λh1=>hT.err (rR λe=>?_) aC (.refl _)) (λh1=>?_)⟩
 .have:r=true:=hr.2 ⟨e.1,by have:=e.2;simp[dZ]at this;obtain⟨rfl,rfl,rfl,rfl⟩:=this;rfl⟩;rw[this]at h1;cases h1
 obtain⟨hk,heq⟩:=hr.1 (by simpa using h1);simp only[Query.withOf,Query.mk.injEq]at heq;obtain⟨_,rfl,rfl,rfl,rfl,_,_,_,_⟩:=heq;obtain⟨hf,hg⟩:=mW (s:=s) (ps:=ps) (op:=9) (ta:=0) (w:=iO) (co:=[]) (on:=[]) (gr:=gr) (od:=od) (li:=li) (args:=args) (ks:=ks) hk (by simp[dZ]) (by decide);rw[hf]at hT;unfold jC at hT;rw[if_neg hg]at hT;dsimp only at hT;rw[if_neg (by decide),if_neg (by decide),if_neg (by decide),if_neg (by decide),if_neg (by decide),if_pos rfl]at hT;obtain⟨a,rfl⟩:=Qc hk;obtain⟨b0,o0,s0,e0,r0,i0,l0,j0⟩:=hn.arg (j:=0) rfl;refine⟨n,s,ps,_,[a],a,rfl,hn,rfl,λr2 hr2=>aB (λd1=>hT.err (if_neg λe=>?_) aC (.refl _)) (λd1=>⟨b0,o0,e0,aC,aC,s0,.imm (by simpa using r0),hT.ok (if_pos ?_) (.refl _) i0⟩)⟩
 .rw[hr2.2 ⟨_,_,_,_,_,_,_,_,_,rfl,e⟩]at d1;cases d1
 .obtain⟨_,_,_,_,_,_,_,_,_,e,hh⟩:=hr2.1 (by simpa using d1);cases e;exact hh
theorem XW(hn:u7 h s ps (.mk 10 ta w co on gr od li args) ks n)(hT:UX K m h (vE s ps (.mk 10 ta w co on gr od li args) ks)):C8 n m h K:=by
 dsimp only[C8,push_cast];have x:=hn.q_.parts;refine⟨n,s,ps,_,ks,rfl,hn,n,2,⟨0,0,⟨0,0,dW,dW,⟨none,0,0⟩⟩,⟨none,0,0⟩,⟨none,0,0⟩,n.q.group,n.q.order,n.q.limit,⟨none,0,0⟩⟩,s,ps,_,ks,.mk 0 0 iO [] [] gr od li [],rfl,hn,oW.rep ⟨rfl,rfl,As h,⟨.nil _ _,by simp⟩,⟨.nil _ _,by simp⟩,x.group_,x.order_,x.limit_,.nil _ _ _ _⟩,λr hr=>aB (λh1=>hT.err (rR λe=>?_) aC (.refl _)) (λh1=>?_)⟩
 .have:r=true:=hr.2 ⟨e.1,by have:=e.2;simp[dZ]at this;obtain⟨rfl,rfl,rfl,rfl⟩:=this;rfl⟩;rw[this]at h1;cases h1
 obtain⟨hk,heq⟩:=hr.1 (by simpa using h1);simp only[Query.withOf,Query.mk.injEq]at heq;obtain⟨_,rfl,rfl,rfl,rfl,_,_,_,_⟩:=heq;obtain⟨hf,hg⟩:=mW (s:=s) (ps:=ps) (op:=10) (ta:=0) (w:=iO) (co:=[]) (on:=[]) (gr:=gr) (od:=od) (li:=li) (args:=args) (ks:=ks) hk (by simp[dZ]) (by decide);rw[hf]at hT;unfold jC at hT;rw[if_neg hg]at hT;dsimp only at hT;rw[if_neg (by decide),if_neg (by decide),if_neg (by decide),if_neg (by decide),if_neg (by decide),if_neg (by decide),if_pos rfl]at hT;obtain⟨a,b,rfl⟩:=Mb hk;obtain⟨b0,o0,s0,e0,r0,i0,l0,j0⟩:=hn.arg (j:=0) rfl;obtain⟨b1,o1,s1,e1,r1,i1,l1,j1⟩:=hn.arg (j:=1) rfl;refine⟨b0,o0,e0,aC,aC,s0,.imm (by simpa using r0),b1,o1,e1,aC,aC,s1,.imm (by simpa using r1),s0,s1,a,b,rfl,i0,i1,λr3 hr3=>aB (λd2=>⟨by simpa using r0,by simpa using r1,hT.err (if_neg λe=>?_) aC (.refl _)⟩) (λd2=>⟨by simpa using r0,by simpa using r1,n,s,ps,_,[a,b],a,rfl,hn,rfl,λr2 hr2=>aB (λd1=>hT.err (if_neg λe=>?_) aC (.refl _)) (λd1=>⟨b0,o0,e0,aC,aC,s0,.imm (by simpa using r0),hT.ok (if_pos ⟨hr3.1 (by simpa using d2),?_⟩) (.refl _) i0⟩)⟩)⟩
 .have e:a=b:=e.1;rw[hr3.2 e]at d2;cases d2
 .rw[hr2.2 ⟨_,_,_,_,_,_,_,_,_,rfl,e.2⟩]at d1;cases d1
 .obtain⟨_,_,_,_,_,_,_,_,_,e,hh⟩:=hr2.1 (by simpa using d1);cases e;exact hh
end
end Go.Ps
