/-
  Part 3 of a proof that a law of the given program returns true: a condition generator that is proved sound, and contracts of functions. No condition of its own. Own work, joined by a program (pack2.py).
-/
import Derived.Test.YtileehgdfcknkaaGreatDoorJb
set_option linter.unusedVariables false
set_option linter.unusedSimpArgs false
namespace Go.Ps
open Go Go.Vc Go.Proofs
variable{K:CV->MH->PH->Prop}{m:MH}{h:PH}{ps:List Int}{cb:Nat}{sc:aW}{v:QV}{q:Query}{p:Pred}{l:List Int}{i:Nat}{N:Nat}{m':MH}{h':PH}{co:List Int}{gr:List Int}{od:List (Int×Bool)}{w:Pred}{ta:Int}{li:Int}{xs:List (List Value)}{sz:Nat}{k:Nat}{ks:List (List Int)}{rs:List Int}{r:Sl}{a:List Int}{b:Nat}
structure Ref where
 columns:List Int
 table:Int
structure vL where
 name:ByteArray
 columns:List mT
 key:Int
 refs:List Ref
 checks:List Pred
structure oS where
 version:Int
 tables:List vL
variable{s:oS}
structure NZ(h:PH)(r:Ref)(v:B3):Prop where
 columns:Ints h v.columns r.columns
 table:v.table=r.table
def B5(h:PH)(s:Sl)(l:List mT):Prop:=bZ h 2 mT.enc Eq s l
structure Hv(h:PH)(t:vL)(v:bU):Prop where
 name:v.name=t.name
 columns:B5 h v.columns t.columns
 key:v.key=t.key
 refs:bZ h 2 B3.enc (NZ h) v.references t.refs
 checks:BW h v.checks t.checks
structure gI(h:PH)(s:oS)(v:aW):Prop where
 version:v.version=s.version
 tables:bZ h 5 bU.enc (Hv h) v.tables s.tables
theorem NZ.mono{r:Ref}{v:B3}(x:NZ h r v)(le:PH.le h h'):NZ h' r v:=⟨x.columns.mono le,x.table⟩
theorem Hv.mono{t:vL}{v:bU}(x:Hv h t v)(le:PH.le h h'):Hv h' t v:=
 ⟨x.name,bZ.mono x.columns le λ_ _ e=>e,x.key,x.refs.mono le λ_ _ e=>e.mono le,x.checks.mono le⟩
theorem gI.mono{v:aW}(x:gI h s v)(le:PH.le h h'):gI h' s v:=⟨x.version,x.tables.mono le λ_ _ e=>e.mono le⟩
def lower(c:Nat):Bool:=97<=c&&c<=122
def vF(c:Nat):Bool:=lower c||(48<=c&&c<=57)||c==95
def nP(s:ByteArray):List Nat:=s.data.toList.map UInt8.toNat
def mI(s:ByteArray):Bool:=1<=s.size&&s.size<=32&&lower ((nP s).headD 0)&&(nP s).all vF
theorem Mw(s:ByteArray):(nP s).length=s.size:=by simp[nP]
theorem Va{s:ByteArray}{c:Nat}(h:(nP s)[i]? =some c):(s.get! i).toNat=c/\c<256:=by
 simp only[nP,List.getElem?_map,Option.map_eq_some_iff]at h;obtain⟨b,hb,rfl⟩:=h;refine⟨?_,b.toNat_lt⟩
 have hi:i<s.data.size:=by
  have:=(List.getElem?_eq_some_iff.1 hb).1;simpa using this
 have:s.data[i]? =some b:=by simpa using hb
 cases s with
 |mk bs=>
  show(bs[i]!).toNat=b.toNat;rw[getElem!_def,this]
theorem Hn{s:ByteArray}(h:(s.get! i).toNat<128):Utf8.decode s i=((s.get! i).toNat,1):=by
 simp only[Utf8.decode,Nat.add_zero];rw[if_pos h]
theorem U9{s:ByteArray}(h:¬(s.get! i).toNat<128):128<=(Utf8.decode s i).1:=by
 simp only[Utf8.decode,Nat.add_zero];rw[if_neg h]
 repeat' split
 all_goals simp_all [Utf8.runeError]
 all_goals omega
def NK(s:ByteArray):CV:=.val (.string s)
def TJ:Vc.Spec:=λcvs m h K=>∃s,cvs=[NK s]/\K (cB (mI s)) m h
noncomputable def Wm(s:ByteArray)(m:MH)(h:PH):Ctx:=
 ctx [] [(4,{A:=Nat×Nat×MH,st:=λx=>cE 44 45 [(15,vv (.pointer (some ⟨x.2.1,0,none⟩)))] [] x.2.2 h,inv:=λx=>x.1<=s.size/\cF m h x.2.1/\jS m x.2.2 x.2.1 (.stringIter s x.1)/\(x.1=0\/lower ((nP s).headD 0)=true)/\((nP s).take x.1).all vF=true,mu:=λx=>s.size-x.1})] [] [] false
noncomputable def Wq(s:ByteArray)(m:MH)(h:PH):Ctx:=
 ctx [] [Cr 4 (λi=>cE 50 51 [(0,vv (.string s)),(3,iv i)] [] m h) (λi=>i<=s.size/\((nP s).take i).all vF=true) (λi=>s.size-i)] [] [] false
abbrev I6(a b:(Nat×Nat×MH)->Prop):Prop:=(∃(x:Nat×Nat×MH),a x)/\∀(x:Nat×Nat×MH),b x
noncomputable abbrev iV(a:Nat×Nat×MH):Nat:=a.2.1
noncomputable abbrev fQ(a:Nat×Nat×MH):Nat->Option Obj:=a.2.2
abbrev sX(a:Nat)(b:ByteArray):Prop:=dX (List.all (List.take a (nP b)) vF)
abbrev yQ(a:Nat×Nat×MH)(b:ByteArray)(c:MH)(d:PH):Prop:=aA (a.1<=b.size) (cF c d (iV a)) (aA (jS c (fQ a) (iV a) (Obj.stringIter b a.1)) (a.1=0\/dX (lower (List.headD (nP b) 0))) (sX a.1 b))
abbrev cJ(a b:Nat):Prop:=Vx a 0=Vx b 0
noncomputable abbrev A4(a:ByteArray)(b:Nat):Nat:=(Utf8.decode a b).1
abbrev xA(a:ByteArray)(b c:Nat):Prop:=a.size-b<a.size-c
abbrev C7(a:(Nat×Nat×MH)->Prop)(b:ByteArray)(c:Nat×Nat×MH)(d:MH)(e:PH):Prop:=∃(x:Nat×Nat×MH),aA (a x) (xA b x.1 c.1) (aA (cJ (iV c) (iV x)) (d=fQ x) (cQ e e))
attribute [push_cast] I6 iV fQ sX yQ cJ A4 xA C7
def Hg(s:ByteArray)(m:MH)(h:PH)(K:CV->MH->PH->Prop):Prop:=
  bC (↑s.size:Int) 1 (K bB m h) (eB (↑s.size:Int) 32 (K bB m h) (∀(b:Nat)(m1:MH),bO (cF m h b) (jS m m1 b (Obj.stringIter s 0)) (I6 (λx=>aA (yQ x s m h) (cJ b (iV x)) (aA (m1=fQ x) (h=h) True)) (λx=>yQ x s m h->∃(s1:ByteArray)(p:Nat),aA (vA (fQ x) (iV x) (Obj.stringIter s1 p)) (s1.size<=p->K fH (fQ x) h) (p<s1.size->∀(m2:MH),jS (fQ x) m2 (iV x) (Obj.stringIter s1 (p+(Utf8.decode s1 p).2))->cR (decide ((↑(A4 s1 p):Int)>=97)) (gA (decide ((↑(A4 s1 p):Int)<=122)) (cR ((↑p:Int)==0) (K bB m2 h) ((↑(A4 s1 p):Int) !=95) (bC (↑(A4 s1 p):Int) 48 (K bB m2 h) (eB (↑(A4 s1 p):Int) 57 (K bB m2 h) (C7 (λy=>yQ y s m h) s x m2 h))) (C7 (λy=>yQ y s m h) s x m2 h)) (C7 (λy=>
 yQ y s m h) s x m2 h)) ((↑p:Int)==0) (K bB m2 h) (dT (↑(A4 s1 p):Int) 95 (bC (↑(A4 s1 p):Int) 48 (K bB m2 h) (eB (↑(A4 s1 p):Int) 57 (K bB m2 h) (C7 (λy=>yQ y s m h) s x m2 h))) (C7 (λy=>yQ y s m h) s x m2 h)))))))
abbrev Ix(a:Prop)(b:ByteArray)(c:Nat)(d:UInt8->UInt8)(e:UInt8->Prop):Prop:=a/\∃(x:UInt8),b.data.toList[c]? =Option.some (d x)/\e x
noncomputable abbrev sW(a:UInt8):Int:=(↑a.toNat:Int)
noncomputable abbrev oP(a:Nat):Nat:=(↑a:Int).toNat
attribute [push_cast] Ix sW oP
def Mm(s:ByteArray)(m:MH)(h:PH)(K:CV->MH->PH->Prop):Prop:=
  cR ((↑s.size:Int)==0) (K bB m h) (decide ((↑s.size:Int)>32)) (K bB m h) (Ix (cD 0) s 0 (λb=>b) (λb=>bC (↑b.toNat:Int) 97 (K bB m h) (Ix (cD 0) s 0 (λb1=>b1) (λb1=>eB (sW b1) 122 (K bB m h) (gG (∃(x:Nat),aA (x<=s.size/\sX x s) (eQ (SV.at (NQ s))) (aA (bD x) (m=m) (cQ h h))) (λx=>x<=s.size/\sX x s->bC (↑x:Int) (↑s.size:Int) (Ix (cD (↑x:Int)) s (oP x) (λb2=>b2) (λb2=>bC (↑b2.toNat:Int) 97 (bC (↑b2.toNat:Int) 48 (iF (sW b2 !=95) (K bB m h) (λy=>aA (y<=s.size/\sX y s) (xA s y x) (aA (eQ (SV.at (NQ s))) (fM (bE x 1)=bX y) (dR m m h h)))) (eB (sW b2) 57 (iF (sW b2 !=95) (K bB m h) (λy=>aA (y<=s.size/\sX y s) (xA s y x) (aA (eQ (SV.at (NQ
 s))) (fM (bE x 1)=bX y) (dR m m h h)))) (∃(y:Nat),aA (y<=s.size/\sX y s) (xA s y x) (aA (eQ (SV.at (NQ s))) (fM (bE x 1)=bX y) (dR m m h h))))) (eB (sW b2) 122 (bC (↑b2.toNat:Int) 48 (iF (sW b2 !=95) (K bB m h) (λy=>aA (y<=s.size/\sX y s) (xA s y x) (aA (eQ (SV.at (NQ s))) (fM (bE x 1)=bX y) (dR m m h h)))) (eB (sW b2) 57 (iF (sW b2 !=95) (K bB m h) (λy=>aA (y<=s.size/\sX y s) (xA s y x) (aA (eQ (SV.at (NQ s))) (fM (bE x 1)=bX y) (dR m m h h)))) (∃(y:Nat),aA (y<=s.size/\sX y s) (xA s y x) (aA (eQ (SV.at (NQ s))) (fM (bE x 1)=bX y) (dR m m h h))))) (∃(y:Nat),aA (y<=s.size/\sX y s) (xA s y x) (aA (eQ (SV.at (NQ s))) (fM (bE x 1)=bX y) (dR m m h h)))))) (K
 fH m h)))))))
def kO(h:PH)(K:CV->MH->PH->Prop):CV->MH->PH->Prop:=λr m' h'=>∃m2 h2,(∀b o,m2 b=some o->m' b=some o)/\PH.le h h2/\PH.le h2 h'/\K r m2 h2
theorem kO.here{r:CV}(hK:K r m h):kO h K r m h:=⟨m,h,λ_ _ e=>e,.refl _,.refl _,hK⟩
theorem kO.sub{r:CV}(hm:∀b o,m b=some o->m' b=some o)(hK:K r m h):kO h K r m' h:=⟨m,h,hm,.refl _,.refl _,hK⟩
theorem jS.keeps{o:Obj}(hb:cF m h b)(hu:jS m m' b o):∀b o,m b=some o->m' b=some o:=λb' o' e=>by
 have hne:b'≠b:=λe'=>by rw[e',hb.m_]at e;cases e
 rw[hu.other b' hne,e]
theorem RS:Sound Tryz.prog 135 TJ:=by
 refine FW Tryz.func135 ?_;rintro cvs m h K ⟨s,rfl,hK⟩;refine⟨Wm s m h,rfl,aF,Hg s m h (kO h K),by kernel_rfl,?_⟩;show Hg s m h (kO h K);dsimp only[Hg,push_cast];have hl:=Mw s;refine aE (λh1=>?_) (λh1=>aE (λh2=>?_) (λh2 b m1 hb hm1=>?_))
 .refine .here (gO hK ?_);have:¬1<=s.size:=by omega
  simp[mI,this]
 .refine .here (gO hK ?_);have:¬s.size<=32:=by omega
  simp[mI,this]
 refine⟨⟨(0,b,m1),⟨by simp,hb,hm1,.inl rfl,by simp⟩,MT⟩,?_⟩;rintro⟨pos,b,mx⟩ ⟨hp,hb,hmx,hhead,hall⟩;simp only at hp hb hmx hhead hall;refine⟨s,pos,⟨hmx.at_⟩,λhge=>?_,λhlt m2 hm2=>?_⟩
 .refine .sub (jS.keeps hb hmx) (gO hK ?_);rw[List.take_of_length_le aC]at hall
  have h3:lower ((nP s).headD 0)=true:=by
   rcases hhead with e|e
   .omega
   .exact e
  have h1':1<=s.size:=by omega
  have h2':s.size<=32:=by omega
  simp only[mI,hall,h3,decide_eq_true h1',decide_eq_true h2'];rfl
 .have hm3:=hmx.trans hm2;obtain⟨c,hc⟩:∃c,(nP s)[pos]? =some c:=⟨(nP s)[pos]'(by omega),List.getElem?_eq_getElem _⟩
  obtain⟨hg,hc256⟩:=Va hc
  have hhd:pos=0->(nP s).headD 0=c:=λe=>by
   subst e;cases hcs:nP s with
   |nil=>rw[hcs]at hc;simp at hc
   |cons x l=>rw[hcs]at hc;simp at hc;simpa using hc
  have stop:¬((97<=(Utf8.decode s pos).1/\(Utf8.decode s pos).1<=122)\/(pos≠0/\((Utf8.decode s pos).1=95\/(48<=(Utf8.decode s pos).1/\(Utf8.decode s pos).1<=57))))->kO h K (.val (.bool false)) m2 h:=by
   intro hn;refine .sub (jS.keeps hb hm3) (gO hK ?_);by_cases hlo:(s.get! pos).toNat<128
   .rw[Hn hlo,hg]at hn;by_cases hp0:pos=0
    .have:lower c=false:=by
      simp only[lower,Bool.and_eq_false_iff,decide_eq_false_iff_not];simp only at hn;omega
     simp only[mI,hhd hp0,this,Bool.and_false,Bool.false_and]
    .have:vF c=false:=by
      simp only[vF,lower,Bool.or_eq_false_iff,Bool.and_eq_false_iff,decide_eq_false_iff_not,beq_eq_false_iff_ne];simp only at hn;omega
     simp[mI,zU hc this]
   .have:vF c=false:=by
     simp only[vF,lower,Bool.or_eq_false_iff,Bool.and_eq_false_iff,decide_eq_false_iff_not,beq_eq_false_iff_ne];omega
    simp[mI,zU hc this]
  have go:((97<=(Utf8.decode s pos).1/\(Utf8.decode s pos).1<=122)\/(pos≠0/\((Utf8.decode s pos).1=95\/(48<=(Utf8.decode s pos).1/\(Utf8.decode s pos).1<=57))))->pos+1<=s.size/\jS m m2 b (.stringIter s (pos+1))/\lower ((nP s).headD 0)=true/\((nP s).take (pos+1)).all vF=true:=by
   intro hy
   have hlo:(s.get! pos).toNat<128:=by
    refine Decidable.byContradiction λhlo=>?_;have:=U9 hlo;omega
   rw[Hn hlo]at hm3;rw[Hn hlo,hg]at hy;simp only at hy;refine⟨aC,hm3,?_,?_⟩
   .rcases hhead with e|e
    .rw[hhd e];simp only[lower,Bool.and_eq_true,decide_eq_true_eq];omega
    .exact e
   .rw[yH hc,hall];simp only[vF,lower,Bool.true_and,Bool.or_eq_true,Bool.and_eq_true,decide_eq_true_eq,beq_iff_eq];omega
  have next:((97<=(Utf8.decode s pos).1/\(Utf8.decode s pos).1<=122)\/(pos≠0/\((Utf8.decode s pos).1=95\/(48<=(Utf8.decode s pos).1/\(Utf8.decode s pos).1<=57))))->_:=λhy=>(⟨(pos+1,b,m2),⟨(go hy).1,hb,(go hy).2.1,.inr (go hy).2.2.1,(go hy).2.2.2⟩,by show s.size-(pos+1)<s.size-pos;omega,MT⟩:∃(y:Nat×Nat×MH),(y.fst<=s.size/\cF m h y.snd.fst/\jS m y.snd.2 y.snd.fst (Obj.stringIter s y.fst)/\(y.fst=0\/lower ((nP s).headD 0)=true)/\(List.take y.fst (nP s)).all vF=true)/\s.size-y.fst<s.size-pos/\SV.at (At.val (Value.pointer (some (Addr.mk b 0 none))))=SV.at (At.val (Value.pointer (some (Addr.mk y.snd.fst 0 none))))/\m2=y.snd.2/\h=h/\True)
  clear go hm3 hm2 hall hhead hhd hmx hm1 hK
  repeat' (first|(refine aB (λ_=>?_) (λ_=>?_))|exact stop (by simp only[decide_eq_true_eq,decide_eq_false_iff_not,bne_iff_ne,ne_eq,beq_iff_eq,beq_eq_false_iff_ne,bne_eq_false_iff_eq,Bool.not_eq_true',Bool.not_eq_false']at*;omega)|exact next (by simp only[decide_eq_true_eq,decide_eq_false_iff_not,bne_iff_ne,ne_eq,beq_iff_eq,beq_eq_false_iff_ne,bne_eq_false_iff_eq,Bool.not_eq_true',Bool.not_eq_false']at*;omega))
theorem R1:Sound Tryz.prog 122 TJ:=by
 refine iB Tryz.func122 ?_;rintro cvs m h K ⟨s,rfl,hK⟩;refine⟨Wq s m h,rfl,aF,Mm s m h K,by kernel_rfl,?_⟩;dsimp only[Mm,push_cast];have hl:=Mw s;refine aB (λh1=>gO hK ?_) (λh1=>aE (λh2=>gO hK ?_) (λh2=>?_))
 .have:¬1<=s.size:=by have:(s.size:Int)=0:=(by simpa using h1);omega
  simp[mI,this]
 .have:¬s.size<=32:=by omega
  simp[mI,this]
 have h1:s.size≠0:=by intro e;rw[e]at h1;simp at h1
 obtain⟨c0,hc0⟩:∃c,s.data.toList[0]? =some c:=⟨s.data.toList[0]'(by simpa using(by omega:0<s.size)),List.getElem?_eq_getElem _⟩
 have hhd:(nP s).headD 0=c0.toNat:=by
  unfold nP;cases hcs:s.data.toList with
  |nil=>rw[hcs]at hc0;simp at hc0
  |cons x l=>rw[hcs]at hc0;simp at hc0;simp[hc0]
 refine⟨aC,c0,hc0,aE (λh3=>gO hK ?_) (λh3=>⟨aC,c0,hc0,aE (λh4=>gO hK ?_) (λh4=>?_)⟩)⟩
 .have:lower c0.toNat=false:=by simp only[lower,Bool.and_eq_false_iff,decide_eq_false_iff_not];omega
  simp only[mI,hhd,this,Bool.and_false,Bool.false_and]
 .have:lower c0.toNat=false:=by simp only[lower,Bool.and_eq_false_iff,decide_eq_false_iff_not];omega
  simp only[mI,hhd,this,Bool.and_false,Bool.false_and]
 refine⟨⟨0,⟨aC,by simp⟩,MT⟩,λi hi=>aE (λhlt=>?_) (λhge=>gO hK ?_)⟩
 .obtain⟨c,hc⟩:∃c,s.data.toList[i]? =some c:=⟨s.data.toList[i]'(by simpa using(by omega:i<s.size)),List.getElem?_eq_getElem _⟩
  have hcc:(nP s)[i]? =some c.toNat:=by simp[nP,hc]
  have stop:vF c.toNat=false->K (.val (.bool false)) m h:=λe=>gO hK (by simp[mI,zU hcc e]);have next:vF c.toNat=true->∃(y:Nat),(y<=s.size/\(List.take y (nP s)).all vF=true)/\s.size-y<s.size-i/\SV.at (At.val (Value.string s))=SV.at (At.val (Value.string s))/\SV.at (At.val (Value.int IntKind.i64 (IntKind.i64.wrap ((i:Int)+1))))=SV.at (At.val (Value.int IntKind.i64 (y:Int)))/\m=m/\h=h/\True:=λe=>⟨i+1,⟨aC,by rw[yH hcc,hi.2,e];rfl⟩,aC,MT⟩
  have hn:vF c.toNat=true↔(97<=c.toNat/\c.toNat<=122)\/(48<=c.toNat/\c.toNat<=57)\/c.toNat=95:=by
   simp only[vF,lower,Bool.or_eq_true,Bool.and_eq_true,decide_eq_true_eq,beq_iff_eq];omega
  have hn':vF c.toNat=false↔¬((97<=c.toNat/\c.toNat<=122)\/(48<=c.toNat/\c.toNat<=57)\/c.toNat=95):=by
   rw[<-hn];simp
  refine⟨aC,c,by simpa using hc,?_⟩;clear hK hi hhd hcc hn';rw[hn]at next
  have stop:=λe=>stop (by rw[<-Bool.not_eq_true,hn];exact e);clear hn
  repeat' (first|(refine aB (λ_=>?_) (λ_=>?_))|exact stop (by simp only[decide_eq_true_eq,decide_eq_false_iff_not,bne_iff_ne,ne_eq,beq_iff_eq,beq_eq_false_iff_ne,bne_eq_false_iff_eq,Bool.not_eq_true',Bool.not_eq_false']at*;omega)|exact next (by simp only[decide_eq_true_eq,decide_eq_false_iff_not,bne_iff_ne,ne_eq,beq_iff_eq,beq_eq_false_iff_ne,bne_eq_false_iff_eq,Bool.not_eq_true',Bool.not_eq_false']at*;omega))
 .have:=hi.2;rw[List.take_of_length_le aC]at this;have h5:lower c0.toNat=true:=by simp only[lower,Bool.and_eq_true,decide_eq_true_eq];omega
  have h1':1<=s.size:=by omega
  have h2':s.size<=32:=by omega
  simp only[mI,this,hhd,h5,decide_eq_true h1',decide_eq_true h2'];rfl
theorem MW:Tryz.prog.underlying 9=some .string:=by kernel_rfl
theorem AN:KeyLaw Tryz.prog 9 (λv=>∃s,v= .string s):=by
 refine⟨⟨_,MW⟩,?_,?_,?_⟩
 .rintro _ w b ⟨s,rfl⟩
  have e:∀n:Nat,(Instr.checkKey b (n+1) 9 (.string s)).run Tryz.prog w= .ok () w:=λn=>by
   unfold Instr.checkKey;simp only[Sem.run_bind,run_underlying MW,Result.andThen];simp
  exact e 9999
 .rintro _ _ w ⟨s,rfl⟩ ⟨t,rfl⟩;refine⟨_,run_equalIn_string w 9999 9 s t MW,?_⟩;rw[beq_iff_eq];exact⟨λe=>by rw[xN e],λe=>by injection e with e;rw[e]⟩
 .rintro d _ _ r hd ⟨s,rfl⟩ ⟨t,rfl⟩ h;rw[MW]at hd;cases hd;simp only[Instr.sameNow,Option.some.injEq]at h;subst h;rw[beq_toListBytes,beq_iff_eq];exact⟨λe=>by rw[xN e],λe=>by injection e with e;rw[e]⟩
def eE{α:Type}(T:List α->α->Prop)(l:List α)(i:Nat):Prop:=∀j x,j<i->l[j]? =some x->T (l.take j) x
def Good{α:Type}(T:List α->α->Prop)(l:List α):Prop:=∀(j:Nat) x,l[j]? =some x->T (l.take j) x
theorem eE.zero{α:Type}{T:List α->α->Prop}{l:List α}:eE T l 0:=λ_ _ h=>by omega
theorem eE.succ{α:Type}{T:List α->α->Prop}{l:List α}{x:α}(h:eE T l i)(hx:l[i]? =some x)(t:T (l.take i) x):eE T l (i+1):=by
 intro j y hj hy;by_cases e:j=i
 .subst e;rw[hx]at hy;cases hy;exact t
 .exact h j y aC hy
theorem eE.all{α:Type}{T:List α->α->Prop}{l:List α}(h:eE T l i)(hi:l.length<=i):Good T l:=λj x hx=>h j x (by have:=(List.getElem?_eq_some_iff.1 hx).1;omega) hx
theorem Good.not{α:Type}{T:List α->α->Prop}{l:List α}{x:α}(hx:l[i]? =some x)(t:¬T (l.take i) x):¬Good T l:=λh=>t (h i x hx)
def Qv(pre:List mT)(c:mT):Prop:=mI c.name=true/\cV c.kind=true/\c.name∉pre.map mT.name
def AE(pre:List vL)(t:vL):Prop:=mI t.name=true/\1<=t.key/\t.key<=t.columns.length/\t.name∉pre.map vL.name/\Good Qv t.columns
def gT(s:oS)(t:Int):List Int:=if t<0 then[]else match s.tables[t.toNat]? with|none=>[]|some t=>t.columns.map mT.kind
def tY(s:oS)(t:Int):Bool:=decide (0<=t)&&decide (t<s.tables.length)
def aS(v:aW):CV:=.val (.agg ⟨v.enc⟩)
def oU(s:oS):Prop:=∀t∈s.tables,t.columns.length<=8
def Zt:Vc.Spec:=λcvs m h K=>∃v s t,cvs=[aS v,cI t]/\gI h s v/\K (cB (tY s t)) m h
def vN:Vc.Spec:=λcvs m h K=>∃v s t,cvs=[aS v,cI t]/\gI h s v/\oU s/\∀sl h',PH.le h h'->Ints h' sl (gT s t)->K (cS sl) m h'
noncomputable def NC(m:MH)(h:PH):Ctx:=
 dM [] [(5,{A:=Nat×Sl×List Int,st:=λx=>cE 35 37 [(5,.at (.lst 32)),(22,sv x.2.1),(23,iv x.2.1.len),(24,iv x.1)] [(32,.lst 3 1 (x.2.2.map eI))] m h})] [] [] false
noncomputable def XN(m:MH)(h:PH):Ctx:=
 dM [(104,Zt)] [(5,{A:=Nat×Sl×List Int,st:=λx=>cE 38 40 [(5,.at (.lst 19)),(25,sv x.2.1),(26,iv x.2.1.len),(27,iv x.1)] [(19,.lst 3 1 (x.2.2.map eI))] m h})] [] [] false
noncomputable abbrev gP(a:aW):Int:=aG a.tables
attribute [push_cast] gP
def Mr(v:aW)(t:Int)(m:MH)(h:PH)(K:CV->MH->PH->Prop):Prop:=
  fR t 0 (K (AB (decide (t<gP v))) m h) (K bB m h)
noncomputable abbrev qG(a:aW):Option Addr:=a.tables.a
noncomputable abbrev aR(a:Sl):List Value:=iP (dO a)
abbrev IF(a:aW)(b c:Int)(d:MH)(e:PH)(g i:Nat->Nat)(j:Nat)(k:Sl->Sl)(l:Sl->(Nat×Sl×List Int->Prop)->(Nat×Sl×List Int)->Prop)(n:(Nat×Sl×List Int->Prop)->(Nat×Sl×List Int->Nat)->(Nat×Sl×List Int)->Prop):Prop:=aU (λx x1=>aA (aX (qG a) x x1) (b<=c) (c<aG a.tables/\∃(x2:Sl),aM d e (g x) (fN (i x1) c j+1) (aR (k x2))/\∃(x3:Nat×Sl×List Int->Prop)(x4:Nat×Sl×List Int->Nat),(∃(x5:Nat×Sl×List Int),l x2 x3 x5)/\∀(x5:Nat×Sl×List Int),n x3 x4 x5))
abbrev bK(a b:Sl):Prop:=Xl a=Xl b
noncomputable abbrev kV(a:Nat×Sl×List Int):Sl:=a.2.1
abbrev bL(a b:Sl):Prop:=bX a.len=bX b.len
abbrev sI(a:List Int):Prop:=Option.some (Own.lst 3 1 [])=Option.some (Own.lst 3 1 (List.map eI a))
noncomputable abbrev rA(a:Nat×Sl×List Int):List Int:=a.2.2
abbrev fY(a:Nat):Prop:=a<=140737488355328
noncomputable abbrev jP(a:List Int):List (List Value):=List.map eI a
abbrev De(a:List Int):Prop:=fY (((jP a).length+1)*8)
abbrev gS(a:List (List Value)):Prop:=a.length<140737488355328
abbrev IE(a:Prop)(b:Nat×Sl×List Int)(c:Int)(d:Nat->Nat->mT->Prop)(e:mT->(Nat×Sl×List Int)->Prop)(g:Prop):Prop:=a->bC (↑b.1:Int) (aG (kV b)) (aU (λx x1=>aA (aX (kV b).a x x1) (c<=(↑b.1:Int)) ((↑b.1:Int)<aG (kV b)/\∃(x2:mT),aA (d x x1 x2) (De (rA b)) (gS (jP (rA b))/\∃(x3:Nat×Sl×List Int),e x2 x3)))) g
noncomputable abbrev Ab(a:mT):Value:=Value.string a.name
noncomputable abbrev fO(a:List Value):List (List Value):=[a]
noncomputable abbrev dU(a:List (List Value))(b:List Value):List (List Value):=a++fO b
abbrev sJ(a:List Int)(b:Int)(c:List Int):Prop:=Option.some (Own.lst 3 1 (dU (jP a) (bT b)))=Option.some (Own.lst 3 1 (List.map eI c))
abbrev cC(a:Sl->PH->Prop):Prop:=∀(x:Sl)(x1:PH),a x x1
abbrev bJ(a b:PH)(c d:Prop):Prop:=bO (PH.le a b) c d
abbrev Fj(a:PH)(b:List Int)(c:CV->MH->PH->Prop)(d:MH):Prop:=cC (λx x1=>bJ a x1 (a8 x1 x 1 (jP b)) (c (cW x) d x1))
attribute [push_cast] qG aR IF bK kV bL sI rA fY jP De gS IE Ab fO dU sJ cC bJ Fj
def PE(v:aW)(t:Int)(m:MH)(h:PH)(K:CV->MH->PH->Prop):Prop:=
  bC t 0 (K mW m h) (fR t (gP v) (K mW m h) (IF v 0 t m h (λb=>b) (λo=>o) 5 (λy=>y) (λy I x=>aA (I x) (eL 32) (aA (bK y (kV x)) (bL y (kV x)) (aA (bD x.1) (sI (rA x)) (aA (m=m) (h=h) True)))) (λI m1 x=>IE (I x) x 0 (λb o y=>aM m h b (bM o x.1 2) (gM (Ab y) (dK y.kind))) (λy x1=>aA (I x1) (m1 x1<m1 x) (aA (eL 32) (bK (kV x) (kV x1)) (aA (bL (kV x) (kV x1)) (fM (bE x.1 1)=bX x1.1) (aA (sJ (rA x) y.kind (rA x1)) (m=m) (cQ h h))))) (Fj h (rA x) K m))))
abbrev kG(a:aW->oS->Prop):Prop:=∃(x:aW)(x1:oS),a x x1
noncomputable abbrev qL(a:aW):Value:=dK a.version
noncomputable abbrev qK(a:aW):Value:=dO a.tables
noncomputable abbrev bI(a:aW):CV:=kN (gM (qL a) (qK a))
abbrev rI(a:Int):Prop:=a<=281474976710656
attribute [push_cast] kG qL qK bI rI
def Pt(v:aW)(t:Int)(m:MH)(h:PH)(K:CV->MH->PH->Prop):Prop:=
  kG (λv1 s=>∃(t1:Int),aA (aY (bI v) t=aY (bI v1) t1) (gI h s v1) (gA (tY s t1) (K mW m h) (aU (λb o=>aA (aX (qG v) b o) (0<=t) (t<aG v.tables/\∃(y:Sl),aA (aM m h b (fN o t 5+1) (aR y)) (cD 0) (aA (cD (aG y)) (rI (aG y*8)) (rI (aG y)/\IF v 0 t m h (λb1=>b1) (λo1=>o1) 5 (λy1=>y1) (λy1 I x=>aA (I x) (eL 19) (aA (bK y1 (kV x)) (bL y1 (kV x)) (aA (bD x.1) (sI (rA x)) (aA (m=m) (h=h) True)))) (λI m1 x=>IE (I x) x 0 (λb1 o1 y1=>aM m h b1 (bM o1 x.1 2) (gM (Ab y1) (dK y1.kind))) (λy1 x1=>aA (I x1) (m1 x1<m1 x) (aA (eL 19) (bK (kV x) (kV x1)) (aA (bL (kV x) (kV x1)) (fM (bE x.1 1)=bX x1.1) (aA (sJ (rA x) y1.kind (rA x1)) (m=m) (cQ
 h h))))) (Fj h (rA x) K m)))))))))
theorem aZ.part{o:Nat}{l:List Value}(r:aZ h b o l)(k n:Nat):aZ h b (o+k) ((l.drop k).take n):=
 ⟨λi v e=>by
  have:l[k+i]? =some v:=by
   rw[List.getElem?_take]at e;split at e
   .rwa [List.getElem?_drop]at e
   .cases e
  have:=r.rd (k+i) v this
  rwa [<-Nat.add_assoc]at this⟩
theorem B5.at{s:Sl}{l:List mT}(r:B5 h s l){x:mT}(hi:l[i]? =some x):∃b o,s.a=some ⟨b,o,none⟩/\aZ h b (o+i*2) (mT.enc x):=by
 obtain⟨b,o,v,e,k,rfl⟩:=bZ.at r hi;exact⟨b,o,e,k⟩
theorem Ct{t:Int}(h:¬(0<=t/\t<s.tables.length)):gT s t=[]:=by
 unfold gT;split
 .rfl
 .rw[List.getElem?_eq_none aC]
theorem HS{t:Int}{x:vL}(h:0<=t)(hx:s.tables[t.toNat]? =some x):gT s t=x.columns.map mT.kind:=by
 unfold gT;rw[if_neg aC,hx]
theorem gI.table{v:aW}(hs:gI h s v){t:Int}(h0:0<=t)(h1:t<(v.tables.len:Int)):∃x b o w,s.tables[t.toNat]? =some x/\v.tables.a=some ⟨b,o,none⟩/\aZ h b (o+t.toNat*5) (bU.enc w)/\Hv h x w:=by
 have hl:=hs.tables.slen;have hx:s.tables[t.toNat]? =some (s.tables[t.toNat]'(by omega)):=List.getElem?_eq_getElem _;obtain⟨b,o,w,e,r,k⟩:=hs.tables.at hx;exact⟨_,b,o,w,hx,e,r,k⟩
theorem fL{α β:Type}{f:α->β}{l:List α}{x:α}(hx:l[i]? =some x):(l.take (i+1)).map f=(l.take i).map f++[f x]:=by
 rw[List.take_add_one,hx];simp
theorem Kq:Sound Tryz.prog 104 Zt:=by
 refine iB Tryz.func104 ?_;rintro cvs m h K ⟨v,s,t,rfl,hs,hK⟩;refine⟨dM [] [] [] [] false,rfl,aF,Mr v t m h K,by kernel_rfl,?_⟩;dsimp only[Mr,push_cast];have hl:=hs.tables.slen;refine aE (λh1=>gO hK ?_) (λh1=>gO hK ?_)
 .have h1:0<=t:=h1;simp only[tY,hl,decide_eq_true h1,Bool.true_and]
 .have h1:¬0<=t:=by omega
  simp only[tY,decide_eq_false h1,Bool.false_and]
theorem DB:Sound Tryz.prog 44 vN:=by
 refine iB Tryz.func44 ?_;rintro cvs m h K ⟨v,s,t,rfl,hs,h8,hK⟩;refine⟨NC m h,rfl,aF,PE v t m h K,by kernel_rfl,?_⟩;dsimp only[PE,push_cast];have hl:=hs.tables.slen;have hnil:gT s t=[]->K (.val (.slice none 0 0)) m h:=λe=>hK ⟨none,0,0⟩ h (.refl _) (by rw[e];exact⟨.nil _ _,by simp⟩);refine aE (λh1=>hnil (Ct aC)) (λh1=>aE (λh2=>hnil (Ct aC)) (λh2=>?_));obtain⟨x,b,o,w,hx,ea,hr,hrep⟩:=hs.table (t:=t) aC aC;have hx8:=h8 x (List.mem_of_getElem? hx);have hcl:=bZ.slen hrep.columns;rw[HS aC hx]at hK;refine⟨b,o,ea,aC,aC,w.columns,.imm (aZ.part hr 1 1),λ⟨i,sl,l⟩=>sl=w.columns/\i<=x.columns.length/\l=(x.columns.take i).map mT.kind,λ⟨i,_,_⟩=>x.columns.length-i,⟨(0,w.columns,[]),⟨rfl,by simp,by simp⟩,MT⟩,?_⟩;rintro⟨i,_,_⟩ ⟨rfl,hi,rfl⟩;dsimp only;refine aE (λhlt=>?_) (λhge sl h' hle hrow=>?_)
 .obtain⟨c,hc⟩:=fG hcl hlt;obtain⟨b,o,e,r⟩:=B5.at hrep.columns hc;refine⟨b,o,e,aC,hlt,c,.imm r,?_,?_,(i+1,w.columns,(x.columns.take (i+1)).map mT.kind),⟨rfl,aC,rfl⟩,by show x.columns.length-(i+1)<x.columns.length-i;omega,?_⟩
  .simp;omega
  .simp;omega
  .rw[fL hc,List.map_append];exact MT
 .rw[List.take_of_length_le aC]at hrow;exact hK sl h' hle ⟨hrow,by simp;omega⟩
theorem LF:Sound Tryz.prog 72 vN:=by
 refine iB Tryz.func72 ?_;rintro cvs m h K ⟨v,s,t,rfl,hs,h8,hK⟩;refine⟨XN m h,rfl,aD Kq aF,Pt v t m h K,by kernel_rfl,?_⟩;dsimp only[Pt,push_cast];have hl:=hs.tables.slen;have hnil:gT s t=[]->K (.val (.slice none 0 0)) m h:=λe=>hK ⟨none,0,0⟩ h (.refl _) (by rw[e];exact⟨.nil _ _,by simp⟩);refine⟨v,s,t,rfl,hs,aB (λh1=>hnil (Ct ?_)) (λh1=>?_)⟩
 .simp only[tY,Bool.not_eq_true',Bool.and_eq_false_iff,decide_eq_false_iff_not]at h1;omega
 simp only[tY,Bool.not_eq_false',Bool.and_eq_true,decide_eq_true_eq]at h1;obtain⟨x,b,o,w,hx,ea,hr,hrep⟩:=hs.table (t:=t) aC aC;have hx8:=h8 x (List.mem_of_getElem? hx);have hcl:=bZ.slen hrep.columns;rw[HS aC hx]at hK;refine⟨b,o,ea,aC,aC,w.columns,.imm (aZ.part hr 1 1),aC,aC,aC,aC,b,o,ea,aC,aC,w.columns,.imm (aZ.part hr 1 1),λ⟨i,sl,l⟩=>sl=w.columns/\i<=x.columns.length/\l=(x.columns.take i).map mT.kind,λ⟨i,_,_⟩=>x.columns.length-i,⟨(0,w.columns,[]),⟨rfl,by simp,by simp⟩,MT⟩,?_⟩;rintro⟨i,_,_⟩ ⟨rfl,hi,rfl⟩;dsimp only;refine aE (λhlt=>?_) (λhge sl h' hle hrow=>?_)
 .obtain⟨c,hc⟩:=fG hcl hlt;obtain⟨b,o,e,r⟩:=B5.at hrep.columns hc;refine⟨b,o,e,aC,hlt,c,.imm r,?_,?_,(i+1,w.columns,(x.columns.take (i+1)).map mT.kind),⟨rfl,aC,rfl⟩,by show x.columns.length-(i+1)<x.columns.length-i;omega,?_⟩
  .simp;omega
  .simp;omega
  .rw[fL hc,List.map_append];exact MT
 .rw[List.take_of_length_le aC]at hrow;exact hK sl h' hle ⟨hrow,by simp;omega⟩
def Sub(m m':MH):Prop:=∀b o,m b=some o->m' b=some o
theorem Sub.refl(m:MH):Sub m m:=λ_ _ e=>e
theorem Sub.free(h:Sub m m')(hb:m' b=none):m b=none:=by
 cases e:m b with
 |none=>rfl
 |some o=>rw[h b o e]at hb;cases hb
theorem Sub.upd{mx:MH}(h:Sub m mx)(hb:m b=none)(ho:∀b',b'≠b->m' b'=mx b'):Sub m m':=λb' o e=>by
 have hne:b'≠b:=λe'=>by rw[e',hb]at e;cases e
 rw[ho b' hne,h b' o e]
def Hw(m:MH)(b:Nat)(ns:List ByteArray):Prop:=zZ m b (ns.map λn=>(.string n,.bool true))
theorem Hw.other{b':Nat}{ns:List ByteArray}(h:Hw m b ns)(hne:b≠b')(ho:∀c,c≠b'->m' c=m c):Hw m' b ns:=by
 obtain⟨es,cl,h1,h2⟩:=h.ex;exact⟨es,cl,by rw[ho b hne,h1],h2⟩
def W4:Vc.Spec:=λcvs m h K=>∃v s,cvs=[aS v]/\gI h s v/\∀r:Bool,(r=true↔Good AE s.tables)->K (cB r) m h
def WN:Vc.Spec:=λcvs m h K=>∃v s t,∃i:Nat,cvs=[aS v,cI i]/\gI h s v/\s.tables[i]? =some t/\∀r:Bool,(r=true↔AE (s.tables.take i) t)->K (cB r) m h
noncomputable def Wt(v:aW)(h:PH):Ctx:=
 dM [(135,TJ)] [(3,{A:=Nat×Nat×MH,st:=λ⟨i,b1,mx⟩=>cE 79 80 [(3,vv (.map (some b1))),(11,sv v.tables),(12,iv v.tables.len),(13,iv i)] [] mx h}),
  (10,{A:=Nat×Nat×Nat×Nat×Sl×MH,st:=λ⟨i,k,b1,b2,sl,mx⟩=>cE 79 80 [(3,vv (.map (some b1))),(6,vv (.map (some b2))),(11,sv v.tables),(12,iv v.tables.len),(13,iv i),(45,sv sl),(46,iv sl.len),(47,iv k)] [] mx h})] [] [] false
noncomputable def XF(v:aW)(i:Nat)(m:MH)(h:PH):Ctx:=
 dM [(122,TJ),(93,W6)] [(5,{A:=Nat×bU,st:=λ⟨k,w⟩=>cE 94 96 [(1,iv i),(2,.at (.ptr 2 0)),(5,.at (.ptr 5 0)),(6,iv k)] [(2,.cells 43 (v.enc.map .val)),(5,.cells 86 (w.enc.map .val))] m h}),
  (10,{A:=Nat×bU,st:=λ⟨k,w⟩=>cE 94 96 [(5,.at (.ptr 5 0)),(53,iv w.columns.len),(54,iv k)] [(5,.cells 86 (w.enc.map .val))] m h}),
  (15,{A:=Nat×Nat×bU,st:=λ⟨k,j,w⟩=>cE 94 96 [(5,.at (.ptr 5 0)),(7,iv k),(8,iv j),(53,iv w.columns.len),(54,iv k)] [(5,.cells 86 (w.enc.map .val))] m h})] [] [] false
abbrev Bl(a:MH)(b:PH)(c:Nat)(d:Nat->MH->Prop):Prop:=∀(x:Nat)(x1:MH),bO (cF a b x) (jS a x1 x (Obj.map (Array.mk []) c)) (d x x1)
noncomputable abbrev BR(a:Nat):Value:=Value.map (Option.some a)
abbrev Ep(a b:Nat):Prop:=SV.at (At.val (BR a))=SV.at (At.val (BR b))
abbrev nF(a:aW):Prop:=aJ a.tables
abbrev gR(a:aW):Prop:=bN a.tables
abbrev C3(a:Prop)(b:Nat)(c:aW)(d:Nat->Nat->bU->Prop)(e:Prop):Prop:=a->bC (↑b:Int) (aG c.tables) (aU (λx x1=>aA (aX (qG c) x x1) (0<=(↑b:Int)) ((↑b:Int)<aG c.tables/\∃(x2:bU),d x x1 x2))) e
noncomputable abbrev uV(a:bU):List Value:=aI (Value.string a.name) (dO a.columns) (aI (dK a.key) (dO a.references) (aR a.checks))
noncomputable abbrev jB(a:ByteArray):CV:=CV.val (Value.string a)
abbrev nB(a:CV->MH->PH->Prop)(b:Nat×Nat×MH)(c:PH):Prop:=a bB (fQ b) c
abbrev qZ(a:Value->Prop):Prop:=KeyLaw Proofs.Tryz.prog 9 a
abbrev IQ(a:MH)(b:Nat)(c:(Value->Prop)->Prop)(d:(List (Value×Bool))->(Value×Bool)->Prop)(e:Prop)(g:Value)(i:Prop):Prop:=∃(x:List (Value×Bool))(x1:Value->Prop),aA (zZ a b (List.map (fun(x2:Value×Bool)=>(x2.1,Value.bool x2.2)) x)) (qZ x1) (aA (c x1) (∀(x2:Value×Bool),List.Mem x2 x->x1 x2.1) (((∀(x2:Value×Bool),d x x2)->e)/\∀(x2:Bool),hX (List.Mem (g,x2) x) x2 i e))
noncomputable abbrev Dv(a:bU):Value:=Value.string a.name
abbrev pD(a b:Prop):Prop:=bO a b False
noncomputable abbrev AW(a:bU):Int:=aG a.columns
abbrev vW(a:(List (Value×Value))->(Value->Prop)->Prop):Prop:=∃(x:List (Value×Value))(x1:Value->Prop),a x x1
abbrev vQ(a:Value×Value)(b:List (Value×Value))(c:Value->Prop):Prop:=List.Mem a b->c a.1
noncomputable abbrev kY(a b:Value)(c:List (Value×Value)):List (Value×Value):=(a,b)::c
noncomputable abbrev vU(a b:Value):List (Value×Value):=kY a b []
noncomputable abbrev Ac:Value:=Value.bool true
abbrev Nh(a:Nat->Option Obj)(b:Nat)(c:(Value->Prop)->Prop)(d:Value)(e:MH->Prop):Prop:=vW (λx x1=>aA (zZ a b x) (qZ x1) (aA (c x1) (∀(x2:Value×Value),vQ x2 x x1) ((∀(x2:Value×Value),pD (List.Mem x2 x) (x2.1=d))/\∀(x2:MH),bO (iK a x2 b) (zZ x2 b (x++vU d Ac)) (e x2))))
noncomputable abbrev GH(a:Nat×Nat×Nat×Nat×Sl×MH):Nat:=a.2.2.2.1
abbrev bP(a b:Nat):Prop:=bX a=bX b
noncomputable abbrev Ae(a:Nat×Nat×Nat×Nat×Sl×MH):Sl:=a.2.2.2.2.1
noncomputable abbrev A6(a:Nat×Nat×Nat×Nat×Sl×MH):Nat->Option Obj:=a.2.2.2.2.2
abbrev IW(a:mT)(b:Int)(c:Prop)(d:Nat×Nat×Nat×Nat×Sl×MH->Prop)(e:Nat×Nat×Nat×Nat×Sl×MH->Nat)(g:Nat×Nat×Nat×Nat×Sl×MH)(i:aW)(j:(Nat×Nat×Nat×Nat×Sl×MH)->Prop):Prop:=branch (a.kind !=b) c (∃(x:Nat×Nat×Nat×Nat×Sl×MH),aA (d x) (e x<e g) (aA (Ep g.2.2.1 x.2.2.1) (Ep (GH g) (GH x)) (aA (nF i) (gR i) (aA (bP g.1 x.1) (bK (Ae g) (Ae x)) (j x)))))
abbrev IY(a b:Nat×Nat×Nat×Nat×Sl×MH)(c:MH)(d:PH):Prop:=aA (bL (Ae a) (Ae b)) (fM (bE a.2.1 1)=bX b.2.1) (aA (c=A6 b) (d=d) True)
attribute [push_cast] Bl BR Ep nF gR C3 uV jB nB qZ IQ Dv pD AW vW vQ kY vU Ac Nh GH bP Ae A6 IW IY
def Hk(v:aW)(m:MH)(h:PH)(K:CV->MH->PH->Prop):Prop:=
  Bl m h 0 (λb m1=>∃(I:Nat×Nat×MH->Prop)(m2:Nat×Nat×MH->Nat),I6 (λx=>aA (I x) (Ep b (iV x)) (aA (nF v) (gR v) (cT (bD x.1) m1 (fQ x) h h))) (λx=>C3 (I x) x.1 v (λb1 o y=>aM (fQ x) h b1 (bM o x.1 5) (uV y)/\∃(s:ByteArray),nK (jB y.name) (jB s) (gA (mI s) (nB K x h) (IQ (fQ x) (iV x) (λO=>O (Dv y)) (λk e=>pD (List.Mem e k) (e.1=Dv y)) (bC y.key 1 (nB K x h) (eB y.key (AW y) (nB K x h) (Nh (fQ x) (iV x) (λO=>O (Dv y)) (Dv y) (λm3=>Bl m3 h 0 (λb2 m4=>∃(I1:Nat×Nat×Nat×Nat×Sl×MH->Prop)(m5:Nat×Nat×Nat×Nat×Sl×MH->Nat),(∃(x1:Nat×Nat×Nat×Nat×Sl×MH),aA (I1 x1) (Ep (iV x) x1.2.2.1) (aA (Ep b2 (GH x1)) (nF v)
 (aA (gR v) (bP x.1 x1.1) (aA (bK y.columns (Ae x1)) (bL y.columns (Ae x1)) (cT (bD x1.2.1) m4 (A6 x1) h h)))))/\∀(x1:Nat×Nat×Nat×Nat×Sl×MH),I1 x1->bC (↑x1.2.1:Int) (aG (Ae x1)) (aU (λb3 o1=>aA (aX (Ae x1).a b3 o1) (0<=(↑x1.2.1:Int)) ((↑x1.2.1:Int)<aG (Ae x1)/\∃(y1:mT),aM (A6 x1) h b3 (bM o1 x1.2.1 2) (gM (Ab y1) (dK y1.kind))/\∃(s1:ByteArray),nK (jB y1.name) (jB s1) (gA (mI s1) (K bB (A6 x1) h) (IQ (A6 x1) (GH x1) (λO=>O (Ab y1)) (λk e=>pD (List.Mem e k) (e.1=Ab y1)) (Nh (A6 x1) (GH x1) (λO=>O (Ab y1)) (Ab y1) (λm6=>IW y1 3 (IW y1 4 (IW y1 5 (K bB m6 h) I1 m5 x1 v (λx2=>IY x1 x2 m6 h)) I1 m5 x1 v (λx2=>IY x1 x2 m6 h)) I1 m5 x1
 v (λx2=>IY x1 x2 m6 h))) (Ab y1) (K bB (A6 x1) h)))))) (∃(x2:Nat×Nat×MH),aA (I x2) (m2 x2<m2 x) (aA (Ep x1.2.2.1 (iV x2)) (nF v) (aA (gR v) (fM (bE x1.1 1)=bX x2.1) (aA (A6 x1=fQ x2) (h=h) True))))))))) (Dv y) (nB K x h)))) (K fH (fQ x) h)))
abbrev Iy(a:(Nat×bU->Prop)->(Nat×bU)->Prop)(b:(Nat×bU->Prop)->(Nat×bU->Nat)->(Nat×bU)->Prop):Prop:=∃(x:Nat×bU->Prop)(x1:Nat×bU->Nat),(∃(x2:Nat×bU),a x x2)/\∀(x2:Nat×bU),b x x1 x2
noncomputable abbrev wB(a:Int)(b:At):List At:=fU (jE a) b []
noncomputable abbrev Lm(a:aW):List At:=wB a.version (oT a.tables)
abbrev bV(a:aW):Prop:=eQ (oQ 43 (Lm a))
noncomputable abbrev jG(a:At):List At:=[a]
noncomputable abbrev eN(a:bU):List At:=fU (NQ a.name) (oT a.columns) (fU (jE a.key) (oT a.references) (jG (oT a.checks)))
abbrev Bp(a:bU)(b:Nat×bU):Prop:=oQ 86 (eN a)=oQ 86 (eN b.2)
abbrev IZ(a:Option Addr)(b:Int)(c:Nat)(d:Sl)(e:Nat->Nat->ByteArray->Prop):Prop:=aU (λx x1=>aA (aX a x x1) (b<=(↑c:Int)) ((↑c:Int)<aG d/\∃(x2:ByteArray),e x x1 x2))
noncomputable abbrev yU(a:Nat×bU):Sl:=a.2.columns
noncomputable abbrev oN(a:Nat×Nat×bU):Nat:=a.2.1
noncomputable abbrev jR(a:Nat×Nat×bU):bU:=a.2.2
attribute [push_cast] Iy wB Lm bV jG eN Bp IZ yU oN jR
def Pg(v:aW)(i:Nat)(m:MH)(h:PH)(K:CV->MH->PH->Prop):Prop:=
  aU (λb o=>aA (aX (qG v) b o) (0<=(↑i:Int)) ((↑i:Int)<aG v.tables/\∃(y:bU),aM m h b (bM o i 5) (uV y)/\∃(s:ByteArray),nK (jB y.name) (jB s) (cR (!(mI s)) (K bB m h) (AW y==0) (K bB m h) (bC y.key 1 (K bB m h) (eB y.key (AW y) (K bB m h) (Iy (λI x=>aA (I x) (eQ (bX i)) (aA (eP 2) (eP 5) (aA (bD x.1) (bV v) (aA (Bp y x) (m=m) (cQ h h))))) (λI m1 x=>I x->bC (↑x.1:Int) (↑i:Int) (IZ (qG v) 0 x.1 v.tables (λb1 o1 y1=>aM m h b1 (bM o1 x.1 5+0) (iP (Value.string y1))/\branch (y1.toList==x.2.name.toList) (K bB m h) (∃(x1:Nat×bU),aA (I x1) (m1 x1<m1 x) (aA (eQ (bX i)) (eP 2) (aA fZ (fM (bE x.1 1)=bX x1.1) (aA (bV v) (Bp x.2 x1) (dR m m h h))))))) (Iy (λI1 x1=>
 aA (I1 x1) fZ (aA (bL (yU x) (yU x1)) (bD x1.1) (cT (Bp x.2 x1) m m h h))) (λI1 m2 x1=>I1 x1->bC (↑x1.1:Int) (aG (yU x1)) (aU (λb1 o1=>aA (aX x1.2.columns.a b1 o1) (0<=(↑x1.1:Int)) ((↑x1.1:Int)<aG (yU x1)/\∃(y1:ByteArray),aM m h b1 (bM o1 x1.1 2+0) (iP (Value.string y1))/\∃(s1:ByteArray),nK (jB y1) (jB s1) (gA (mI s1) (K bB m h) (aU (λb2 o2=>aA (aX x1.2.columns.a b2 o2) (0<=(↑x1.1:Int)) ((↑x1.1:Int)<aG (yU x1)/\∃(y2:Int),aM m h b2 (bM o2 x1.1 2+1) (bT y2)/\jW y2 (λk=>gA (cV k) (K bB m h) (∃(I2:Nat×Nat×bU->Prop)(m3:Nat×Nat×bU->Nat),(∃(x2:Nat×Nat×bU),aA (I2 x2) fZ (aA (bP x1.1 x2.1) (bD (oN x2)) (aA (bL (yU x1) (jR x2).columns)
 (bP x1.1 x2.1) (aA (oQ 86 (eN x1.2)=oQ 86 (eN (jR x2))) (m=m) (cQ h h)))))/\∀(x2:Nat×Nat×bU),I2 x2->bC (↑(oN x2):Int) (↑x2.1:Int) (IZ (jR x2).columns.a 0 (oN x2) (jR x2).columns (λb3 o3 y3=>aM m h b3 (bM o3 (oN x2) 2+0) (iP (Value.string y3))/\IZ (jR x2).columns.a 0 x2.1 (jR x2).columns (λb4 o4 y4=>aM m h b4 (bM o4 x2.1 2+0) (iP (Value.string y4))/\branch (y3.toList==y4.toList) (K bB m h) (∃(x3:Nat×Nat×bU),aA (I2 x3) (m3 x3<m3 x2) (aA fZ (bP x2.1 x3.1) (aA (fM (bE (oN x2) 1)=bX (oN x3)) (bL (jR x2).columns (jR x3).columns) (aA (bP x2.1 x3.1) (oQ 86 (eN (jR x2))=oQ 86 (eN (jR x3))) (dR m m h h)))))))) (∃(x3:Nat×bU),aA (I1 x3) (m2 x3<m2 x1) (aA fZ (bL (jR
 x2).columns (yU x3)) (aA (fM (bE x2.1 1)=bX x3.1) (Bp (jR x2) x3) (aA (m=m) (h=h) True))))))))))))) (K fH m h))))))))))
theorem Hw.snoc{ns:List ByteArray}{n:ByteArray}(h:zZ m b ((ns.map λn=>(Value.string n,Value.bool true))++[(.string n,.bool true)])):Hw m b (ns++[n]):=by
 unfold Hw;rw[List.map_append];exact h
theorem Hw.look{ns:List ByteArray}(h:Hw m b ns):zZ m b (List.map (λp:Value×Bool=>(p.fst,Value.bool p.snd)) (ns.map λn=>(Value.string n,true))):=by
 rw[List.map_map];exact h
theorem E6{β:Type}{ns:List ByteArray}{x:β}:∀e:Value×β,e∈(ns.map λn=>(Value.string n,x))->∃s,e.fst= .string s:=λe he=>by
 obtain⟨n,_,rfl⟩:=List.mem_map.1 he;exact⟨n,rfl⟩
theorem OS{β:Type}{ns:List ByteArray}{x:β}{n:ByteArray}(h:n∉ns):∀e:Value×β,e∈(ns.map λn=>(Value.string n,x))->e.fst= .string n->False:=λe he h'=>by
 obtain⟨n',hn,rfl⟩:=List.mem_map.1 he;exact h (by have:n'=n:=(by injection h');rwa [<-this])
theorem C2{β:Type}{ns:List ByteArray}{x:β}{n:ByteArray}(h:∀e:Value×β,e∈(ns.map λn=>(Value.string n,x))->e.fst= .string n->False):n∉ns:=λhn=>h (.string n,x) (List.mem_map.2 ⟨n,hn,rfl⟩) rfl
theorem OT{β:Type}{ns:List ByteArray}{x y:β}{n:ByteArray}(h:(Value.string n,y)∈(ns.map λn=>(Value.string n,x))):n∈ns/\y=x:=by
 obtain⟨n',hn,e⟩:=List.mem_map.1 h;injection e with e1 e2;injection e1 with e1;exact⟨by rwa [<-e1],e2.symm⟩
theorem R8:Sound Tryz.prog 111 W4:=by
 refine FW Tryz.func111 ?_;rintro cvs m h K ⟨v,s,rfl,hs,hK⟩;refine⟨Wt v h,rfl,aD RS aF,Hk v m h (kO h K),by kernel_rfl,?_⟩;show Hk v m h (kO h K);dsimp only[Hk,push_cast];have hl:=hs.tables.slen;have hlen:=hs.tables.len;have hf:¬Good AE s.tables->K (cB false) m h:=λh=>hK false ⟨λe=>(by cases e),λe=>(h e).elim⟩;intro b m1 hb hm1;refine⟨λ⟨i,b1,mx⟩=>i<=s.tables.length/\Sub m mx/\m b1=none/\Hw mx b1 ((s.tables.take i).map vL.name)/\eE AE s.tables i,λ⟨i,_,_⟩=>s.tables.length-i,⟨(0,b,m1),⟨aC,(Sub.refl m).upd hb.m_ hm1.other,hb.m_,⟨_,_,hm1.at_,rfl⟩,.zero⟩,MT⟩,?_⟩;rintro⟨i,b1,mx⟩ ⟨hi,hsub,hb1,hmap,hgood⟩;dsimp only;refine aE (λhlt=>?_) (λhge=>.sub hsub (hK true ⟨λ_=>hgood.all aC,λ_=>rfl⟩));obtain⟨t,hx⟩:=fG hl hlt;obtain⟨bb,o,w,ea,hr,hrep⟩:=hs.tables.at hx;have hcl:=bZ.slen hrep.columns;have hcb:=bZ.len hrep.columns;have hnm:=hrep.name;have hky:=hrep.key;have bad:¬AE (s.tables.take i) t->kO h K (.val (.bool false)) mx h:=λhn=>.sub hsub (hf (Good.not hx hn));have rest:t.name∉(s.tables.take i).map vL.name->mI w.name=true->1<=w.key->w.key<=w.columns.len->Good Qv t.columns->AE (s.tables.take i) t:=λh1 h2 h3 h4 h5=>⟨by rw[<-hnm];exact h2,by rw[<-hky];exact h3,by rw[<-hky];omega,h1,h5⟩
 refine⟨bb,o,ea,aC,hlt,w,.imm hr,w.name,rfl,aB (λh1=>bad λht=>?_) (λh1=>⟨_,_,hmap.look,AN,⟨_,rfl⟩,E6,λhno=>aE (λh2=>bad λht=>?_) (λh2=>aE (λh3=>bad λht=>?_) (λh3=>⟨_,_,hmap,AN,⟨_,rfl⟩,E6,OS (C2 hno),λm2 hs2 hm2 b2 m3 hb2 hm3=>?_⟩)),λy hy=>?_⟩)⟩
 .have:=ht.1;rw[<-hnm]at this;rw[this]at h1;cases h1
 .have:=ht.2.1;omega
 .have:=ht.2.2.1;omega
 .have hm2:=Hw.snoc hm2;have hsub2:Sub m m2:=hsub.upd hb1 hs2.other;have hsub3:Sub m m3:=hsub2.upd (hsub2.free hb2.m_) hm3.other
  have hne:b1≠b2:=λe=>by
   obtain⟨es,cl,e1,_⟩:=hm2.ex;rw[e,hb2.m_]at e1;cases e1
  have hno':t.name∉(s.tables.take i).map vL.name:=by rw[<-hnm];exact C2 hno
  rw[hnm, <-fL hx]at hm2
  refine⟨λ⟨i',k,b1',b2',sl,my⟩=>i'=i/\b1'=b1/\b2'=b2/\sl=w.columns/\k<=t.columns.length/\Sub m my/\Hw my b1 ((s.tables.take (i+1)).map vL.name)/\Hw my b2 ((t.columns.take k).map mT.name)/\eE Qv t.columns k,λ⟨_,k,_,_,_,_⟩=>t.columns.length-k,
   ⟨(i,0,b1,b2,w.columns,m3),⟨rfl,rfl,rfl,rfl,aC,hsub3,hm2.other hne hm3.other,⟨_,_,hm3.at_,rfl⟩,.zero⟩,MT⟩,?_⟩
  rintro⟨i,k,b1,b2,_,my⟩ ⟨rfl,rfl,rfl,rfl,hk,hsuby,hmy1,hmy2,hg2⟩;dsimp only;refine aE (λhlt2=>?_) (λhge2=>?_)
  .obtain⟨c,hc⟩:=fG hcl hlt2;obtain⟨bc,oc,ec,rc⟩:=B5.at hrep.columns hc;have cbad:∀mz,Sub m mz->¬Qv (t.columns.take k) c->kO h K (.val (.bool false)) mz h:=λmz hz hn=>.sub hz (hf (Good.not hx (λht=>Good.not hc hn ht.2.2.2.2)));refine⟨bc,oc,ec,aC,hlt2,c,.imm rc,c.name,rfl,aB (λh4=>cbad my hsuby λht=>?_) (λh4=>⟨_,_,hmy2.look,AN,⟨_,rfl⟩,E6,λhno2=>⟨_,_,hmy2,AN,⟨_,rfl⟩,E6,OS (C2 hno2),λm4 hs4 hm4=>?_⟩,λy hy=>?_⟩)⟩
   .rw[ht.1]at h4;cases h4
   .have hm4:=Hw.snoc hm4;rw[<-fL hc]at hm4;have hsub4:Sub m m4:=hsuby.upd (hsub2.free hb2.m_) hs4.other;have cgood:cV c.kind=true->Qv (t.columns.take k) c:=λe=>⟨by simpa using h4,e,C2 hno2⟩
    have ckind:cV c.kind=false->¬Qv (t.columns.take k) c:=λe ht=>by rw[ht.2.1]at e;cases e
    have m1':=hmy1.other hne hs4.other
    repeat' (first|(refine aB (λ_=>?_) (λ_=>?_))|(refine cbad m4 hsub4 (ckind ?_);simp_all [cV];done)|exact⟨(i,k+1,b1,b2,w.columns,m4),⟨rfl,rfl,rfl,rfl,by show k+1<=t.columns.length;omega,hsub4,m1',hm4,hg2.succ hc (cgood (by simp_all [cV]))⟩,by show t.columns.length-(k+1)<t.columns.length-k;omega,MT⟩)
   .obtain⟨hin,rfl⟩:=OT hy;exact aB (λ_=>cbad my hsuby λht=>ht.2.2 hin) (λe=>by cases e)
  .refine⟨(i+1,b1,my),⟨aC,hsuby,hb1,hmy1,hgood.succ hx (rest hno' (by simpa using h1) aC aC (hg2.all aC))⟩,?_,MT⟩;show s.tables.length-(i+1)<s.tables.length-i;omega
 .obtain⟨hin,rfl⟩:=OT hy;exact aB (λ_=>bad λht=>ht.2.2.2.1 (by rw[<-hnm];exact hin)) (λe=>by cases e)
theorem JH{α:Type}{f:α->ByteArray}{l:List α}{x:α}{n:ByteArray}(hx:l[i]? =some x)(h:n∉(l.take i).map f)(hn:f x≠n):n∉(l.take (i+1)).map f:=by
 rw[fL hx,List.mem_append];rintro(e|e)
 .exact h e
 .simp at e;exact hn e.symm
theorem YJ{α:Type}{f:α->ByteArray}{l:List α}{x:α}{n:ByteArray}(hx:l[i]? =some x)(hi:i<k)(hn:f x=n):n∈(l.take k).map f:=
 List.mem_map.2 ⟨x,List.mem_of_getElem? (i:=i) (by rw[List.getElem?_take,if_pos hi,hx]),hn⟩
theorem Ur:Sound Tryz.prog 91 WN:=by
 refine iB Tryz.func91 ?_;rintro cvs m h K ⟨v,s,t,i,rfl,hs,hx,hK⟩;refine⟨XF v i m h,rfl,aD R1 (aD LB aF),Pg v i m h K,by kernel_rfl,?_⟩;dsimp only[Pg,push_cast];have hl:=hs.tables.slen;have hlen:=hs.tables.len;have hil:i<s.tables.length:=(List.getElem?_eq_some_iff.1 hx).1;have bad:¬AE (s.tables.take i) t->K (.val (.bool false)) m h:=λh=>hK false ⟨λe=>(by cases e),λe=>(h e).elim⟩;obtain⟨bb,o,w,ea,hr,hrep⟩:=hs.tables.at hx;have hcl:=bZ.slen hrep.columns;have hcb:=bZ.len hrep.columns;have hnm:=hrep.name;have hky:=hrep.key;refine⟨bb,o,ea,aC,aC,w,.imm hr,w.name,rfl,aB (λh1=>bad λht=>?_) (λh1=>aB (λh2=>bad λht=>?_) (λh2=>aE (λh3=>bad λht=>?_) (λh3=>aE (λh4=>bad λht=>?_) (λh4=>?_))))⟩
 .have:=ht.1;rw[<-hnm]at this;rw[this]at h1;cases h1
 .have:=ht.2.1;have:=ht.2.2.1;have:(w.columns.len:Int)=0:=(by simpa using h2);omega
 .have:=ht.2.1;omega
 .have:=ht.2.2.1;omega
 refine⟨λ⟨k,w'⟩=>w'=w/\k<=i/\t.name∉(s.tables.take k).map vL.name,λ⟨k,_⟩=>i-k,⟨(0,w),⟨rfl,aC,by simp⟩,MT⟩,?_⟩;rintro⟨k,w⟩ ⟨rfl,hk,hno⟩;dsimp only;refine aE (λhlt=>?_) (λhge=>?_)
 .obtain⟨t',hx'⟩:∃t',s.tables[k]? =some t':=⟨s.tables[k]'(by omega),List.getElem?_eq_getElem _⟩
  obtain⟨b',o',w',ea',hr',hrep'⟩:=hs.tables.at hx';refine⟨b',o',ea',aC,aC,w'.name,.imm (aZ.part hr' 0 1),aB (λe=>bad λht=>?_) (λe=>?_)⟩
  .refine ht.2.2.2.1 (YJ hx' aC ?_);rw[<-hrep'.name, <-hnm];exact xN (by simpa using e)
  .refine⟨(k+1,w),⟨rfl,aC,JH hx' hno λe'=>?_⟩,by show i-(k+1)<i-k;omega,MT⟩;rw[<-hrep'.name, <-hnm]at e';rw[e']at e;simp at e
 .have hki:k=i:=by omega
  subst hki;refine⟨λ⟨k,w'⟩=>w'=w/\k<=t.columns.length/\eE Qv t.columns k,λ⟨k,_⟩=>t.columns.length-k,⟨(0,w),⟨rfl,aC,.zero⟩,MT⟩,?_⟩;rintro⟨c,w⟩ ⟨rfl,hc,hg⟩;dsimp only;refine aE (λhlt=>?_) (λhge2=>hK true ⟨λ_=>⟨by rw[<-hnm];simpa using h1,aC,aC,hno,hg.all aC⟩,λ_=>rfl⟩);obtain⟨x,hxc⟩:=fG hcl hlt;obtain⟨bc,oc,ec,rc⟩:=B5.at hrep.columns hxc;have cbad:¬Qv (t.columns.take c) x->K (.val (.bool false)) m h:=λhn=>bad λht=>Good.not hxc hn ht.2.2.2.2;refine⟨bc,oc,ec,aC,hlt,x.name,.imm (aZ.part rc 0 1),x.name,rfl,aB (λe1=>cbad λht=>?_) (λe1=>⟨bc,oc,ec,aC,hlt,x.kind,.imm (aZ.part rc 1 1),x.kind,rfl,aB (λe2=>cbad λht=>?_) (λe2=>?_)⟩)⟩
  .rw[ht.1]at e1;cases e1
  .rw[ht.2.1]at e2;cases e2
  refine⟨λ⟨c',j,w'⟩=>w'=w/\c'=c/\j<=c/\x.name∉(t.columns.take j).map mT.name,λ⟨_,j,_⟩=>c-j,⟨(c,0,w),⟨rfl,rfl,aC,by simp⟩,MT⟩,?_⟩;rintro⟨c,j,w⟩ ⟨rfl,rfl,hj,hnoj⟩;dsimp only;refine aE (λhlt3=>?_) (λhge3=>?_)
  .obtain⟨y,hy⟩:∃y,t.columns[j]? =some y:=⟨t.columns[j]'(by omega),List.getElem?_eq_getElem _⟩
   obtain⟨by',oy,ey,ry⟩:=B5.at hrep.columns hy;refine⟨by',oy,ey,aC,aC,y.name,.imm (aZ.part ry 0 1),bc,oc,ec,aC,hlt,x.name,.imm (aZ.part rc 0 1),aB (λe=>cbad λht=>?_) (λe=>?_)⟩
   .exact ht.2.2 (YJ hy aC (xN (by simpa using e)))
   .refine⟨(c,j+1,w),⟨rfl,rfl,by show j+1<=c;omega,JH hy hnoj λe'=>?_⟩,by show c-(j+1)<c-j;omega,MT⟩;rw[e']at e;simp at e
  .have:j=c:=by omega
   subst this;exact⟨(j+1,w),⟨rfl,aC,hg.succ hxc ⟨by simpa using e1,by simpa using e2,hnoj⟩⟩,by show t.columns.length-(j+1)<t.columns.length-j;omega,MT⟩
def ED(t g:vL)(k:Nat)(c:Int):Prop:=0<=c/\c<t.columns.length/\∃x y,t.columns[c.toNat]? =some x/\g.columns[k]? =some y/\x.kind=y.kind
def WZ(tabs:List vL)(t:vL)(_:List Ref)(r:Ref):Prop:=0<=r.table/\r.table<tabs.length/\∃g,tabs[r.table.toNat]? =some g/\(r.columns.length:Int)=g.key/\Good (λpre c=>ED t g pre.length c) r.columns
def BX(tabs:List vL)(_:List vL)(t:vL):Prop:=Good (WZ tabs t) t.refs
def WY:Vc.Spec:=λcvs m h K=>∃v s,cvs=[aS v]/\gI h s v/\Good AE s.tables/\∀r:Bool,(r=true↔Good (BX s.tables) s.tables)->K (cB r) m h
def TC:Vc.Spec:=λcvs m h K=>∃v s t,∃i:Nat,cvs=[aS v,cI i]/\gI h s v/\Good AE s.tables/\s.tables[i]? =some t/\∀r:Bool,(r=true↔BX s.tables [] t)->K (cB r) m h
noncomputable def Ws(v:aW)(m:MH)(h:PH):Ctx:=
 dM [] [(2,{A:=Nat,st:=λi=>cE 82 83 [(1,.at (.ptr 1 0)),(11,sv v.tables),(12,iv v.tables.len),(13,iv i)] [(1,.cells 43 (v.enc.map .val))] m h}),
  (5,{A:=Nat×Nat×bU,st:=λ⟨i,k,w⟩=>cE 82 83 [(1,.at (.ptr 1 0)),(4,.at (.ptr 4 0)),(11,sv v.tables),(12,iv v.tables.len),(13,iv i),(18,sv w.references),(19,iv w.references.len),(20,iv k)] [(1,.cells 43 (v.enc.map .val)),(4,.cells 86 (w.enc.map .val))] m h}),
  (13,{A:=Nat×Nat×Nat×bU×bU×Sl,st:=λ⟨i,k,j,w,g,sl⟩=>cE 82 83 [(1,.at (.ptr 1 0)),(4,.at (.ptr 4 0)),(7,.at (.ptr 7 0)),(11,sv v.tables),(12,iv v.tables.len),(13,iv i),(18,sv w.references),(19,iv w.references.len),(20,iv k),(48,sv sl),(49,iv sl.len),(50,iv j)] [(1,.cells 43 (v.enc.map .val)),(4,.cells 86 (w.enc.map .val)),(7,.cells 86 (g.enc.map .val))] m h})] [] [] false
noncomputable def XE(v:aW)(m:MH)(h:PH):Ctx:=
 dM [] [(3,{A:=Nat×bU,st:=λ⟨k,w⟩=>cE 85 87 [(2,.at (.ptr 2 0)),(5,.at (.ptr 5 0)),(16,sv w.references),(17,iv w.references.len),(18,iv k)] [(2,.cells 43 (v.enc.map .val)),(5,.cells 86 (w.enc.map .val))] m h}),
  (8,{A:=Nat×Nat×bU×B3,st:=λ⟨k,j,w,r⟩=>cE 85 87 [(2,.at (.ptr 2 0)),(5,.at (.ptr 5 0)),(7,.at (.ptr 7 0)),(16,sv w.references),(17,iv w.references.len),(18,iv k),(47,sv r.columns),(48,iv r.columns.len),(49,iv j)] [(2,.cells 43 (v.enc.map .val)),(5,.cells 86 (w.enc.map .val)),(7,.cells 118 (r.enc.map .val))] m h})] [] [] false
abbrev nU(a:(Nat->Prop)->Nat->Prop)(b:(Nat->Prop)->(Nat->Nat)->Nat->Prop):Prop:=∃(x:Nat->Prop)(x1:Nat->Nat),gG (∃(x2:Nat),a x x2) (λx2=>b x x1 x2)
abbrev eM:Prop:=eP 1
abbrev AZ(a b:bU):Prop:=bK a.references b.references
abbrev A1(a b:bU):Prop:=bL a.references b.references
abbrev C6(a:aW)(b:Int)(c:Nat->Nat->Prop):Prop:=aU (λx x1=>aA (aX (qG a) x x1) (0<=b) (b<aG a.tables/\c x x1))
noncomputable abbrev qE(a:Nat×Nat×Nat×bU×bU×Sl):bU:=a.2.2.2.1
noncomputable abbrev uK(a:Nat×Nat×Nat×bU×bU×Sl):Sl:=a.2.2.2.2.2
noncomputable abbrev sO(a:Nat×Nat×Nat×bU×bU×Sl):Nat:=a.2.2.1
noncomputable abbrev GD(a:Nat×Nat×Nat×bU×bU×Sl):bU:=a.2.2.2.2.1
attribute [push_cast] nU eM AZ A1 C6 qE uK sO GD
def Hj(v:aW)(m:MH)(h:PH)(K:CV->MH->PH->Prop):Prop:=
  nU (λI x=>aA (I x) eM (aA (nF v) (gR v) (aA (bD x) (bV v) (aA (m=m) (h=h) True)))) (λI m1 x=>C3 (I x) x v (λb o y=>aM m h b (bM o x 5) (uV y)/\∃(I1:Nat×Nat×bU->Prop)(m2:Nat×Nat×bU->Nat),(∃(x1:Nat×Nat×bU),aA (I1 x1) eM (aA (eP 4) (nF v) (aA (gR v) (bP x x1.1) (aA (AZ y (jR x1)) (A1 y (jR x1)) (aA (bD (oN x1)) (bV v) (aA (oQ 86 (eN y)=oQ 86 (eN (jR x1))) (m=m) (cQ h h)))))))/\∀(x1:Nat×Nat×bU),I1 x1->bC (↑(oN x1):Int) (aG (jR x1).references) (aU (λb1 o1=>aA (aX (jR x1).references.a b1 o1) (0<=(↑(oN x1):Int)) ((↑(oN x1):Int)<aG (jR x1).references/\∃(y1:B3),aM m h b1 (bM o1 (oN x1) 2) (gM (dO y1.columns) (dK y1.table))/\
 bC y1.table 0 (K bB m h) (fR y1.table (gP v) (K bB m h) (C6 v y1.table (λb2 o2=>∃(y2:bU),aM m h b2 (fN o2 y1.table 5) (uV y2)/\dT (aG y1.columns) y2.key (K bB m h) (∃(I2:Nat×Nat×Nat×bU×bU×Sl->Prop)(m3:Nat×Nat×Nat×bU×bU×Sl->Nat),(∃(x2:Nat×Nat×Nat×bU×bU×Sl),aA (I2 x2) eM (aA (eP 4) (eP 7) (aA (nF v) (gR v) (aA (bP x1.1 x2.1) (AZ (jR x1) (qE x2)) (aA (A1 (jR x1) (qE x2)) (bP (oN x1) x2.2.1) (aA (bK y1.columns (uK x2)) (bL y1.columns (uK x2)) (aA (bD (sO x2)) (bV v) (aA (oQ 86 (eN (jR x1))=oQ 86 (eN (qE x2))) (oQ 86 (eN y2)=oQ 86 (eN (GD x2))) (dR m m h h)))))))))/\∀(x2:Nat×Nat×Nat×bU×bU×Sl),I2 x2->bC (↑(sO x2):Int) (aG
 (uK x2)) (aU (λb3 o3=>aA (aX (uK x2).a b3 o3) (0<=(↑(sO x2):Int)) ((↑(sO x2):Int)<aG (uK x2)/\∃(y3:Int),aM m h b3 (bM o3 (sO x2) 1) (bT y3)/\bC y3 0 (K bB m h) (fR y3 (AW (qE x2)) (K bB m h) (aU (λb4 o4=>aA (aX (qE x2).columns.a b4 o4) (0<=y3) (y3<aG (qE x2).columns/\∃(y4:Int),aM m h b4 (fN o4 y3 2+1) (bT y4)/\aU (λb5 o5=>aA (aX (GD x2).columns.a b5 o5) (0<=(↑(sO x2):Int)) ((↑(sO x2):Int)<aG (GD x2).columns/\∃(y5:Int),aM m h b5 (bM o5 (sO x2) 2+1) (bT y5)/\dT y4 y5 (K bB m h) (∃(x3:Nat×Nat×Nat×bU×bU×Sl),aA (I2 x3) (m3 x3<m3 x2) (aA eM (eP 4) (aA (eP 7) (nF v) (aA (gR v) (bP x2.1 x3.1) (aA (AZ (qE x2) (qE x3)) (A1
 (qE x2) (qE x3)) (aA (bP x2.2.1 x3.2.1) (bK (uK x2) (uK x3)) (aA (bL (uK x2) (uK x3)) (fM (bE (sO x2) 1)=bX (sO x3)) (aA (bV v) (oQ 86 (eN (qE x2))=oQ 86 (eN (qE x3))) (cT (oQ 86 (eN (GD x2))=oQ 86 (eN (GD x3))) m m h h)))))))))))))))))) (∃(x3:Nat×Nat×bU),aA (I1 x3) (m2 x3<m2 x1) (aA eM (eP 4) (aA (nF v) (gR v) (aA (bP x2.1 x3.1) (AZ (qE x2) (jR x3)) (aA (A1 (qE x2) (jR x3)) (fM (bE x2.2.1 1)=bX (oN x3)) (aA (bV v) (oQ 86 (eN (qE x2))=oQ 86 (eN (jR x3))) (dR m m h h)))))))))))))) (∃(x2:Nat),aA (I x2) (m1 x2<m1 x) (aA eM (nF v) (aA (gR v) (fM (bE x1.1 1)=bX x2) (aA (bV v) (m=m) (cQ h h)))))) (K fH m h))
noncomputable abbrev qF(a:Nat×Nat×bU×B3):bU:=a.2.2.1
noncomputable abbrev pV(a:Nat×Nat×bU×B3):Sl:=a.2.2.2.columns
noncomputable abbrev Bo(a:Nat×Nat×bU×B3):Int:=a.2.2.2.table
attribute [push_cast] qF pV Bo
def J4(v:aW)(i:Nat)(m:MH)(h:PH)(K:CV->MH->PH->Prop):Prop:=
  aU (λb o=>aA (aX (qG v) b o) (0<=(↑i:Int)) ((↑i:Int)<aG v.tables/\∃(y:bU),aM m h b (bM o i 5) (uV y)/\Iy (λI x=>aA (I x) (eP 2) (aA (eP 5) (AZ y x.2) (aA (A1 y x.2) (bD x.1) (aA (bV v) (Bp y x) (dR m m h h))))) (λI m1 x=>I x->bC (↑x.1:Int) (aG x.2.references) (aU (λb1 o1=>aA (aX x.2.references.a b1 o1) (0<=(↑x.1:Int)) ((↑x.1:Int)<aG x.2.references/\∃(y1:B3),aM m h b1 (bM o1 x.1 2) (gM (dO y1.columns) (dK y1.table))/\bC y1.table 0 (K bB m h) (fR y1.table (gP v) (K bB m h) (aU (λb2 o2=>aA (aX (qG v) b2 o2) (0<=y1.table) (y1.table<aG v.tables/\∃(y2:Int),aM m h b2 (fN o2 y1.table 5+2) (bT y2)/\dT (aG y1.columns) y2 (K bB m h) (∃(I1:Nat×Nat×bU×B3->Prop)(m2:
 Nat×Nat×bU×B3->Nat),(∃(x1:Nat×Nat×bU×B3),aA (I1 x1) (eP 2) (aA (eP 5) (eP 7) (aA (AZ x.2 (qF x1)) (A1 x.2 (qF x1)) (aA (bP x.1 x1.1) (bK y1.columns (pV x1)) (aA (bL y1.columns (pV x1)) (bD x1.2.1) (aA (bV v) (oQ 86 (eN x.2)=oQ 86 (eN (qF x1))) (cT (oQ 118 (fU (oT y1.columns) (jE y1.table) [])=oQ 118 (fU (oT (pV x1)) (jE (Bo x1)) [])) m m h h)))))))/\∀(x1:Nat×Nat×bU×B3),I1 x1->bC (↑x1.2.1:Int) (aG (pV x1)) (aU (λb3 o3=>aA (aX (pV x1).a b3 o3) (0<=(↑x1.2.1:Int)) ((↑x1.2.1:Int)<aG (pV x1)/\∃(y3:Int),aM m h b3 (bM o3 x1.2.1 1) (bT y3)/\bC y3 0 (K bB m h) (fR y3 (AW (qF x1)) (K bB m h) (aU (λb4 o4=>aA (aX (qF x1).columns.a b4 o4) (0<=y3) (y3<aG
 (qF x1).columns/\∃(y4:Int),aM m h b4 (fN o4 y3 2+1) (bT y4)/\aU (λb5 o5=>aA (aX (qG v) b5 o5) (0<=Bo x1) (Bo x1<aG v.tables/\∃(y5:Sl),aM m h b5 (fN o5 (Bo x1) 5+1) (aR y5)/\aU (λb6 o6=>aA (aX y5.a b6 o6) (0<=(↑x1.2.1:Int)) ((↑x1.2.1:Int)<aG y5/\∃(y6:Int),aM m h b6 (bM o6 x1.2.1 2+1) (bT y6)/\dT y4 y6 (K bB m h) (∃(x2:Nat×Nat×bU×B3),aA (I1 x2) (m2 x2<m2 x1) (aA (eP 2) fZ (aA (eP 7) (AZ (qF x1) (qF x2)) (aA (A1 (qF x1) (qF x2)) (bP x1.1 x2.1) (aA (bK (pV x1) (pV x2)) (bL (pV x1) (pV x2)) (aA (fM (bE x1.2.1 1)=bX x2.2.1) (bV v) (aA (oQ 86 (eN (qF x1))=oQ 86 (eN (qF x2))) (oQ 118 (fU (oT (pV x1)) (jE (Bo x1)) [])=oQ 118 (fU (oT
 (pV x2)) (jE (Bo x2)) [])) (aA (m=m) (h=h) True))))))))))))))))))) (∃(x2:Nat×bU),aA (I x2) (m1 x2<m1 x) (aA (eP 2) fZ (aA (AZ (qF x1) x2.2) (A1 (qF x1) x2.2) (aA (fM (bE x1.1 1)=bX x2.1) (bV v) (cT (Bp (qF x1) x2) m m h h))))))))))))) (K fH m h))))
theorem Ints.at'{s:Sl}(r:Ints h s l){x:Int}(hi:l[i]? =some x):∃b o,s.a=some ⟨b,o,none⟩/\aZ h b (o+i*1) [.int .i64 x]:=by
 obtain⟨b,o,e,k⟩:=r.at hi;exact⟨b,o,e,by rwa [Nat.mul_one]⟩
theorem Ol{α:Type}{l:List α}{x:α}(h:l[i]? =some x):(l.take i).length=i:=by
 have:=(List.getElem?_eq_some_iff.1 h).1;rw[List.length_take];omega
theorem Good.key_le{tabs:List vL}(h:Good AE tabs){g:vL}(hg:tabs[i]? =some g):g.key<=g.columns.length:=(h i g hg).2.2.1
theorem Yq{v:aW}(hs:gI h s v)(hgood:Good AE s.tables)(hK:∀r:Bool,(r=true↔Good (BX s.tables) s.tables)->K (cB r) m h):Hj v m h K:=by
 dsimp only[Hj,push_cast];have hl:=hs.tables.slen;have hlen:=hs.tables.len;have hf:¬Good (BX s.tables) s.tables->K (.val (.bool false)) m h:=λh=>hK false ⟨λe=>(by cases e),λe=>(h e).elim⟩;refine⟨λi=>i<=s.tables.length/\eE (BX s.tables) s.tables i,λi=>s.tables.length-i,⟨0,⟨aC,.zero⟩,MT⟩,λi⟨hi,hg⟩=>aE (λhlt=>?_) (λhge=>hK true ⟨λ_=>hg.all aC,λ_=>rfl⟩)⟩;obtain⟨t,hx⟩:=fG hl hlt;obtain⟨b,o,w,ea,hr,hrep⟩:=hs.tables.at hx;have hcl:=bZ.slen hrep.columns;have hrl:=bZ.slen hrep.refs;have hrb:=bZ.len hrep.refs;refine⟨b,o,ea,aC,hlt,w,.imm hr,λ⟨i',k,w'⟩=>i'=i/\w'=w/\k<=t.refs.length/\eE (WZ s.tables t) t.refs k,λ⟨_,k,_⟩=>t.refs.length-k,⟨(i,0,w),⟨rfl,rfl,aC,.zero⟩,MT⟩,?_⟩;rintro⟨i,k,w⟩ ⟨rfl,rfl,hk,hg2⟩;dsimp only;refine aE (λhlt2=>?_) (λhge2=>⟨i+1,⟨aC,hg.succ hx (hg2.all aC)⟩,by show s.tables.length-(i+1)<s.tables.length-i;omega,MT⟩);obtain⟨r,hrx⟩:=fG hrl hlt2;obtain⟨b2,o2,rv,ea2,hr2,hrep2⟩:=hrep.refs.at hrx;have rcl:=hrep2.columns.slen;have rcb:=hrep2.columns.len;have rt:=hrep2.table;have bad:¬WZ s.tables t (t.refs.take k) r->K (.val (.bool false)) m h:=λhn=>hf (Good.not hx (Good.not hrx hn));refine⟨b2,o2,ea2,aC,hlt2,rv,.imm hr2,aE (λh1=>bad λht=>?_) (λh1=>aE (λh2=>bad λht=>?_) (λh2=>?_))⟩
 .have:=ht.1;omega
 .have:=ht.2.1;omega
 obtain⟨g,b3,o3,gv,hgx,ea3,hr3,hrep3⟩:=hs.table (t:=rv.table) aC aC;have gcl:=bZ.slen hrep3.columns;have hkey:=hgood.key_le hgx;have gk:=hrep3.key;refine⟨b3,o3,ea3,aC,aC,gv,.imm hr3,aB (λh3=>bad λht=>?_) (λh3=>?_)⟩
 .obtain⟨_,_,g',hg',hk',_⟩:=ht;rw[<-rt,hgx]at hg';cases hg';have:(rv.columns.len:Int)≠gv.key:=by simpa using h3
  omega
 have h3:(rv.columns.len:Int)=gv.key:=by simpa using h3
 refine⟨λ⟨i',k',j,w',g',sl⟩=>i'=i/\k'=k/\w'=w/\g'=gv/\sl=rv.columns/\j<=r.columns.length/\eE (λpre c=>ED t g pre.length c) r.columns j,λ⟨_,_,j,_,_,_⟩=>r.columns.length-j,⟨(i,k,0,w,gv,rv.columns),⟨rfl,rfl,rfl,rfl,rfl,aC,.zero⟩,MT⟩,?_⟩;rintro⟨i,k,j,w,gv,_⟩ ⟨rfl,rfl,rfl,rfl,rfl,hj,hg3⟩;dsimp only;refine aE (λhlt3=>?_) (λhge3=>⟨(i,k+1,w),⟨rfl,rfl,by show k+1<=t.refs.length;omega,hg2.succ hrx ⟨aC,aC,g,by rw[<-rt];exact hgx,aC,hg3.all aC⟩⟩,by show t.refs.length-(k+1)<t.refs.length-k;omega,MT⟩);obtain⟨c,hc⟩:=fG rcl hlt3;obtain⟨b4,o4,ea4,hr4⟩:=hrep2.columns.at' hc;have htl:=Ol hc
 have cbad:¬ED t g j c->K (.val (.bool false)) m h:=λhn=>bad λht=>by
  obtain⟨_,_,g',hg',_,hgo⟩:=ht;rw[<-rt,hgx]at hg';cases hg';have:=hgo j c hc;dsimp only at this;rw[htl]at this;exact hn this
 refine⟨b4,o4,ea4,aC,hlt3,c,.imm hr4,aE (λh5=>cbad λht=>?_) (λh5=>aE (λh6=>cbad λht=>?_) (λh6=>?_))⟩
 .have:=ht.1;omega
 .have:=ht.2.1;omega
 obtain⟨x,hxx⟩:∃x,t.columns[c.toNat]? =some x:=⟨t.columns[c.toNat]'(by omega),List.getElem?_eq_getElem _⟩
 obtain⟨y,hyy⟩:∃y,g.columns[j]? =some y:=⟨g.columns[j]'(by omega),List.getElem?_eq_getElem _⟩
 obtain⟨b5,o5,ea5,hr5⟩:=B5.at hrep.columns hxx;obtain⟨b6,o6,ea6,hr6⟩:=B5.at hrep3.columns hyy;refine⟨b5,o5,ea5,aC,aC,x.kind,.imm (aZ.part hr5 1 1),b6,o6,ea6,aC,aC,y.kind,.imm (aZ.part hr6 1 1),aB (λh7=>cbad λht=>?_) (λh7=>?_)⟩
 .obtain⟨_,_,x',y',e1,e2,e3⟩:=ht;rw[hxx]at e1;rw[hyy]at e2;cases e1;cases e2;rw[e3]at h7;simp at h7
 .exact⟨(i,k,j+1,w,gv,rv.columns),⟨rfl,rfl,rfl,rfl,rfl,by show j+1<=r.columns.length;omega,hg3.succ hc (by show ED t g (List.take j r.columns).length c;rw[htl];exact⟨aC,aC,x,y,hxx,hyy,by simpa using h7⟩)⟩,by show r.columns.length-(j+1)<r.columns.length-j;omega,MT⟩
theorem R7:Sound Tryz.prog 112 WY:=by
 refine iB Tryz.func112 ?_;rintro cvs m h K ⟨v,s,rfl,hs,hg,hK⟩;refine⟨Ws v m h,rfl,aF,Hj v m h K,by kernel_rfl,?_⟩;exact Yq hs hg hK
theorem Zi{v:aW}{t:vL}(hs:gI h s v)(hgood:Good AE s.tables)(hx:s.tables[i]? =some t)(hK:∀r:Bool,(r=true↔BX s.tables [] t)->K (cB r) m h):J4 v i m h K:=by
 dsimp only[J4,push_cast];have hl:=hs.tables.slen;have hlen:=hs.tables.len;have hil:i<s.tables.length:=(List.getElem?_eq_some_iff.1 hx).1;have hf:¬BX s.tables [] t->K (.val (.bool false)) m h:=λh=>hK false ⟨λe=>(by cases e),λe=>(h e).elim⟩;obtain⟨b,o,w,ea,hr,hrep⟩:=hs.tables.at hx;have hcl:=bZ.slen hrep.columns;have hrl:=bZ.slen hrep.refs;have hrb:=bZ.len hrep.refs;refine⟨b,o,ea,aC,aC,w,.imm hr,λ⟨k,w'⟩=>w'=w/\k<=t.refs.length/\eE (WZ s.tables t) t.refs k,λ⟨k,_⟩=>t.refs.length-k,⟨(0,w),⟨rfl,aC,.zero⟩,MT⟩,?_⟩;rintro⟨k,w⟩ ⟨rfl,hk,hg2⟩;dsimp only;refine aE (λhlt2=>?_) (λhge2=>hK true ⟨λ_=>hg2.all aC,λ_=>rfl⟩);obtain⟨r,hrx⟩:=fG hrl hlt2;obtain⟨b2,o2,rv,ea2,hr2,hrep2⟩:=hrep.refs.at hrx;have rcl:=hrep2.columns.slen;have rcb:=hrep2.columns.len;have rt:=hrep2.table;have bad:¬WZ s.tables t (t.refs.take k) r->K (.val (.bool false)) m h:=λhn=>hf (Good.not hrx hn);refine⟨b2,o2,ea2,aC,hlt2,rv,.imm hr2,aE (λh1=>bad λht=>?_) (λh1=>aE (λh2=>bad λht=>?_) (λh2=>?_))⟩
 .have:=ht.1;omega
 .have:=ht.2.1;omega
 obtain⟨g,b3,o3,gv,hgx,ea3,hr3,hrep3⟩:=hs.table (t:=rv.table) aC aC;have gcl:=bZ.slen hrep3.columns;have hkey:=hgood.key_le hgx;have gk:=hrep3.key;refine⟨b3,o3,ea3,aC,aC,gv.key,.imm (aZ.part hr3 2 1),aB (λh3=>bad λht=>?_) (λh3=>?_)⟩
 .obtain⟨_,_,g',hg',hk',_⟩:=ht;rw[<-rt,hgx]at hg';cases hg';have:(rv.columns.len:Int)≠gv.key:=by simpa using h3
  omega
 have h3:(rv.columns.len:Int)=gv.key:=by simpa using h3
 refine⟨λ⟨k',j,w',r'⟩=>k'=k/\w'=w/\r'=rv/\j<=r.columns.length/\eE (λpre c=>ED t g pre.length c) r.columns j,λ⟨_,j,_,_⟩=>r.columns.length-j,⟨(k,0,w,rv),⟨rfl,rfl,rfl,aC,.zero⟩,MT⟩,?_⟩;rintro⟨k,j,w,rv⟩ ⟨rfl,rfl,rfl,hj,hg3⟩;dsimp only;refine aE (λhlt3=>?_) (λhge3=>⟨(k+1,w),⟨rfl,by show k+1<=t.refs.length;omega,hg2.succ hrx ⟨aC,aC,g,by rw[<-rt];exact hgx,aC,hg3.all aC⟩⟩,by show t.refs.length-(k+1)<t.refs.length-k;omega,MT⟩);obtain⟨c,hc⟩:=fG rcl hlt3;obtain⟨b4,o4,ea4,hr4⟩:=hrep2.columns.at' hc;have htl:=Ol hc
 have cbad:¬ED t g j c->K (.val (.bool false)) m h:=λhn=>bad λht=>by
  obtain⟨_,_,g',hg',_,hgo⟩:=ht;rw[<-rt,hgx]at hg';cases hg';have:=hgo j c hc;dsimp only at this;rw[htl]at this;exact hn this
 refine⟨b4,o4,ea4,aC,hlt3,c,.imm hr4,aE (λh5=>cbad λht=>?_) (λh5=>aE (λh6=>cbad λht=>?_) (λh6=>?_))⟩
 .have:=ht.1;omega
 .have:=ht.2.1;omega
 obtain⟨x,hxx⟩:∃x,t.columns[c.toNat]? =some x:=⟨t.columns[c.toNat]'(by omega),List.getElem?_eq_getElem _⟩
 obtain⟨y,hyy⟩:∃y,g.columns[j]? =some y:=⟨g.columns[j]'(by omega),List.getElem?_eq_getElem _⟩
 obtain⟨b5,o5,ea5,hr5⟩:=B5.at hrep.columns hxx;obtain⟨b6,o6,ea6,hr6⟩:=B5.at hrep3.columns hyy;refine⟨b5,o5,ea5,aC,aC,x.kind,.imm (aZ.part hr5 1 1),b3,o3,ea3,aC,aC,gv.columns,.imm (aZ.part hr3 1 1),b6,o6,ea6,aC,aC,y.kind,.imm (aZ.part hr6 1 1),aB (λh7=>cbad λht=>?_) (λh7=>?_)⟩
 .obtain⟨_,_,x',y',e1,e2,e3⟩:=ht;rw[hxx]at e1;rw[hyy]at e2;cases e1;cases e2;rw[e3]at h7;simp at h7
 .exact⟨(k,j+1,w,rv),⟨rfl,rfl,rfl,by show j+1<=r.columns.length;omega,hg3.succ hc (by show ED t g (List.take j r.columns).length c;rw[htl];exact⟨aC,aC,x,y,hxx,hyy,by simpa using h7⟩)⟩,by show r.columns.length-(j+1)<r.columns.length-j;omega,MT⟩
theorem Uq:Sound Tryz.prog 92 TC:=by
 refine iB Tryz.func92 ?_;rintro cvs m h K ⟨v,s,t,i,rfl,hs,hg,hx,hK⟩;refine⟨XE v m h,rfl,aF,J4 v i m h K,by kernel_rfl,?_⟩;exact Zi hs hg hx hK
def KA(t:vL):Prop:=t.columns.length<=8/\t.refs.length<=4/\t.checks.length<=4
def BM(s:oS):Prop:=s.tables.length<=8/\Good (λ_ t=>KA t) s.tables
def H9(s:oS):Prop:=0<=s.version/\s.version<=1000/\Good AE s.tables/\Good (BX s.tables) s.tables
def qO:List Int->Int
 |[]=>0
 |e::r=>if e=0 then qO r else e
def rU(s:oS)(i:Nat):List Int:=match s.tables[i]? with|some t=>t.checks.map (fX (gT s i) [])|none=>[]
theorem vY(a b:List Int)(h:∀e∈a,e=0):qO (a++b)=qO b:=by
 induction a with
 |nil=>rfl
 |cons x a ih=>
  simp only[List.cons_append,qO];rw[if_pos (h x (by simp)),ih λe he=>h e (by simp[he])]
theorem Aj(a:List Int)(h:∀e∈a,e=0):qO a=0:=by
 have:=vY a [] h;simpa[qO]using this
theorem HY{n:Nat}{f:Nat->List Int}{e:Int}(hi:i<n)(h1:∀j<i,∀x∈f j,x=0)(h2:∀x∈(f i).take k,x=0)(h3:(f i)[k]? =some e)(he:e≠0):qO ((List.range n).flatMap f)=e:=by
 obtain⟨r,rfl⟩:∃r,n=i+(1+r):=⟨n-i-1,aC⟩
 rw[List.range_add,List.flatMap_append,vY]
 .rw[show(List.range (1+r)).map (i+ ·)=i::(List.range' (i+1) r)from ?_,List.flatMap_cons, <-List.take_append_drop k (f i),List.append_assoc,vY _ _ h2,drop_cons h3]
  .simp[qO,he]
  .rw[Nat.add_comm 1 r,List.range_succ_eq_map];simp[List.range'_eq_map_range,Nat.add_assoc,Nat.add_comm 1]
 .intro x hx;obtain⟨j,hj,hx⟩:=List.mem_flatMap.1 hx;exact h1 j (List.mem_range.1 hj) x hx
open Classical in
noncomputable def eK(s:oS):Int:=if BM s then(if H9 s then qO ((List.range s.tables.length).flatMap (rU s))else 70)else 2
def AG:Vc.Spec:=λcvs m h K=>∃v s,cvs=[aS v]/\gI h s v/\K (cI (eK s)) m h
noncomputable def XL(v:aW)(m:MH)(h:PH):Ctx:=
 dM [(111,W4),(112,WY),(72,vN),(113,rO)] [(4,{A:=Nat,st:=λi=>cE 83 84 [(1,.at (.ptr 1 0)),(16,sv v.tables),(17,iv v.tables.len),(18,iv i)] [(1,.cells 43 (v.enc.map .val))] m h}),
  (12,{A:=Nat×PH,st:=λ⟨i,hx⟩=>cE 83 84 [(1,.at (.ptr 1 0)),(58,sv v.tables),(59,iv v.tables.len),(60,iv i)] [(1,.cells 43 (v.enc.map .val))] m hx}),
  (16,{A:=Nat×Nat×Sl×Sl×PH,st:=λ⟨i,k,ks,cs,hx⟩=>cE 83 84 [(1,.at (.ptr 1 0)),(7,sv ks),(58,sv v.tables),(59,iv v.tables.len),(60,iv i),(69,sv cs),(70,iv cs.len),(71,iv k)] [(1,.cells 43 (v.enc.map .val))] m hx})] [] [] false
noncomputable def XU(v:aW)(m:MH)(h:PH):Ctx:=
 dM [(91,WN),(92,TC),(44,vN),(69,rO)] [(4,{A:=Nat,st:=λi=>cE 96 97 [(1,.at (.ptr 1 0)),(16,sv v.tables),(17,iv v.tables.len),(18,iv i)] [(1,.cells 43 (v.enc.map .val))] m h}),
  (12,{A:=Nat,st:=λi=>cE 96 97 [(1,.at (.ptr 1 0)),(49,iv v.tables.len),(50,iv i)] [(1,.cells 43 (v.enc.map .val))] m h}),
  (18,{A:=Nat,st:=λi=>cE 96 97 [(1,.at (.ptr 1 0)),(60,iv v.tables.len),(61,iv i)] [(1,.cells 43 (v.enc.map .val))] m h}),
  (24,{A:=Nat×PH,st:=λ⟨i,hx⟩=>cE 96 97 [(1,.at (.ptr 1 0)),(71,iv v.tables.len),(72,iv i)] [(1,.cells 43 (v.enc.map .val))] m hx}),
  (27,{A:=Nat×Nat×Sl×PH,st:=λ⟨i,k,cs,hx⟩=>cE 96 97 [(1,.at (.ptr 1 0)),(7,iv i),(71,iv v.tables.len),(72,iv i),(80,sv cs),(81,iv cs.len),(82,iv k)] [(1,.cells 43 (v.enc.map .val))] m hx})] [] [] false
abbrev Bj(a:List CV)(b:Nat->Nat->Option Value)(c:Sl->PH->Prop):Prop:=kG (λx x1=>∃(x2:Int),aA (a=aY (bI x) x2) (gI b x1 x) (oU x1/\cC (λx3 x4=>bJ b x4 (Ints x4 x3 (gT x1 x2)) (c x3 x4))))
noncomputable abbrev uL(a:Nat×Nat×Sl×Sl×PH):Sl:=a.2.2.2.1
noncomputable abbrev zC(a:Nat×Nat×Sl×Sl×PH):Nat->Nat->Option Value:=a.2.2.2.2
abbrev Da(a:List CV)(b:PH)(c:(List Int)->(List Int)->Pred->Prop):Prop:=jT (λx x1=>∃(x2:PV),pF (λx3 x4=>∃(x5:Pred),aA (a=cW x::aT (cW x1) (cY x2)) (Ints b x x3) (aA (Ints b x1 x4) (eJ b x5 x2) (c x3 x4 x5))))
attribute [push_cast] Bj uL zC Da
def J6(v:aW)(m:MH)(h:PH)(K:CV->MH->PH->Prop):Prop:=
  eB (gP v) 8 (K (eH 2) m h) (nU (λI x=>aA (I x) eM (aA (nF v) (gR v) (aA (bD x) (bV v) (aA (m=m) (h=h) True)))) (λI m1 x=>C3 (I x) x v (λb o y=>aM m h b (bM o x 5) (uV y)/\cR (decide (AW y>8)) (K (eH 2) m h) (decide (aG y.references>4)) (K (eH 2) m h) (eB (aG y.checks) 4 (K (eH 2) m h) (∃(x1:Nat),aA (I x1) (m1 x1<m1 x) (aA eM (nF v) (aA (gR v) (fM (bE x 1)=bX x1) (aA (bV v) (m=m) (cQ h h))))))) (bC v.version 0 (K (eH 70) m h) (eB v.version 1000 (K (eH 70) m h) (kG (λv1 s=>aA (kA (bI v)=kA (bI v1)) (gI h s v1) (∀(r:Bool),hX (dX r↔Good AE s.tables) (!r) (K (eH 70) m h) (kG (λv2 s1=>aA (kA (bI v)=kA (bI v2)) (gI h s1 v2) (Good AE s1.tables/\∀(r1:Bool),hX
 (dX r1↔Good (BX s1.tables) s1.tables) (!r1) (K (eH 70) m h) (∃(I1:Nat×PH->Prop)(m2:Nat×PH->Nat),(∃(x1:Nat×PH),aA (I1 x1) eM (aA (nF v) (gR v) (aA (bD x1.1) (bV v) (aA (m=m) (h=x1.2) True))))/\∀(x1:Nat×PH),C3 (I1 x1) x1.1 v (λb o y=>aM m x1.2 b (bM o x1.1 5) (uV y)/\Bj (aY (bI v) (↑x1.1:Int)) x1.2 (λs2 h1=>∃(I2:Nat×Nat×Sl×Sl×PH->Prop)(m3:Nat×Nat×Sl×Sl×PH->Nat),(∃(x2:Nat×Nat×Sl×Sl×PH),aA (I2 x2) eM (aA (bK s2 x2.2.2.1) (nF v) (aA (gR v) (bP x1.1 x2.1) (aA (bK y.checks (uL x2)) (bL y.checks (uL x2)) (aA (bD x2.2.1) (bV v) (aA (m=m) (h1=zC x2) True))))))/\∀(x2:Nat×Nat×Sl×Sl×PH),I2 x2->bC (↑x2.2.1:Int) (aG (uL x2)) (aU (λb1 o1=>aA (aX (uL
 x2).a b1 o1) (0<=(↑x2.2.1:Int)) ((↑x2.2.1:Int)<aG (uL x2)/\∃(y1:PV),aM m (zC x2) b1 (bM o1 x2.2.1 13) y1.enc/\Da (cW x2.2.2.1::aT mW (cY y1)) (zC x2) (λc p p1=>dT (fX c p p1) 0 (K (eH (fX c p p1)) m (zC x2)) (∃(x3:Nat×Nat×Sl×Sl×PH),aA (I2 x3) (m3 x3<m3 x2) (aA eM (bK x2.2.2.1 x3.2.2.1) (aA (nF v) (gR v) (aA (bP x2.1 x3.1) (bK (uL x2) (uL x3)) (aA (bL (uL x2) (uL x3)) (fM (bE x2.2.1 1)=bX x3.2.1) (aA (bV v) (m=m) (cQ (zC x2) (zC x3)))))))))))) (∃(x3:Nat×PH),aA (I1 x3) (m2 x3<m2 x1) (aA eM (nF v) (aA (gR v) (fM (bE x2.1 1)=bX x3.1) (aA (bV v) (m=m) (cQ (zC x2) x3.2))))))) (K (eH 0) m x1.2))))))))))))
abbrev IS(a:oS)(b:Nat)(c:vL):Prop:=a.tables[b]? =Option.some c
noncomputable abbrev uM(a:Nat×Nat×Sl×PH):Sl:=a.2.2.1
attribute [push_cast] IS uM
def J8(v:aW)(m:MH)(h:PH)(K:CV->MH->PH->Prop):Prop:=
  eB (gP v) 8 (K (eH 2) m h) (nU (λI x=>aA (I x) eM (aA (nF v) (gR v) (aA (bD x) (bV v) (aA (m=m) (h=h) True)))) (λI m1 x=>C3 (I x) x v (λb o y=>aM m h b (bM o x 5) (uV y)/\cR (decide (AW y>8)) (K (eH 2) m h) (decide (aG y.references>4)) (K (eH 2) m h) (eB (aG y.checks) 4 (K (eH 2) m h) (∃(x1:Nat),aA (I x1) (m1 x1<m1 x) (aA eM (nF v) (aA (gR v) (fM (bE x 1)=bX x1) (aA (bV v) (m=m) (cQ h h))))))) (bC v.version 0 (K (eH 70) m h) (eB v.version 1000 (K (eH 70) m h) (nU (λI1 x1=>aA (I1 x1) eM (aA (gR v) (bD x1) (cT (bV v) m m h h))) (λI1 m2 x1=>I1 x1->bC (↑x1:Int) (aG v.tables) (kG (λv1 s=>∃(t:vL)(i:Nat),aA (aY (bI v) (↑x1:Int)=aY (bI v1) (↑i:Int)) (gI h
 s v1) (IS s i t/\∀(r:Bool),(dX r↔AE (List.take i s.tables) t)->iF (!r) (K (eH 70) m h) (λx2=>aA (I1 x2) (m2 x2<m2 x1) (aA eM (gR v) (aA (fM (bE x1 1)=bX x2) (bV v) (aA (m=m) (h=h) True))))))) (nU (λI2 x2=>aA (I2 x2) eM (aA (gR v) (bD x2) (cT (bV v) m m h h))) (λI2 m3 x2=>I2 x2->bC (↑x2:Int) (aG v.tables) (kG (λv1 s=>∃(t:vL)(i:Nat),aA (aY (bI v) (↑x2:Int)=aY (bI v1) (↑i:Int)) (gI h s v1) (aA (Good AE s.tables) (IS s i t) (∀(r:Bool),(dX r↔BX s.tables [] t)->iF (!r) (K (eH 70) m h) (λx3=>aA (I2 x3) (m3 x3<m3 x2) (aA eM (gR v) (aA (fM (bE x2 1)=bX x3) (bV v) (aA (m=m) (h=h) True)))))))) (∃(I3:Nat×PH->Prop)(m4:Nat×PH->Nat),(∃(x3:Nat×PH),aA (I3 x3) eM
 (aA (gR v) (bD x3.1) (cT (bV v) m m h x3.2)))/\∀(x3:Nat×PH),I3 x3->bC (↑x3.1:Int) (aG v.tables) (aU (λb o=>aA (aX (qG v) b o) (0<=(↑x3.1:Int)) ((↑x3.1:Int)<aG v.tables/\∃(y:Sl),aM m x3.2 b (bM o x3.1 5+4) (aR y)/\∃(I4:Nat×Nat×Sl×PH->Prop)(m5:Nat×Nat×Sl×PH->Nat),(∃(x4:Nat×Nat×Sl×PH),aA (I4 x4) eM (aA (bP x3.1 x4.1) (gR v) (aA (bP x3.1 x4.1) (bK y (uM x4)) (aA (bL y (uM x4)) (bD x4.2.1) (cT (bV v) m m x3.2 x4.2.2.2)))))/\∀(x4:Nat×Nat×Sl×PH),I4 x4->bC (↑x4.2.1:Int) (aG (uM x4)) (aU (λb1 o1=>aA (aX (uM x4).a b1 o1) (0<=(↑x4.2.1:Int)) ((↑x4.2.1:Int)<aG (uM x4)/\∃(y1:PV),aM m x4.2.2.2 b1 (bM o1 x4.2.1 13) y1.enc/\Bj (aY (bI v) (↑x4.1:Int))
 x4.2.2.2 (λs h1=>Da (cW s::aT mW (cY y1)) h1 (λc p p1=>dT (fX c p p1) 0 (K (eH (fX c p p1)) m h1) (∃(x5:Nat×Nat×Sl×PH),aA (I4 x5) (m5 x5<m5 x4) (aA eM (bP x4.1 x5.1) (aA (gR v) (bP x4.1 x5.1) (aA (bK (uM x4) (uM x5)) (bL (uM x4) (uM x5)) (aA (fM (bE x4.2.1 1)=bX x5.2.1) (bV v) (aA (m=m) (h1=x5.2.2.2) True))))))))))) (∃(x5:Nat×PH),aA (I3 x5) (m4 x5<m4 x3) (aA eM (gR v) (aA (fM (bE x4.1 1)=bX x5.1) (bV v) (aA (m=m) (x4.2.2.2=x5.2) True))))))) (K (eH 0) m x3.2))))))))))
theorem kO.out{hx:PH}{r:CV}(hm:Sub m m')(hle:PH.le h hx)(hK:K r m h):kO h K r m' hx:=⟨m,h,hm,.refl _,hle,hK⟩
theorem tO(h:¬BM s):eK s=2:=by unfold eK;rw[if_neg h]
theorem Js(h:BM s)(h':¬H9 s):eK s=70:=by unfold eK;rw[if_pos h,if_neg h']
theorem Gw(h:BM s)(h':H9 s):eK s=qO ((List.range s.tables.length).flatMap (rU s)):=by unfold eK;rw[if_pos h,if_pos h']
theorem AL{t:vL}(hx:s.tables[i]? =some t)(hp:t.checks[k]? =some p):(rU s i)[k]? =some (fX (gT s i) [] p):=by
 unfold rU;rw[hx];simp[hp]
theorem HD{t:vL}(hx:s.tables[i]? =some t):(rU s i).length=t.checks.length:=by
 unfold rU;rw[hx];simp
theorem K7{e:Int}(hk:l[k]? =some e)(h:∀x∈l.take k,x=0)(he:e=0):∀x∈l.take (k+1),x=0:=by
 intro x hx;rw[List.take_add_one,hk,List.mem_append]at hx;rcases hx with hx|hx
 .exact h x hx
 .simp at hx;rw[hx,he]
theorem Ob{f:Nat->List Int}(h:∀j<i,∀x∈f j,x=0)(hl:(f i).length<=k)(h2:∀x∈(f i).take k,x=0):∀j<i+1,∀x∈f j,x=0:=by
 intro j hj x hx;by_cases e:j=i
 .subst e;rw[List.take_of_length_le hl]at h2;exact h2 x hx
 .exact h j aC x hx
theorem LD:Sound Tryz.prog 79 AG:=by
 refine FW Tryz.func79 ?_;rintro cvs m h K ⟨v,s,rfl,hs,hK⟩;refine⟨XL v m h,rfl,aD R8 (aD R7 (aD LF (aD Km aF))),J6 v m h (kO h K),by kernel_rfl,?_⟩;show J6 v m h (kO h K);dsimp only[J6,push_cast];have hl:=hs.tables.slen;have hlen:=hs.tables.len;have hver:=hs.version;have out:∀(hx:PH)(x:Int),PH.le h hx->eK s=x->kO h K (.val (.int .i64 x)) m hx:=λhx x hle e=>.out (Sub.refl m) hle (by rw[<-e];exact hK);refine aE (λh1=>out h _ (.refl _) (tO λe=>by have:=e.1;omega)) (λh1=>?_);refine⟨λi=>i<=s.tables.length/\eE (λ_ t=>KA t) s.tables i,λi=>s.tables.length-i,⟨0,⟨aC,.zero⟩,MT⟩,λi⟨hi,hg⟩=>aE (λhlt=>?_) (λhge=>?_)⟩
 .obtain⟨t,hx⟩:=fG hl hlt;obtain⟨b,o,w,ea,hr,hrep⟩:=hs.tables.at hx;have e1:=bZ.slen hrep.columns;have e2:=bZ.slen hrep.refs;have e3:=bZ.slen hrep.checks;have bad:¬KA t->kO h K (.val (.int .i64 2)) m h:=λhn=>out h _ (.refl _) (tO λe=>Good.not hx hn e.2);refine⟨b,o,ea,aC,hlt,w,.imm hr,aE (λh2=>bad λe=>?_) (λh2=>aE (λh3=>bad λe=>?_) (λh3=>aE (λh4=>bad λe=>?_) (λh4=>⟨i+1,⟨aC,hg.succ hx ⟨aC,aC,aC⟩⟩,by show s.tables.length-(i+1)<s.tables.length-i;omega,MT⟩)))⟩
  .have:=e.1;omega
  .have:=e.2.1;omega
  .have:=e.2.2;omega
 have lim:BM s:=⟨aC,hg.all aC⟩
 have h8:oU s:=λt ht=>by
  obtain⟨j,hj⟩:=List.mem_iff_getElem?.1 ht;exact(lim.2 j t hj).1
 have bad:¬H9 s->kO h K (.val (.int .i64 70)) m h:=λhn=>out h _ (.refl _) (Js lim hn);refine aE (λh2=>bad λe=>?_) (λh2=>aE (λh3=>bad λe=>?_) (λh3=>⟨v,s,rfl,hs,λr hr=>aB (λh4=>bad λe=>?_) (λh4=>⟨v,s,rfl,hs,hr.1 (by simpa using h4),λr2 hr2=>aB (λh5=>bad λe=>?_) (λh5=>?_)⟩)⟩))
 .have:=e.1;omega
 .have:=e.2.1;omega
 .rw[hr.2 e.2.2.1]at h4;cases h4
 .rw[hr2.2 e.2.2.2]at h5;cases h5
 have ok:H9 s:=⟨aC,aC,hr.1 (by simpa using h4),hr2.1 (by simpa using h5)⟩
 rw[Gw lim ok]at out;refine⟨λ⟨i,hx⟩=>i<=s.tables.length/\PH.le h hx/\∀j<i,∀x∈rU s j,x=0,λ⟨i,_⟩=>s.tables.length-i,⟨(0,h),⟨aC,.refl _,λj hj=>by omega⟩,MT⟩,?_⟩;rintro⟨i,hx⟩ ⟨hi,hle,hz⟩;dsimp only;refine aE (λhlt=>?_) (λhge=>out hx _ hle (Aj _ λe he=>?_))
 .obtain⟨t,ht⟩:=fG hl hlt;obtain⟨b,o,w,ea,hr,hrep⟩:=(hs.mono hle).tables.at ht;have cl:=bZ.slen hrep.checks;have cb:=bZ.len hrep.checks;refine⟨b,o,ea,aC,hlt,w,.imm hr,v,s,i,rfl,hs.mono hle,h8,λsl h' hle' hints=>?_⟩;refine⟨λ⟨i',k,ks,cs,hy⟩=>i'=i/\cs=w.checks/\k<=t.checks.length/\PH.le h' hy/\Ints hy ks (gT s i)/\∀x∈(rU s i).take k,x=0,λ⟨_,k,_,_,_⟩=>t.checks.length-k,⟨(i,0,sl,w.checks,h'),⟨rfl,rfl,aC,.refl _,hints,λx hx=>by simp at hx⟩,MT⟩,?_⟩;rintro⟨i,k,ks,_,hy⟩ ⟨rfl,rfl,hk,hle2,hints2,hz2⟩;dsimp only;have hlh:PH.le h hy:=(hle.trans hle').trans hle2;refine aE (λhlt2=>?_) (λhge2=>⟨(i+1,hy),⟨aC,hlh,Ob hz (k:=k) (by rw[HD ht];omega) hz2⟩,by show s.tables.length-(i+1)<s.tables.length-i;omega,MT⟩);obtain⟨p,hp⟩:=fG cl hlt2;obtain⟨b2,o2,pv,ea2,hr2',hrep2⟩:=((hrep.checks.mono hle').mono hle2).at hp;refine⟨b2,o2,ea2,aC,hlt2,pv,.imm hr2',ks,⟨none,0,0⟩,pv,gT s i,[],p,rfl,hints2,⟨.nil _ _,by simp⟩,hrep2,aB (λh6=>?_) (λh6=>?_)⟩
  .exact out hy _ hlh (HY aC hz hz2 (AL ht hp) (by simpa using h6))
  .exact⟨(i,k+1,ks,w.checks,hy),⟨rfl,rfl,by show k+1<=t.checks.length;omega,hle2,hints2,K7 (AL ht hp) hz2 (by simpa using h6)⟩,by show t.checks.length-(k+1)<t.checks.length-k;omega,MT⟩
 .obtain⟨j,hj,hx⟩:=List.mem_flatMap.1 he;exact hz j (by have:=List.mem_range.1 hj;omega) e hx
theorem UA:Sound Tryz.prog 63 AG:=by
 refine FW Tryz.func63 ?_;rintro cvs m h K ⟨v,s,rfl,hs,hK⟩;refine⟨XU v m h,rfl,aD Ur (aD Uq (aD DB (aD GY aF))),J8 v m h (kO h K),by kernel_rfl,?_⟩;show J8 v m h (kO h K);dsimp only[J8,push_cast];have hl:=hs.tables.slen;have hlen:=hs.tables.len;have hver:=hs.version;have out:∀(hx:PH)(x:Int),PH.le h hx->eK s=x->kO h K (.val (.int .i64 x)) m hx:=λhx x hle e=>.out (Sub.refl m) hle (by rw[<-e];exact hK);refine aE (λh1=>out h _ (.refl _) (tO λe=>by have:=e.1;omega)) (λh1=>?_);refine⟨λi=>i<=s.tables.length/\eE (λ_ t=>KA t) s.tables i,λi=>s.tables.length-i,⟨0,⟨aC,.zero⟩,MT⟩,λi⟨hi,hg⟩=>aE (λhlt=>?_) (λhge=>?_)⟩
 .obtain⟨t,hx⟩:=fG hl hlt;obtain⟨b,o,w,ea,hr,hrep⟩:=hs.tables.at hx;have e1:=bZ.slen hrep.columns;have e2:=bZ.slen hrep.refs;have e3:=bZ.slen hrep.checks;have bad:¬KA t->kO h K (.val (.int .i64 2)) m h:=λhn=>out h _ (.refl _) (tO λe=>Good.not hx hn e.2);refine⟨b,o,ea,aC,hlt,w,.imm hr,aE (λh2=>bad λe=>?_) (λh2=>aE (λh3=>bad λe=>?_) (λh3=>aE (λh4=>bad λe=>?_) (λh4=>⟨i+1,⟨aC,hg.succ hx ⟨aC,aC,aC⟩⟩,by show s.tables.length-(i+1)<s.tables.length-i;omega,MT⟩)))⟩
  .have:=e.1;omega
  .have:=e.2.1;omega
  .have:=e.2.2;omega
 have lim:BM s:=⟨aC,hg.all aC⟩
 have h8:oU s:=λt ht=>by
  obtain⟨j,hj⟩:=List.mem_iff_getElem?.1 ht;exact(lim.2 j t hj).1
 have bad:¬H9 s->kO h K (.val (.int .i64 70)) m h:=λhn=>out h _ (.refl _) (Js lim hn);refine aE (λh2=>bad λe=>?_) (λh2=>aE (λh3=>bad λe=>?_) (λh3=>?_))
 .have:=e.1;omega
 .have:=e.2.1;omega
 clear hi hg hge;refine⟨λi=>i<=s.tables.length/\eE AE s.tables i,λi=>s.tables.length-i,⟨0,⟨aC,.zero⟩,MT⟩,λi⟨hi,hg⟩=>aE (λhlt=>?_) (λhge=>?_)⟩
 .obtain⟨t,hx⟩:=fG hl hlt;refine⟨v,s,t,i,rfl,hs,hx,λr hr=>aB (λh4=>bad λe=>?_) (λh4=>⟨i+1,⟨aC,hg.succ hx (hr.1 (by simpa using h4))⟩,by show s.tables.length-(i+1)<s.tables.length-i;omega,MT⟩)⟩;rw[hr.2 (e.2.2.1 i t hx)]at h4;cases h4
 have good:=hg.all aC;clear hi hg hge;refine⟨λi=>i<=s.tables.length/\eE (BX s.tables) s.tables i,λi=>s.tables.length-i,⟨0,⟨aC,.zero⟩,MT⟩,λi⟨hi,hg⟩=>aE (λhlt=>?_) (λhge=>?_)⟩
 .obtain⟨t,hx⟩:=fG hl hlt;refine⟨v,s,t,i,rfl,hs,good,hx,λr hr=>aB (λh4=>bad λe=>?_) (λh4=>⟨i+1,⟨aC,hg.succ hx (hr.1 (by simpa using h4))⟩,by show s.tables.length-(i+1)<s.tables.length-i;omega,MT⟩)⟩;rw[hr.2 (e.2.2.2 i t hx)]at h4;cases h4
 have good2:=hg.all aC;clear hi hg hge;have ok:H9 s:=⟨aC,aC,good,good2⟩
 rw[Gw lim ok]at out;refine⟨λ⟨i,hx⟩=>i<=s.tables.length/\PH.le h hx/\∀j<i,∀x∈rU s j,x=0,λ⟨i,_⟩=>s.tables.length-i,⟨(0,h),⟨aC,.refl _,λj hj=>by omega⟩,MT⟩,?_⟩;rintro⟨i,hx⟩ ⟨hi,hle,hz⟩;dsimp only;refine aE (λhlt=>?_) (λhge=>out hx _ hle (Aj _ λe he=>?_))
 .obtain⟨t,ht⟩:=fG hl hlt;obtain⟨b,o,w,ea,hr,hrep⟩:=(hs.mono hle).tables.at ht;have cl:=bZ.slen hrep.checks;have cb:=bZ.len hrep.checks;refine⟨b,o,ea,aC,hlt,w.checks,.imm (aZ.part hr 4 1),?_⟩;refine⟨λ⟨i',k,cs,hy⟩=>i'=i/\cs=w.checks/\k<=t.checks.length/\PH.le hx hy/\∀x∈(rU s i).take k,x=0,λ⟨_,k,_,_⟩=>t.checks.length-k,⟨(i,0,w.checks,hx),⟨rfl,rfl,aC,.refl _,λx hx=>by simp at hx⟩,MT⟩,?_⟩;rintro⟨i,k,_,hy⟩ ⟨rfl,rfl,hk,hle2,hz2⟩;dsimp only;have hlh:PH.le h hy:=hle.trans hle2;refine aE (λhlt2=>?_) (λhge2=>⟨(i+1,hy),⟨aC,hlh,Ob hz (k:=k) (by rw[HD ht];omega) hz2⟩,by show s.tables.length-(i+1)<s.tables.length-i;omega,MT⟩);obtain⟨p,hp⟩:=fG cl hlt2;obtain⟨b2,o2,pv,ea2,hr2',hrep2⟩:=(hrep.checks.mono hle2).at hp;refine⟨b2,o2,ea2,aC,hlt2,pv,.imm hr2',v,s,i,rfl,hs.mono hlh,h8,λsl h' hle' hints=>⟨sl,⟨none,0,0⟩,pv,gT s i,[],p,rfl,hints,⟨.nil _ _,by simp⟩,hrep2.mono hle',aB (λh6=>?_) (λh6=>?_)⟩⟩
  .exact out h' _ (hlh.trans hle') (HY aC hz hz2 (AL ht hp) (by simpa using h6))
  .exact⟨(i,k+1,w.checks,h'),⟨rfl,rfl,by show k+1<=t.checks.length;omega,hle2.trans hle',K7 (AL ht hp) hz2 (by simpa using h6)⟩,by show t.checks.length-(k+1)<t.checks.length-k;omega,MT⟩
 .obtain⟨j,hj,hx⟩:=List.mem_flatMap.1 he;exact hz j (by have:=List.mem_range.1 hj;omega) e hx
mutual
def oW:Query->Int->Int
 |.mk _ _ _ _ _ _ _ _ args,n=>lE args (n+1)
def lE:List Query->Int->Int
 |[],n=>n
 |p::ps,n=>if n<=24 then lE ps (oW p n)else n
end
mutual
def mE:Query->Nat->Bool
 |.mk _ _ _ _ _ _ _ _ _,0=>true
 |.mk _ _ _ _ _ _ _ _ args,n+1=>tD args n
def tD:List Query->Nat->Bool
 |[],_=>false
 |p::ps,n=>mE p n||tD ps n
end
mutual
theorem E5:∀(p:Query)(n:Int),n<=24->n<oW p n/\oW p n<=25
 |.mk _ _ _ _ _ _ _ _ args,n,h=>by
  have:=D2 args (n+1) aC;simp only[oW];omega
theorem D2:∀(ps:List Query)(n:Int),n<=25->n<=lE ps n/\lE ps n<=25
 |[],n,h=>by simp only[lE];omega
 |p::ps,n,h=>by
  simp only[lE];split
  .rename_i h1;have h2:=E5 p n h1;have h3:=D2 ps (oW p n) h2.2;omega
  .omega
end
theorem Nd(ps:List Query){n:Int}(h:¬n<=24):lE ps n=n:=by
 cases ps
 .simp[lE]
 .simp only[lE,if_neg h]
theorem F9(n:Nat):∀ps:List Query,tD ps n=ps.any (mE · n)
 |[]=>by simp[tD]
 |p::ps=>by simp[tD,F9 n ps]
theorem dA.args{p:Query}(r:dA h p v):zX h v.args p.args:=by
 cases p;exact r.parts.args_
def iR(q:Query):Bool:=decide (oW q 0<=24)&& !mE q 8
def arity(op:Int):Int:=
 if op==1 then 0 else if op==2||op==3||op==9 then 1 else if op==4||op==5||op==6||op==7||op==8||op==10 then 2 else-1
def N1(N:Nat):Vc.Spec:=λcvs m h K=>∃v p k,cvs=[aQ v,cI k,cI 24]/\dA h p v/\SizeOf.sizeOf p<N/\0<=k/\k<=24/\K (cI (oW p k)) m h
def KM(N:Nat):Vc.Spec:=λcvs m h K=>∃v p,∃k:Nat,cvs=[aQ v,cI k]/\dA h p v/\SizeOf.sizeOf p<N/\k<=100/\K (cB (mE p k)) m h
def NX:Vc.Spec:=λcvs m h K=>∃v p,cvs=[aQ v]/\dA h p v/\K (cB (iR p)) m h
def SH:Vc.Spec:=λcvs m h K=>∃op,cvs=[cI op]/\K (cI (arity op)) m h
def Cx(l:List Int)(n:Int):Bool:=decide (0<=n)&&decide (n<l.length)
def ZP:Vc.Spec:=λcvs m h K=>∃s l n,cvs=[cS s,cI n]/\Ints h s l/\K (cB (Cx l n)) m h
noncomputable def XR(N:Nat)(v:QV)(m:MH)(h:PH):Ctx:=
 dM [(66,N1 N)] [(3,{A:=Nat×Int,st:=λx=>cE 31 34 [(1,iv x.2),(2,iv 24),(3,.at (.ptr 3 0)),(7,iv x.1)] [(3,.cells 38 (v.enc.map .val))] m h})] [] [] false
noncomputable def XQ(N:Nat)(v:QV)(k:Nat)(m:MH)(h:PH):Ctx:=
 dM [(67,KM N)] [(4,{A:=Nat,st:=λi=>cE 23 25 [(1,iv k),(2,.at (.ptr 2 0)),(10,iv v.args.len),(11,iv i)] [(2,.cells 38 (v.enc.map .val))] m h})] [] [] false
abbrev fD(a:QV):Prop:=eQ (qB 38 a.enc)
attribute [push_cast] fD
def Py(N:Nat)(v:QV)(k:Int)(m:MH)(h:PH)(K:CV->MH->PH->Prop):Prop:=
  ∃(I:Nat×Int->Prop)(m1:Nat×Int->Nat),(∃(x:Nat×Int),aA (I x) (cG (dV (k+1)) x.2) (aA (eQ (fM 24)) (eP 3) (aA (bD x.1) (fD v) (aA (m=m) (h=h) True))))/\∀(x:Nat×Int),I x->bC (↑x.1:Int) (aG v.args) (Ci x.2 24 (aU (λb o=>aA (aX v.args.a b o) (0<=(↑x.1:Int)) ((↑x.1:Int)<aG v.args/\∃(y:QV),aM m h b (bM o x.1 21) y.enc/\pE (λv1 p=>∃(k1:Int),aA (cN y::aY (eH x.2) 24=cN v1::aY (eH k1) 24) (dA h p v1) (aA (rC p N) (cD k1) (k1<=24/\∃(x1:Nat×Int),aA (I x1) (m1 x1<m1 x) (aA (cG (oW p k1) x1.2) (eQ (fM 24)) (aA (eP 3) (fM (bE x.1 1)=bX x1.1) (aA (fD v) (m=m) (cQ h h)))))))))) (K (eH x.2) m h)) (K (eH x.2) m h)
def Px(N:Nat)(v:QV)(k:Nat)(m:MH)(h:PH)(K:CV->MH->PH->Prop):Prop:=
  dL (↑k:Int) 0 (K fH m h) (nU (λI x=>aA (I x) (eQ (bX k)) (aA (eP 2) (bN v.args) (aA (bD x) (fD v) (aA (m=m) (h=h) True)))) (λI m1 x=>I x->bC (↑x:Int) (aG v.args) (aU (λb o=>aA (aX v.args.a b o) (0<=(↑x:Int)) ((↑x:Int)<aG v.args/\∃(y:QV),aM m h b (bM o x 21) y.enc/\pE (λv1 p=>Fa (aY (cN y) (dV ((↑k:Int)-1))) (cN v1) (dA h p v1) (rC p N) (λk1=>iF (mE p k1) (K fH m h) (λx1=>aA (I x1) (m1 x1<m1 x) (aA (eQ (bX k)) (eP 2) (aA (bN v.args) (fM (bE x 1)=bX x1) (aA (fD v) (m=m) (cQ h h)))))))))) (K bB m h)))
def PM(N:Nat)(v:QV)(m:MH)(h:PH)(K:CV->MH->PH->Prop):Prop:=
  pE (λv1 p=>∃(k:Int),aA (cN v::aY (eH 0) 24=cN v1::aY (eH k) 24) (dA h p v1) (aA (rC p N) (cD k) (k<=24/\Ci (oW p k) 24 (pE (λv2 p1=>Fa (aY (cN v) 8) (cN v2) (dA h p1 v2) (rC p1 N) (λk1=>K (CV.val (Value.bool (!(mE p1 k1)))) m h))) (K bB m h))))
def Pe(op:Int)(m:MH)(h:PH)(K:CV->MH->PH->Prop):Prop:=
  cR (op==1) (K (eH 0) m h) (op==2) (K (eH 1) m h) (cR (op==3) (K (eH 1) m h) (op==9) (K (eH 1) m h) (cR (op==4) (K (eH 2) m h) (op==5) (K (eH 2) m h) (cR (op==6) (K (eH 2) m h) (op==7) (K (eH 2) m h) (cR (op==8) (K (eH 2) m h) (op==10) (K (eH 2) m h) (K (eH (Int.negSucc 0)) m h)))))
def Mk(s:Sl)(n:Int)(m:MH)(h:PH)(K:CV->MH->PH->Prop):Prop:=
  fR n 0 (K (AB (decide (n<aG s))) m h) (K bB m h)
theorem Tl:∀N,Sound Tryz.prog 66 (N1 N)
 |0=>by
  refine eD (fn:=Tryz.f66) (c:=dJ Tryz.f66) Tryz.func66 rfl (by decide) ?_;rintro cvs m h K ⟨v,p,k,rfl,hr,hN,_⟩;omega
 |N+1=>by
  refine iB Tryz.func66 ?_;rintro cvs m h K ⟨v,p,k,rfl,hr,hN,h0,h1,hK⟩;refine⟨XR N v m h,rfl,aD (Tl N) aF,Py N v k m h K,by kernel_rfl,?_⟩;dsimp only[Py,push_cast];have hargs:=hr.args;have hlen:=hargs.slen;have hl:=hargs.len;refine⟨λx=>x.1<=p.args.length/\0<=x.2/\x.2<=25/\lE (p.args.drop x.1) x.2=oW p k,λx=>p.args.length-x.1,⟨(0,k+1),⟨by simp,by simp;omega,by simp;omega,?_⟩,?_⟩,?_⟩
  .cases p;simp[oW,Query.args]
  .rw[dW aC aC];exact MT
  rintro⟨i,n⟩ ⟨hi,hn0,hn1,he⟩;dsimp only at hi hn0 hn1 he⊢
  refine aE (λhlt=>aE (λhn=>?_) (λhn=>wH hK ?_)) (λhge=>wH hK ?_)
  .obtain⟨q,hq⟩:=fG hlen hlt;obtain⟨b,o,u,ea,hrd,hru⟩:=hargs.at hq;have hb:=E5 q n hn;rw[drop_cons hq,lE,if_pos hn]at he;refine⟨b,o,ea,aC,hlt,u,.imm hrd,u,q,n,rfl,hru,?_,hn0,hn,(i+1,oW q n),⟨by dsimp only;omega,by dsimp only;omega,by dsimp only;omega,he⟩,by dsimp only;omega,MT⟩;have:=Cd (List.mem_of_getElem? hq);omega
  .rw[<-he,Nd _ hn]
  .rw[<-he,List.drop_of_length_le aC];simp[lE]
theorem Tk:∀N,Sound Tryz.prog 67 (KM N)
 |0=>by
  refine eD (fn:=Tryz.f67) (c:=dJ Tryz.f67) Tryz.func67 rfl (by decide) ?_;rintro cvs m h K ⟨v,p,k,rfl,hr,hN,_⟩;omega
 |N+1=>by
  refine iB Tryz.func67 ?_;rintro cvs m h K ⟨v,p,k,rfl,hr,hN,h1,hK⟩;refine⟨XQ N v k m h,rfl,aD (Tk N) aF,Px N v k m h K,by kernel_rfl,?_⟩;dsimp only[Px,push_cast];have hargs:=hr.args;have hlen:=hargs.slen;have hl:=hargs.len;refine aB (λhk=>gO hK ?_) (λhk=>?_)
  .have:k=0:=by have:(k:Int)=0:=(by simpa using hk);omega
   subst this;cases p;simp[mE]
  .have hk:k≠0:=by intro e;subst e;simp at hk
   have hdk:mE p k=p.args.any (mE · (k-1)):=by
    obtain⟨k',rfl⟩:∃k',k=k'+1:=⟨k-1,aC⟩
    cases p;simp[mE,F9,Query.args]
   rw[hdk]at hK;refine⟨λi=>i<=p.args.length/\(p.args.take i).any (mE · (k-1))=false,λi=>p.args.length-i,⟨0,⟨aC,by simp⟩,MT⟩,λi hi=>aE (λhlt=>?_) (λhge=>gO hK ?_)⟩
   .obtain⟨q,hq⟩:=fG hlen hlt;obtain⟨b,o,u,ea,hrd,hru⟩:=hargs.at hq;refine⟨b,o,ea,aC,hlt,u,.imm hrd,u,q,k-1,?_,hru,?_,aC,aB (λhd=>gO hK ?_) (λhd=>?_)⟩
    .rw[dW aC aC,show((k-1:Nat):Int)=(k:Int)-1 by omega]
    .have:=Cd (List.mem_of_getElem? hq);omega
    .rw[List.any_eq_true];exact⟨q,List.mem_of_getElem? hq,hd⟩
    .refine⟨i+1,⟨aC,?_⟩,by show p.args.length-(i+1)<p.args.length-i;omega,MT⟩;rw[List.take_add_one,List.any_append,hi.2,hq];simpa using hd
   .have:=hi.2
    rwa [List.take_of_length_le aC]at this
theorem LK:Sound Tryz.prog 28 NX:=by
 refine iB Tryz.func28 ?_;rintro cvs m h K ⟨v,p,rfl,hr,hK⟩;refine⟨dM [(66,N1 (SizeOf.sizeOf p+1)),(67,KM (SizeOf.sizeOf p+1))] [] [] [] false,rfl,aD (Tl _) (aD (Tk _) aF),PM (SizeOf.sizeOf p+1) v m h K,by kernel_rfl,?_⟩;dsimp only[PM,push_cast];refine⟨v,p,0,rfl,hr,aC,aC,aC,aB (λh1=>⟨v,p,8,rfl,hr,aC,aC,gO hK ?_⟩) (λh1=>gO hK ?_)⟩
 .simp only[iR,h1,Bool.true_and]
 .simp only[iR,h1,Bool.false_and]
theorem LA:Sound Tryz.prog 94 SH:=by
 refine iB Tryz.func94 ?_;rintro cvs m h K ⟨op,rfl,hK⟩;refine⟨dM [] [] [] [] false,rfl,aF,Pe op m h K,by kernel_rfl,?_⟩;dsimp only[Pe,push_cast]
 repeat' (first|(refine aB (λ_=>?_) (λ_=>?_))|(refine wH hK ?_;simp only[arity];simp only[*,Bool.or_false,Bool.false_or,Bool.or_true,Bool.true_or,Bool.and_true,Bool.true_and,Bool.and_false,Bool.false_and,Bool.not_true,Bool.not_false,Bool.false_eq_true,if_true,if_false, ↓reduceIte];done)|(refine wH hK ?_;simp only[arity];simp only[*,Bool.or_false,Bool.false_or,Bool.or_true,Bool.true_or,Bool.and_true,Bool.true_and,Bool.and_false,Bool.false_and,Bool.not_true,Bool.not_false,Bool.false_eq_true,if_true,if_false, ↓reduceIte];rfl))
theorem Ew:Sound Tryz.prog 124 ZP:=by
 refine iB Tryz.func124 ?_;rintro cvs m h K ⟨s,l,n,rfl,hs,hK⟩;refine⟨dM [] [] [] [] false,rfl,aF,Mk s n m h K,by kernel_rfl,?_⟩;dsimp only[Mk,push_cast];have hl:=hs.slen;refine aE (λh1=>gO hK ?_) (λh1=>gO hK ?_)
 .have h1:0<=n:=h1;simp only[Cx,hl,decide_eq_true h1,Bool.true_and]
 .have h1:¬0<=n:=by omega
  simp only[Cx,decide_eq_false h1,Bool.false_and]
def tG(a b:List Int)(pre:List (Int×Int))(p:Int×Int):Prop:=Cx a p.1=true/\Cx b p.2=true/\a.getD p.1.toNat 0=b.getD p.2.toNat 0/\∀q∈pre,q.1≠p.1/\q.2≠p.2
def Hx(a:List Int)(pre:List Int)(c:Int):Prop:=Cx a c=true/\c∉pre
def KG(a:List Int)(_:List (Int×Bool))(o:Int×Bool):Prop:=Cx a o.1=true
structure v8(a:List Int)(group:List Int)(order:List (Int×Bool))(limit:Int):Prop where
 group_:Good (Hx a) group
 order_:Good (KG a) order
 len_:order.length<=12
 low:0<=limit
 high:limit<=100
def TF:Vc.Spec:=λcvs m h K=>∃s t u on a b,cvs=[cS s,cS t,cS u]/\lK h s on/\Ints h t a/\Ints h u b/\∀r:Bool,(r=true↔Good (tG a b) on)->K (cB r) m h
def TD:Vc.Spec:=λcvs m h K=>∃v t g o a,cvs=[aQ v,cS t]/\Ints h v.group g/\iJ h v.order o/\Ints h t a/\∀r:Bool,(r=true↔v8 a g o v.limit)->K (cB r) m h
noncomputable def Wo(s t u:Sl)(m:MH)(h:PH):Ctx:=
 dM [(124,ZP)] [(2,{A:=Nat,st:=λi=>cE 66 69 [(0,sv s),(1,sv t),(2,sv u),(10,sv s),(11,iv s.len),(12,iv i)] [] m h}),
  (7,{A:=Nat×Nat×(Int×Int),st:=λ⟨i,k,p⟩=>cE 66 69 [(0,sv s),(1,sv t),(2,sv u),(7,iv i),(8,.at (.ptr 8 0)),(9,iv k),(10,sv s),(11,iv s.len),(12,iv i)] [(8,.cells 69 [.val (.int .i64 p.1),.val (.int .i64 p.2)])] m h})] [] [] false
noncomputable def Wn(v:QV)(t:Sl)(m:MH)(h:PH):Ctx:=
 dM [(124,ZP)] [(2,{A:=Nat,st:=λi=>cE 62 64 [(1,sv t),(2,.at (.ptr 2 0)),(11,sv v.group),(12,iv v.group.len),(13,iv i)] [(2,.cells 38 (v.enc.map .val))] m h}),
  (7,{A:=Nat×Nat×Int,st:=λ⟨i,k,c⟩=>cE 62 64 [(1,sv t),(2,.at (.ptr 2 0)),(5,iv i),(6,iv c),(7,iv k),(11,sv v.group),(12,iv v.group.len),(13,iv i)] [(2,.cells 38 (v.enc.map .val))] m h}),
  (13,{A:=Nat,st:=λi=>cE 62 64 [(1,sv t),(2,.at (.ptr 2 0)),(36,sv v.order),(37,iv v.order.len),(38,iv i)] [(2,.cells 38 (v.enc.map .val))] m h})] [] [] false
abbrev C9(a:Sl)(b:Int)(c:Nat->Nat->Option Value)(d:(List Int)->Int->Prop):Prop:=Cn (λx x1=>∃(x2:Int),aA (aY (cW a) b=aY (cW x) x2) (Ints c x x1) (d x1 x2))
abbrev Bf(a b:List At):Prop:=oQ 69 a=oQ 69 b
noncomputable abbrev qU(a:Int×Int):List At:=wB a.1 (jE a.2)
attribute [push_cast] C9 Bf qU
def Mj(s t u:Sl)(m:MH)(h:PH)(K:CV->MH->PH->Prop):Prop:=
  nU (λI x=>aA (I x) (aJ s) (aA (aJ t) (aJ u) (aA (aJ s) (bN s) (aA (bD x) (m=m) (cQ h h))))) (λI m1 x=>I x->bC (↑x:Int) (aG s) (aU (λb o=>aA (aX s.a b o) (0<=(↑x:Int)) ((↑x:Int)<aG s/\∃(y:Int×Int),aA (aM m h b (bM o x 2) (sT y)) ((0:Int)<=0) ((0:Int)<2/\C9 t y.1 h (λl n=>gA (Cx l n) (K bB m h) (aA (cD 1) ((1:Int)<2) (C9 u y.2 h (λl1 n1=>gA (Cx l1 n1) (K bB m h) (aA (cD 0) ((0:Int)<2) (aU (λb1 o1=>aA (aX t.a b1 o1) (0<=y.1) (y.1<aG t/\∃(y1:Int),aA (aM m h b1 (fN o1 y.1 1) (bT y1)) ((0:Int)<=1) ((1:Int)<2/\aU (λb2 o2=>aA (aX u.a b2 o2) (0<=y.2) (y.2<aG u/\∃(y2:Int),aM m h b2 (fN o2 y.2 1) (bT y2)/\dT y1 y2 (K bB m h) (∃(I1:Nat×Nat
 ×Int×Int->Prop)(m2:Nat×Nat×Int×Int->Nat),(∃(x1:Nat×Nat×Int×Int),aA (I1 x1) (aJ s) (aA (aJ t) (aJ u) (aA (bP x x1.1) (eP 8) (aA (bD x1.2.1) (aJ s) (aA (bN s) (bP x x1.1) (aA (Bf (qU y) (qU x1.2.2)) (m=m) (cQ h h)))))))/\∀(x1:Nat×Nat×Int×Int),I1 x1->bC (↑x1.2.1:Int) (↑x1.1:Int) (aU (λb3 o3=>aA (aX s.a b3 o3) (cD (↑x1.2.1:Int)) (aA ((↑x1.2.1:Int)<aG s) (cD 0) ((0:Int)<2/\∃(y3:Int),aA (aM m h b3 (bM o3 x1.2.1 2+0) (bT y3)) ((0:Int)<=0) ((0:Int)<2/\dL y3 x1.2.2.1 (K bB m h) (aU (λb4 o4=>aA (aX s.a b4 o4) (cD (↑x1.2.1:Int)) (aA ((↑x1.2.1:Int)<aG s) (cD 1) ((1:Int)<2/\∃(y4:Int),aA (aM m h b4 (bM o4 x1.2.1 2+1) (bT y4)) ((0:Int)<=1) ((1:Int)<2/\dL y4
 x1.2.2.2 (K bB m h) (∃(x2:Nat×Nat×Int×Int),aA (I1 x2) (m2 x2<m2 x1) (aA (aJ s) (aJ t) (aA (aJ u) (bP x1.1 x2.1) (aA (eP 8) (fM (bE x1.2.1 1)=bX x2.2.1) (aA (aJ s) (bN s) (aA (bP x1.1 x2.1) (Bf (qU x1.2.2) (qU x2.2.2)) (dR m m h h))))))))))))))))) (∃(x2:Nat),aA (I x2) (m1 x2<m1 x) (aA (aJ s) (aJ t) (aA (aJ u) (aJ s) (aA (bN s) (fM (bE x1.1 1)=bX x2) (dR m m h h))))))))))))))))))))) (K fH m h))
def Mi(v:QV)(t:Sl)(m:MH)(h:PH)(K:CV->MH->PH->Prop):Prop:=
  nU (λI x=>aA (I x) (aJ t) (aA (eP 2) (aJ v.group) (aA (bN v.group) (bD x) (aA (fD v) (m=m) (cQ h h))))) (λI m1 x=>I x->bC (↑x:Int) (aG v.group) (aU (λb o=>aA (aX v.group.a b o) (0<=(↑x:Int)) ((↑x:Int)<aG v.group/\∃(y:Int),aM m h b (bM o x 1) (bT y)/\C9 t y h (λl n=>gA (Cx l n) (K bB m h) (∃(I1:Nat×Nat×Int->Prop)(m2:Nat×Nat×Int->Nat),(∃(x1:Nat×Nat×Int),aA (I1 x1) (aJ t) (aA (eP 2) (bP x x1.1) (aA (cG y x1.2.2) (bD x1.2.1) (aA (aJ v.group) (bN v.group) (aA (bP x x1.1) (fD v) (aA (m=m) (h=h) True))))))/\∀(x1:Nat×Nat×Int),I1 x1->bC (↑x1.2.1:Int) (↑x1.1:Int) (aU (λb1 o1=>aA (aX v.group.a b1 o1) (0<=(↑x1.2.1:Int)) ((↑x1.2.1:Int)<aG v.group/\∃(y1:Int),aM m h b1
 (bM o1 x1.2.1 1) (bT y1)/\dL y1 x1.2.2 (K bB m h) (∃(x2:Nat×Nat×Int),aA (I1 x2) (m2 x2<m2 x1) (aA (aJ t) (eP 2) (aA (bP x1.1 x2.1) (cG x1.2.2 x2.2.2) (aA (fM (bE x1.2.1 1)=bX x2.2.1) (aJ v.group) (aA (bN v.group) (bP x1.1 x2.1) (aA (fD v) (m=m) (cQ h h)))))))))) (∃(x2:Nat),aA (I x2) (m1 x2<m1 x) (aA (aJ t) (eP 2) (aA (aJ v.group) (bN v.group) (aA (fM (bE x1.1 1)=bX x2) (fD v) (dR m m h h)))))))))) (nU (λI1 x1=>aA (I1 x1) (aJ t) (aA (eP 2) (aJ v.order) (aA (bN v.order) (bD x1) (aA (fD v) (m=m) (cQ h h))))) (λI1 m2 x1=>I1 x1->bC (↑x1:Int) (aG v.order) (aU (λb o=>aA (aX v.order.a b o) (0<=(↑x1:Int)) ((↑x1:Int)<aG v.order/\∃(y:Int×Bool),aM m h b (bM o x1 2) (yY y)/\C9 t y.1 h
 (λl n=>iF (!(Cx l n)) (K bB m h) (λx2=>aA (I1 x2) (m2 x2<m2 x1) (aA (aJ t) (eP 2) (aA (aJ v.order) (bN v.order) (aA (fM (bE x1 1)=bX x2) (fD v) (dR m m h h))))))))) (Ci (aG v.order) 12 (fR v.limit 0 (K (AB (decide (v.limit<=100))) m h) (K bB m h)) (K bB m h)))))
theorem JR{α:Type}{l:List α}{x:α}(hx:l[i]? =some x)(hi:i<k):x∈l.take k:=List.mem_of_getElem? (i:=i) (by rw[List.getElem?_take,if_pos hi,hx])
theorem Oj{α:Type}{l:List α}{x y:α}(hx:l[i]? =some x)(hy:y∈l.take (i+1)):y∈l.take i\/y=x:=by
 rw[List.take_add_one,hx,List.mem_append]at hy;rcases hy with h|h
 .exact .inl h
 .simp at h;exact .inr h
theorem kL{n:Int}:Cx l n=true↔0<=n/\n<l.length:=by simp[Cx]
theorem RZ:Sound Tryz.prog 125 TF:=by
 refine iB Tryz.func125 ?_;rintro cvs m h K ⟨s,t,u,on,a,b,rfl,hs,ht,hu,hK⟩;refine⟨Wo s t u m h,rfl,aD Ew aF,Mj s t u m h K,by kernel_rfl,?_⟩;dsimp only[Mj,push_cast];have hl:=hs.slen;have hlen:=hs.len;have ta:=ht.slen;have ub:=hu.slen;refine⟨λi=>i<=on.length/\eE (tG a b) on i,λi=>on.length-i,⟨0,⟨aC,.zero⟩,MT⟩,λi⟨hi,hg⟩=>aE (λhlt=>?_) (λhge=>hK true ⟨λ_=>hg.all aC,λ_=>rfl⟩)⟩;obtain⟨p,hp⟩:=fG hl hlt;obtain⟨b1,o1,e1,r1⟩:=hs.at hp;have bad:¬tG a b (on.take i) p->K (.val (.bool false)) m h:=λhn=>hK false ⟨λe=>(by cases e),λe=>(Good.not hp hn e).elim⟩;refine⟨b1,o1,e1,aC,hlt,p,.imm r1,aC,aC,t,a,p.1,rfl,ht,aB (λh1=>bad λhh=>?_) (λh1=>⟨aC,aC,u,b,p.2,rfl,hu,aB (λh2=>bad λhh=>?_) (λh2=>?_)⟩)⟩
 .rw[hh.1]at h1;cases h1
 .rw[hh.2.1]at h2;cases h2
 have i1:Cx a p.1=true:=by simpa using h1
 have i2:Cx b p.2=true:=by simpa using h2
 have i1':=kL.1 i1;have i2':=kL.1 i2;obtain⟨b2,o2,e2,r2⟩:=ht.inb i1'.1 i1'.2;obtain⟨b3,o3,e3,r3⟩:=hu.inb i2'.1 i2'.2;refine⟨aC,aC,b2,o2,e2,aC,aC,_,.imm r2,aC,aC,b3,o3,e3,aC,aC,_,.imm r3,aB (λh3=>bad λhh=>?_) (λh3=>?_)⟩
 .rw[hh.2.2.1]at h3;simp at h3
 refine⟨λ⟨i',k,p'⟩=>i'=i/\p'=p/\k<=i/\∀q∈on.take k,q.1≠p.1/\q.2≠p.2,λ⟨_,k,_⟩=>i-k,⟨(i,0,p),⟨rfl,rfl,aC,λq hq=>by simp at hq⟩,MT⟩,?_⟩;rintro⟨i,k,p⟩ ⟨rfl,rfl,hk,hno⟩;dsimp only;refine aE (λhlt2=>?_) (λhge2=>?_)
 .obtain⟨q,hq⟩:∃q,on[k]? =some q:=⟨on[k]'(by omega),List.getElem?_eq_getElem _⟩
  obtain⟨b4,o4,e4,r4⟩:=hs.at hq;refine⟨b4,o4,e4,aC,aC,aC,aC,q.1,.imm (aZ.part r4 0 1),aC,aC,aB (λh4=>bad λhh=>?_) (λh4=>⟨b4,o4,e4,aC,aC,aC,aC,q.2,.imm (aZ.part r4 1 1),aC,aC,aB (λh5=>bad λhh=>?_) (λh5=>?_)⟩)⟩
  .exact(hh.2.2.2 q (JR hq aC)).1 (by simpa using h4)
  .exact(hh.2.2.2 q (JR hq aC)).2 (by simpa using h5)
  .refine⟨(i,k+1,p),⟨rfl,rfl,by show k+1<=i;omega,λq' hq'=>?_⟩,by show i-(k+1)<i-k;omega,MT⟩;rcases Oj hq hq' with e|rfl
   .exact hno q' e
   .exact⟨by simpa using h4,by simpa using h5⟩
 .have:k=i:=by omega
  subst this;exact⟨k+1,⟨aC,hg.succ hp ⟨i1,i2,by simpa using h3,hno⟩⟩,by show on.length-(k+1)<on.length-k;omega,MT⟩
theorem RY:Sound Tryz.prog 126 TD:=by
 refine iB Tryz.func126 ?_;rintro cvs m h K ⟨v,t,g,o,a,rfl,hg,ho,ht,hK⟩;refine⟨Wn v t m h,rfl,aD Ew aF,Mi v t m h K,by kernel_rfl,?_⟩;dsimp only[Mi,push_cast];have gl:=hg.slen;have glen:=hg.len;have ol:=ho.slen;have olen:=ho.len;have bad:¬v8 a g o v.limit->K (.val (.bool false)) m h:=λhn=>hK false ⟨λe=>(by cases e),λe=>(hn e).elim⟩;refine⟨λi=>i<=g.length/\eE (Hx a) g i,λi=>g.length-i,⟨0,⟨aC,.zero⟩,MT⟩,λi⟨hi,hgi⟩=>aE (λhlt=>?_) (λhge=>?_)⟩
 .obtain⟨c,hc⟩:=fG gl hlt;obtain⟨b1,o1,e1,r1⟩:=hg.at' hc;refine⟨b1,o1,e1,aC,hlt,c,.imm r1,t,a,c,rfl,ht,aB (λh1=>bad λhh=>Good.not hc (λhx=>?_) hh.group_) (λh1=>?_)⟩
  .rw[hx.1]at h1;cases h1
  refine⟨λ⟨i',k,c'⟩=>i'=i/\c'=c/\k<=i/\c∉g.take k,λ⟨_,k,_⟩=>i-k,⟨(i,0,c),⟨rfl,rfl,aC,by simp⟩,MT⟩,?_⟩;rintro⟨i,k,c⟩ ⟨rfl,rfl,hk,hno⟩;dsimp only;refine aE (λhlt2=>?_) (λhge2=>?_)
  .obtain⟨q,hq⟩:∃q,g[k]? =some q:=⟨g[k]'(by omega),List.getElem?_eq_getElem _⟩
   obtain⟨b4,o4,e4,r4⟩:=hg.at' hq;refine⟨b4,o4,e4,aC,aC,q,.imm r4,aB (λh4=>bad λhh=>Good.not hc (λhx=>?_) hh.group_) (λh4=>?_)⟩
   .refine hx.2 ?_;have:q=c:=by simpa using h4
    rw[<-this];exact JR hq aC
   .refine⟨(i,k+1,c),⟨rfl,rfl,by show k+1<=i;omega,λhq'=>?_⟩,by show i-(k+1)<i-k;omega,MT⟩;rcases Oj hq hq' with e|rfl
    .exact hno e
    .simp at h4
  .have:k=i:=by omega
   subst this;exact⟨k+1,⟨aC,hgi.succ hc ⟨by simpa using h1,hno⟩⟩,by show g.length-(k+1)<g.length-k;omega,MT⟩
 have gg:=hgi.all aC;clear hi hgi hge;refine⟨λi=>i<=o.length/\eE (KG a) o i,λi=>o.length-i,⟨0,⟨aC,.zero⟩,MT⟩,λi⟨hi,hoi⟩=>aE (λhlt=>?_) (λhge=>?_)⟩
 .obtain⟨c,hc⟩:=fG ol hlt;obtain⟨b1,o1,e1,r1⟩:=ho.at hc;refine⟨b1,o1,e1,aC,hlt,c,.imm r1,t,a,c.1,rfl,ht,aB (λh1=>bad λhh=>Good.not hc (λhx=>?_) hh.order_) (λh1=>⟨i+1,⟨aC,hoi.succ hc (by simpa[KG]using h1)⟩,by show o.length-(i+1)<o.length-i;omega,MT⟩)⟩;rw[show Cx a c.1=true from hx]at h1;cases h1
 have oo:=hoi.all aC;refine aE (λh1=>aE (λh2=>?_) (λh2=>bad λhh=>?_)) (λh1=>bad λhh=>?_)
 .refine hK (decide (v.limit<=100)) ⟨λe=>⟨gg,oo,aC,h2,by simpa using e⟩,λe=>decide_eq_true e.high⟩
 .have:=hh.low;omega
 .have:=hh.len_;omega
def hZ:Pred:=.mk 0 0 cM cM []
def dE:Query->Prop
 |.mk op ta w co on gr od li _=>(op=1\/ta=0)/\(op=2\/w=hZ)/\(op=3\/co=[])/\(op=4\/op=5\/on=[])/\(op=9\/op=10\/(gr=[]/\od=[]/\li=0))
def Ah(l:List Int):List Int×Int:=if l.length<=12 then(l,0)else([],2)
def iY(e:Int):List Int×Int:=([],e)
open Classical in
noncomputable def iC(s:oS)(ps:List Int)(q:Query)(a b:List Int):List Int×Int:=
 if arity (match q with|.mk op .. =>op)<0\/¬dE q then iY 100 else
 match q with
 |.mk op ta w co on gr od li _=>
  if op=1 then(if 0<=ta/\ta<s.tables.length then Ah (gT s ta)else iY 100)
  else if op=2 then(if fX a ps w=0 then Ah a else iY (fX a ps w))
  else if op=3 then(if co≠[]/\Good (λ_ c=>Cx a c=true) co then Ah (co.map λc=>a.getD c.toNat 0)else iY 100)
  else if op=4 then(if Good (tG a b) on then Ah (a++b)else iY 100)
  else if op=5 then(if Good (tG a b) on then Ah a else iY 100)
  else if op=9 then(if v8 a gr od li then Ah a else iY 100)
  else if op=10 then(if a=b/\v8 a gr od li then Ah a else iY 100)
  else(if a=b then Ah a else iY 100)
def Ty:Vc.Spec:=λcvs m h K=>∃v q,cvs=[aQ v]/\dA h q v/\∀r:Bool,(r=true↔dE q)->K (cB r) m h
def KR(K:CV->MH->PH->Prop)(m:MH)(h:PH)(r:List Int×Int):Prop:=∀sl h',PH.le h h'->Ints h' sl r.1->K (.tup [cS sl,cI r.2]) m h'
def YS:Vc.Spec:=λcvs m h K=>∃sc p v a b s ps q la lb,cvs=[aS sc,cS p,aQ v,cS a,cS b]/\gI h s sc/\oU s/\Ints h p ps/\dA h q v/\Ints h a la/\Ints h b lb/\la.length<=12/\lb.length<=12/\KR K m h (iC s ps q la lb)
noncomputable def XD(m:MH):Ctx:=
 dM [(94,SH),(123,Ty),(44,vN),(69,rO),(124,ZP),(125,TF),(126,TD),(127,AH)] [(20,{A:=Nat×Sl×Sl×List Int×PH,st:=λ⟨i,a,co,l,h⟩=>cE 121 126 [(3,sv a),(12,.at (.lst 94)),(78,sv co),(79,iv co.len),(80,iv i)] [(94,.lst 3 1 (l.map eI))] m h})] [] [] false
noncomputable def Wp(v:QV)(m:MH)(h:PH):Ctx:=
 ZS [(163,YF)] [] [(2,{A:=Bool,st:=λr=>cE 78 79 [(1,.at (.ptr 1 0)),(3,bv r)] [(1,.cells 38 (v.enc.map .val))] m h})] [(2,[(9,{A:=Bool×Bool,st:=λx=>cE 78 79 [(1,.at (.ptr 1 0)),(3,bv x.1),(20,bv x.2)] [(1,.cells 38 (v.enc.map .val))] m h}),
  (11,{A:=Bool×Bool,st:=λx=>cE 78 79 [(1,.at (.ptr 1 0)),(3,bv x.1),(31,bv x.2)] [(1,.cells 38 (v.enc.map .val))] m h}),
  (11,{A:=Bool×Bool,st:=λx=>cE 78 79 [(1,.at (.ptr 1 0)),(3,bv x.1),(42,bv x.2)] [(1,.cells 38 (v.enc.map .val))] m h}),
  (16,{A:=Bool×Bool,st:=λx=>cE 78 79 [(1,.at (.ptr 1 0)),(3,bv x.1),(58,bv x.2)] [(1,.cells 38 (v.enc.map .val))] m h})])] [] false
abbrev gC(a b:Bool):Prop:=Z0 a=Z0 b
abbrev tR(a:Bool):Prop:=gC true a
abbrev Ft(a:Prop)(b:(Bool×Bool->Prop)->Prop)(c:(Bool×Bool->Prop)->(Bool×Bool)->Prop):Prop:=a->∃(x:Bool×Bool->Prop),b x/\∀(x1:Bool×Bool),c x x1
noncomputable abbrev iN:List Value:=iP vO
noncomputable abbrev IN(a:Value):List Value:=aI a aK (aI aK HB iN)
abbrev C8(a:Bool×Bool->Prop)(b:Bool×Bool)(c:(Bool×Bool)->Prop)(d:QV)(e:MH)(g:PH):Prop:=∃(x:Bool×Bool),aA (a x) eM (aA (gC b.1 x.1) (c x) (cT (fD d) e e g g))
abbrev xX(a:Bool):Prop:=gC false a
attribute [push_cast] gC tR Ft iN IN C8 xX
def Ml(v:QV)(m:MH)(h:PH)(K:CV->MH->PH->Prop):Prop:=
  ∃(I:Bool->Prop),dL v.op 9 (∃(x:Bool),aA (I x) eM (aA (tR x) (fD v) (dR m m h h))) (∃(x:Bool),aA (I x) eM (aA (gC (v.op==10) x) (fD v) (dR m m h h)))/\∀(x:Bool),Ft (I x) (λI1=>dL v.op 1 (∃(x1:Bool×Bool),aA (I1 x1) eM (aA (gC x x1.1) (tR x1.2) (cT (fD v) m m h h))) (∃(x1:Bool×Bool),aA (I1 x1) eM (aA (gC x x1.1) (gC (v.table==0) x1.2) (cT (fD v) m m h h)))) (λI1 x1=>Ft (I1 x1) (λI2=>branch x1.2 (dL v.op 2 (∃(x2:Bool×Bool),aA (I2 x2) eM (aA (gC x1.1 x2.1) (tR x2.2) (cT (fD v) m m h h))) (Fs (λv1 w p q=>aA (aT (cY v.where_) (kN (aI aK aK (aI aK aK (aI aK aK (aI HB aK (IN aK))))))=aT (cY v1) (cY w)) (eJ h p v1) (eJ h q w/\∀(r:
 Bool),(dX r↔p=q)->C8 I2 x1 (λx2=>gC r x2.2) v m h)))) (∃(x2:Bool×Bool),aA (I2 x2) eM (aA (gC x1.1 x2.1) (xX x2.2) (cT (fD v) m m h h)))) (λI2 x2=>Ft (I2 x2) (λI3=>branch x2.2 (dL v.op 3 (∃(x3:Bool×Bool),aA (I3 x3) eM (aA (gC x2.1 x3.1) (tR x3.2) (cT (fD v) m m h h))) (C8 I3 x2 (λx3=>gC (aG v.columns==0) x3.2) v m h)) (∃(x3:Bool×Bool),aA (I3 x3) eM (aA (gC x2.1 x3.1) (xX x3.2) (cT (fD v) m m h h)))) (λI3 x3=>Ft (I3 x3) (λI4=>branch x3.2 (cR (v.op==4) (C8 I4 x3 (λx4=>tR x4.2) v m h) (v.op==5) (C8 I4 x3 (λx4=>tR x4.2) v m h) (C8 I4 x3 (λx4=>gC (aG v.on==0) x4.2) v m h)) (∃(x4:Bool×Bool),aA (I4 x4) eM (aA (gC x3.1 x4.1) (xX x4.2) (cT (fD v) m m
 h h)))) (λI4 x4=>hX (I4 x4) x4.2 (cR x4.1 (K fH m h) (aG v.group==0) (dL (aG v.order) 0 (K (AB (v.limit==0)) m h) (K bB m h)) (K bB m h)) (K bB m h)))))
noncomputable abbrev dC(a:Sl):Sl:=Sl.mk a.a a.len a.cap
noncomputable abbrev kE(a:List (List Value)):Int:=(↑a.length:Int)
abbrev wM(a:PH)(b:List (List Value))(c:CV->MH->PH->Prop)(d:MH):Prop:=cC (λx x1=>bJ a x1 (a8 x1 x 1 b) (c (CV.tup (aY (cW x) 0)) d x1))
noncomputable abbrev uN(a:Nat×Sl×Sl×List Int×PH):Sl:=a.2.2.1
noncomputable abbrev yV(a:Nat×Sl×Sl×List Int×PH):List Int:=a.2.2.2.1
noncomputable abbrev uO(a:Nat×Sl×Sl×List Int×PH):Nat->Nat->Option Value:=a.2.2.2.2
abbrev JM(a:Sl->(List (Int×Int))->Prop):Prop:=∃(x:Sl)(x1:List (Int×Int)),a x x1
abbrev sC(a b:List (List Value))(c:Nat):Prop:=fY ((a.length+b.length)*c)
abbrev xW(a:List (List Value))(b:Nat):Prop:=fY (a.length+b)
abbrev sD(a b:List (List Value)):Prop:=xW a b.length
attribute [push_cast] dC kE wM uN yV uO JM sC xW sD
def J3(sc:aW)(p:Sl)(v:QV)(a b:Sl)(m:MH)(h:PH)(K:CV->MH->PH->Prop):Prop:=
  jW v.op (λo=>bC (arity o) 0 (K (CV.tup (aY mW 100)) m h) (pE (λv1 q=>aA (kA (cN v)=kA (cN v1)) (dA h q v1) (∀(r:Bool),hX (dX r↔dE q) (!r) (K (CV.tup (aY mW 100)) m h) (∃(y:List (List Value)),aA (dY 1 y) (a8 h (dC a) 1 y) (aA (fY (y.length*8)) (fY y.length) (cR (v.op==1) (bC v.table 0 (K (CV.tup (aY mW 100)) m h) (fR v.table (gP sc) (K (CV.tup (aY mW 100)) m h) (Bj (aY (bI sc) v.table) h (λs h1=>eB (aG s) 12 (K (CV.tup (aY mW 2)) m h1) (K (CV.tup (aY (cW s) 0)) m h1))))) (v.op==2) (Da (cW a::aT (cW p) (cY v.where_)) h (λc p1 p2=>cR (fX c p1 p2 !=0) (K (CV.tup (aY mW (fX c p1 p2))) m h) (decide (kE y>12)) (K (CV.tup (aY mW 2)) m h) (wM h y K m))) (cR (v.op==3) (dL (aG
 v.columns) 0 (K (CV.tup (aY mW 100)) m h) (∃(I:Nat×Sl×Sl×List Int×PH->Prop)(m1:Nat×Sl×Sl×List Int×PH->Nat),(∃(x:Nat×Sl×Sl×List Int×PH),aA (I x) (bK a x.2.1) (aA (eL 94) (bK v.columns (uN x)) (aA (bL v.columns (uN x)) (bD x.1) (aA (sI (yV x)) (m=m) (cQ h (uO x))))))/\∀(x:Nat×Sl×Sl×List Int×PH),I x->bC (↑x.1:Int) (aG (uN x)) (aU (λb1 o1=>aA (aX (uN x).a b1 o1) (0<=(↑x.1:Int)) ((↑x.1:Int)<aG (uN x)/\∃(y1:Int),aM m (uO x) b1 (bM o1 x.1 1) (bT y1)/\C9 x.2.1 y1 (uO x) (λl n=>gA (Cx l n) (K (CV.tup (aY mW 100)) m (uO x)) (aU (λb2 o2=>aA (aX x.2.1.a b2 o2) (0<=y1) (y1<aG x.2.1/\∃(y2:Int),aA (aM m (uO x) b2 (fN o2 y1 1) (bT y2)) (De (yV x))
 (gS (jP (yV x))/\∃(x1:Nat×Sl×Sl×List Int×PH),aA (I x1) (m1 x1<m1 x) (aA (bK x.2.1 x1.2.1) (eL 94) (aA (bK (uN x) (uN x1)) (bL (uN x) (uN x1)) (aA (fM (bE x.1 1)=bX x1.1) (sJ (yV x) y2 (yV x1)) (dR m m (uO x) (uO x1))))))))))))) (eB (kE (jP (yV x))) 12 (K (CV.tup (aY mW 2)) m (uO x)) (cC (λs h1=>bJ (uO x) h1 (a8 h1 s 1 (jP (yV x))) (K (CV.tup (aY (cW s) 0)) m h1)))))) (v.op==4) (jT (λs t=>JM (λu o1=>pF (λa1 b1=>aA (cW v.on::aT (cW a) (cW b)=cW s::aT (cW t) (cW u)) (lK h s o1) (aA (Ints h t a1) (Ints h u b1) (∀(r1:Bool),(dX r1↔Good (tG a1 b1) o1)->cR (!r1) (K (CV.tup (aY mW 100)) m h) (v.op==4) (∃(y1:List (List Value)),aA (dY 1 y1) (a8 h
 (dC b) 1 y1) (aA (sC y y1 8) (sD y y1) (eB (kE (y++y1)) 12 (K (CV.tup (aY mW 2)) m h) (wM h (y++y1) K m)))) (eB (kE y) 12 (K (CV.tup (aY mW 2)) m h) (wM h y K m)))))))) (cR (v.op==5) (jT (λs t=>JM (λu o1=>pF (λa1 b1=>aA (cW v.on::aT (cW a) (cW b)=cW s::aT (cW t) (cW u)) (lK h s o1) (aA (Ints h t a1) (Ints h u b1) (∀(r1:Bool),(dX r1↔Good (tG a1 b1) o1)->cR (!r1) (K (CV.tup (aY mW 100)) m h) (v.op==4) (∃(y1:List (List Value)),aA (dY 1 y1) (a8 h (dC b) 1 y1) (aA (sC y y1 8) (sD y y1) (eB (kE (y++y1)) 12 (K (CV.tup (aY mW 2)) m h) (wM h (y++y1) K m)))) (eB (kE y) 12 (K (CV.tup (aY mW 2)) m h) (wM h y K m)))))))) (v.op==9) (∃(v2:QV),Cn (λt g=>∃(o1:List (Int×Bool))(a1:List Int),
 aA (aT (cN v) (cW a)=aT (cN v2) (cW t)) (Ints h v2.group g) (aA (iJ h v2.order o1) (Ints h t a1) (∀(r1:Bool),(dX r1↔v8 a1 g o1 v2.limit)->cR (!r1) (K (CV.tup (aY mW 100)) m h) (decide (kE y>12)) (K (CV.tup (aY mW 2)) m h) (wM h y K m))))) (jT (λs t=>pF (λa1 b1=>aA (mO a b=mO s t) (Ints h s a1) (Ints h t b1/\∀(r1:Bool),(dX r1↔a1=b1)->cR (!r1) (K (CV.tup (aY mW 100)) m h) (v.op==10) (∃(v2:QV),Cn (λt1 g=>∃(o1:List (Int×Bool))(a2:List Int),aA (aT (cN v) (cW a)=aT (cN v2) (cW t1)) (Ints h v2.group g) (aA (iJ h v2.order o1) (Ints h t1 a2) (∀(r2:Bool),(dX r2↔v8 a2 g o1 v2.limit)->cR (!r2) (K (CV.tup (aY mW 100)) m h) (decide (kE y>12)) (K (CV.tup (aY mW 2)) m h) (wM h y K m))))) (eB (kE y) 12 (K
 (CV.tup (aY mW 2)) m h) (wM h y K m)))))))))))))))
theorem DX{α:Type}{n:Nat}{l:List α}(h:n=l.length):((n:Int)==0)=true↔l=[]:=by
 rw[beq_iff_eq,h, <-List.length_eq_zero_iff];omega
theorem AQ(h:PH):eJ h hZ ⟨0,0,cM,cM,⟨none,0,0⟩⟩:=eJ.mk (v:=⟨0,0,cM,cM,⟨none,0,0⟩⟩) (.nil _ _ _ _)
theorem R0:Sound Tryz.prog 123 Ty:=by
 refine iB Tryz.func123 ?_;rintro cvs m h K ⟨v,q,rfl,hq,hK⟩;refine⟨Wp v m h,rfl,aD Rx aF,Ml v m h K,by kernel_rfl,?_⟩;dsimp only[Ml,push_cast];obtain⟨op,ta,w,co,on,gr,od,li,args⟩:=q;have a:=hq.parts;have e0:=a.op_;have e1:=a.table_;have e2:=a.limit_;have l1:=DX a.columns_.slen;have l2:=DX a.on_.slen;have l3:=DX a.group_.slen;have l4:=DX a.order_.slen;simp only[dE]at hK;subst e0 e1 e2;refine⟨λr=>(r=true↔v.op=9\/v.op=10),aB (λh1=>⟨true,by simp at h1;simp[h1],MT⟩) (λh1=>⟨_,?_,MT⟩),λr hr=>?_⟩
 .simp only[beq_eq_false_iff_ne]at h1;simp[h1]
 refine⟨λx=>x.1=r/\(x.2=true↔(v.op=1\/v.table=0)),aB (λh1=>⟨(r,true),⟨rfl,by simp at h1;simp[h1]⟩,MT⟩) (λh1=>⟨(r,_),⟨rfl,?_⟩,MT⟩),?_⟩
 .simp only[beq_eq_false_iff_ne]at h1;simp[h1]
 rintro⟨r,c⟩ ⟨rfl,hc⟩;dsimp only at hc hr⊢
 refine⟨λx=>x.1=r/\(x.2=true↔(v.op=1\/v.table=0)/\(v.op=2\/w=hZ)),aB (λh1=>aB (λh2=>⟨(r,true),⟨rfl,⟨λ_=>⟨hc.1 h1,.inl (by simpa using h2)⟩,λ_=>rfl⟩⟩,MT⟩) (λh2=>⟨v.where_,⟨0,0,cM,cM,⟨none,0,0⟩⟩,w,hZ,rfl,a.where_,AQ h,λr' hr'=>⟨(r,r'),⟨rfl,?_⟩,MT⟩⟩)) (λh1=>⟨(r,false),⟨rfl,?_⟩,MT⟩),?_⟩
 .simp only[beq_eq_false_iff_ne]at h2;simp only[hr',hc.1 h1,h2,true_and,false_or]
 .rw[h1]at hc;simp only[Bool.false_eq_true,false_iff]at hc⊢;exactλe=>hc e.1
 clear hc c;rintro⟨r,c⟩ ⟨rfl,hc⟩;dsimp only at hc hr⊢
 refine⟨λx=>x.1=r/\(x.2=true↔(v.op=1\/v.table=0)/\(v.op=2\/w=hZ)/\(v.op=3\/co=[])),aB (λh1=>aB (λh2=>⟨(r,true),⟨rfl,⟨λ_=>⟨(hc.1 h1).1,(hc.1 h1).2,.inl (by simpa using h2)⟩,λ_=>rfl⟩⟩,MT⟩) (λh2=>⟨(r,_),⟨rfl,?_⟩,MT⟩)) (λh1=>⟨(r,false),⟨rfl,?_⟩,MT⟩),?_⟩
 .simp only[beq_eq_false_iff_ne]at h2;simp only[l1,hc.1 h1,h2,true_and,false_or]
 .rw[h1]at hc;simp only[Bool.false_eq_true,false_iff]at hc⊢;exactλe=>hc ⟨e.1,e.2.1⟩
 clear hc c;rintro⟨r,c⟩ ⟨rfl,hc⟩;dsimp only at hc hr⊢
 refine⟨λx=>x.1=r/\(x.2=true↔(v.op=1\/v.table=0)/\(v.op=2\/w=hZ)/\(v.op=3\/co=[])/\(v.op=4\/v.op=5\/on=[])),aB (λh1=>aB (λh2=>⟨(r,true),⟨rfl,⟨λ_=>⟨(hc.1 h1).1,(hc.1 h1).2.1,(hc.1 h1).2.2,.inl (by simpa using h2)⟩,λ_=>rfl⟩⟩,MT⟩) (λh2=>aB (λh3=>⟨(r,true),⟨rfl,⟨λ_=>⟨(hc.1 h1).1,(hc.1 h1).2.1,(hc.1 h1).2.2,.inr (.inl (by simpa using h3))⟩,λ_=>rfl⟩⟩,MT⟩) (λh3=>⟨(r,_),⟨rfl,?_⟩,MT⟩))) (λh1=>⟨(r,false),⟨rfl,?_⟩,MT⟩),?_⟩
 .simp only[beq_eq_false_iff_ne]at h2 h3;simp only[l2,hc.1 h1,h2,h3,true_and,false_or]
 .rw[h1]at hc;simp only[Bool.false_eq_true,false_iff]at hc⊢;exactλe=>hc ⟨e.1,e.2.1,e.2.2.1⟩
 clear hc c;rintro⟨r,c⟩ ⟨rfl,hc⟩;dsimp only at hc hr⊢
 refine aB (λh1=>aB (λh2=>hK true ⟨λ_=>?_,λ_=>rfl⟩) (λh2=>aB (λh3=>aB (λh4=>hK _ ?_) (λh4=>hK false ?_)) (λh3=>hK false ?_))) (λh1=>hK false ?_)
 .obtain⟨p1,p2,p3,p4⟩:=hc.1 h1;refine⟨p1,p2,p3,p4,?_⟩;rcases hr.1 h2 with e|e
  .exact .inl e
  .exact .inr (.inl e)
 .obtain⟨p1,p2,p3,p4⟩:=hc.1 h1;have nr:¬(v.op=9\/v.op=10):=λe=>by rw[hr.2 e]at h2;cases h2
  rw[beq_iff_eq];refine⟨λe=>⟨p1,p2,p3,p4,.inr (.inr ⟨l3.1 h3,l4.1 h4,e⟩)⟩,λe=>?_⟩;rcases e.2.2.2.2 with e|e|e
  .exact(nr (.inl e)).elim
  .exact(nr (.inr e)).elim
  .exact e.2.2
 .have nr:¬(v.op=9\/v.op=10):=λe=>by rw[hr.2 e]at h2;cases h2
  refine⟨λe=>(by cases e),λe=>?_⟩;rcases e.2.2.2.2 with e|e|e
  .exact(nr (.inl e)).elim
  .exact(nr (.inr e)).elim
  .rw[l4.2 e.2.1]at h4;cases h4
 .have nr:¬(v.op=9\/v.op=10):=λe=>by rw[hr.2 e]at h2;cases h2
  refine⟨λe=>(by cases e),λe=>?_⟩;rcases e.2.2.2.2 with e|e|e
  .exact(nr (.inl e)).elim
  .exact(nr (.inr e)).elim
  .rw[l3.2 e.1]at h3;cases h3
 .refine⟨λe=>(by cases e),λe=>?_⟩;rw[hc.2 ⟨e.1,e.2.1,e.2.2.1,e.2.2.2.1⟩]at h1;cases h1
theorem Cc(l:List Int):dY 1 (l.map eI):=by
 constructor
 .intro e he;obtain⟨x,_,rfl⟩:=List.mem_map.1 he;rfl
 .intro e he u hu;obtain⟨x,_,rfl⟩:=List.mem_map.1 he;simp[eI]at hu;subst hu;rfl
theorem KR.err{r:List Int×Int}{e:Int}(hK:KR K m h r)(hle:PH.le h h')(he:r=iY e):K (.tup [.val (.slice none 0 0),.val (.int .i64 e)]) m h':=by
 subst he;exact hK ⟨none,0,0⟩ h' hle ⟨.nil _ _,by simp[iY]⟩
theorem KR.big{r:List Int×Int}(hK:KR K m h r)(hle:PH.le h h')(he:r=Ah l)(hl:12<l.length):K (.tup [.val (.slice none 0 0),.val (.int .i64 2)]) m h':=
 hK.err hle (by rw[he,Ah,if_neg aC];rfl)
theorem KR.ok{r:List Int×Int}{sl:Sl}(hK:KR K m h r)(hle:PH.le h h')(he:r=Ah l)(hl:l.length<=12)(hi:a8 h' sl 1 (l.map eI)):K (.tup [.val (.slice sl.a sl.len sl.cap),.val (.int .i64 0)]) m h':=by
 rw[he,Ah,if_pos hl]at hK;exact hK sl h' hle ⟨hi,by show l.length<=17592186044416;omega⟩
theorem Zh{p:Sl}{a b:Sl}{la lb:List Int}(hs:gI h s sc)(h8:oU s)(hp:Ints h p ps)(hq:dA h q v)(ha:Ints h a la)(hb:Ints h b lb)(la12:la.length<=12)(lb12:lb.length<=12)(hK:KR K m h (iC s ps q la lb)):J3 sc p v a b m h K:=by
 dsimp only[J3,push_cast];have hqr:=hq;obtain⟨op,ta,w,co,on,gr,od,li,args⟩:=q;have x:=hq.parts;have e0:=x.op_;have e1:=x.table_;have e2:=x.limit_;have hsl:=hs.tables.slen;have hal:=ha.slen;have hcl:=x.columns_.slen;have hclen:=x.columns_.len;subst e0 e1 e2;refine⟨v.op,rfl,aE (λh1=>hK.err (.refl _) ?_) (λh1=>⟨v,_,rfl,hqr,λr hr=>aB (λh2=>hK.err (.refl _) ?_) (λh2=>?_)⟩)⟩
 .unfold iC;rw[if_pos (.inl h1)]
 .unfold iC;rw[if_pos (.inr λe=>by rw[hr.2 e]at h2;cases h2)]
 have hu:dE (.mk v.op v.table w co on gr od v.limit args):=hr.1 (by simpa using h2);unfold iC at hK;rw[if_neg (λe=>e.elim h1 (λe=>e hu))]at hK;dsimp only at hK;clear hr h2;refine⟨la.map eI,Cc _,ha.row,by simp;omega,by simp;omega,aB (λc1=>?_) (λc1=>aB (λc2=>?_) (λc2=>aB (λc3=>?_) (λc3=>aB (λc4=>?_) (λc4=>aB (λc5=>?_) (λc5=>aB (λc6=>?_) (λc6=>?_))))))⟩
 .rw[beq_iff_eq]at c1;rw[if_pos c1]at hK;refine aE (λd1=>hK.err (.refl _) (if_neg aC)) (λd1=>aE (λd2=>hK.err (.refl _) (if_neg aC)) (λd2=>⟨sc,s,v.table,rfl,hs,h8,λsl h' hle hi=>?_⟩));rw[if_pos aC]at hK;have:=hi.slen;exact aE (λd3=>hK.big hle rfl aC) (λd3=>hK.ok hle rfl aC hi.row)
 .rw[beq_eq_false_iff_ne]at c1;rw[beq_iff_eq]at c2;rw[if_neg c1,if_pos c2]at hK;refine⟨a,p,v.where_,la,ps,w,rfl,ha,hp,x.where_,aB (λd1=>hK.err (.refl _) (if_neg (by simpa using d1))) (λd1=>?_)⟩;rw[if_pos (by simpa using d1)]at hK;exact aE (λd3=>hK.big (.refl _) rfl (by simp at d3;omega)) (λd3 sl h' hle hi=>hK.ok hle rfl aC hi)
 .rw[beq_eq_false_iff_ne]at c1 c2;rw[beq_iff_eq]at c3;rw[if_neg c1,if_neg c2,if_pos c3]at hK;refine aB (λd1=>hK.err (.refl _) (if_neg λe=>e.1 ((DX hcl).1 d1))) (λd1=>?_);have hne:co≠[]:=λe=>by rw[(DX hcl).2 e]at d1;cases d1
  refine⟨λ⟨i,a',co',l,hx⟩=>a'=a/\co'=v.columns/\hx=h/\i<=co.length/\l=(co.take i).map (λc=>la.getD c.toNat 0)/\eE (λ_ c=>Cx la c=true) co i,λ⟨i,_,_,_,_⟩=>co.length-i,⟨(0,a,v.columns,[],h),⟨rfl,rfl,rfl,aC,by simp,.zero⟩,MT⟩,?_⟩;rintro⟨i,a,_,l,h⟩ ⟨rfl,rfl,rfl,hi,rfl,hg⟩;dsimp only;refine aE (λhlt=>?_) (λhge=>?_)
  .obtain⟨c,hc⟩:=fG hcl hlt;obtain⟨b1,o1,ea1,r1⟩:=x.columns_.at' hc;refine⟨b1,o1,ea1,aC,hlt,c,.imm r1,a,la,c,rfl,ha,aB (λd2=>hK.err (.refl _) (if_neg λe=>?_)) (λd2=>?_)⟩
   .have:=e.2 i c hc;rw[this]at d2;cases d2
   have d2:Cx la c=true:=by simpa using d2
   have d3:=kL.1 d2;obtain⟨b2,o2,ea2,r2⟩:=ha.inb d3.1 d3.2;refine⟨b2,o2,ea2,aC,aC,_,.imm r2,?_,?_,(i+1,a,v.columns,(co.take (i+1)).map (λc=>la.getD c.toNat 0),h),⟨rfl,rfl,rfl,aC,rfl,hg.succ hc d2⟩,by show co.length-(i+1)<co.length-i;omega,?_⟩
   .simp;omega
   .simp;omega
   .rw[fL hc,List.map_append];exact MT
  .rw[if_pos ⟨hne,hg.all aC⟩]at hK;rw[List.take_of_length_le aC];exact aE (λd3=>hK.big (.refl _) rfl (by simp at d3⊢;omega)) (λd3 sl h' hle hi=>hK.ok hle rfl (by simp at d3⊢;omega) hi)
 .rw[beq_eq_false_iff_ne]at c1 c2 c3;have c4':=beq_iff_eq.1 c4;rw[if_neg c1,if_neg c2,if_neg c3,if_pos c4']at hK;refine⟨v.on,a,b,on,la,lb,rfl,x.on_,ha,hb,λr hr=>aB (λd1=>hK.err (.refl _) (if_neg λe=>?_)) (λd1=>aB (λ_=>⟨lb.map eI,Cc _,hb.row,by simp;omega,by simp;omega,?_⟩) (λd2=>?_))⟩
  .rw[hr.2 e]at d1;cases d1
  .rw[if_pos (hr.1 (by simpa using d1))]at hK;rw[<-List.map_append];exact aE (λd3=>hK.big (.refl _) rfl (by simp at d3⊢;omega)) (λd3 sl h' hle hi=>hK.ok hle rfl (by simp at d3⊢;omega) hi)
  .rw[c4]at d2;cases d2
 .rw[beq_eq_false_iff_ne]at c1 c2 c3;have c4':=beq_eq_false_iff_ne.1 c4;rw[beq_iff_eq]at c5;rw[if_neg c1,if_neg c2,if_neg c3,if_neg c4',if_pos c5]at hK;refine⟨v.on,a,b,on,la,lb,rfl,x.on_,ha,hb,λr hr=>aB (λd1=>hK.err (.refl _) (if_neg λe=>?_)) (λd1=>aB (λd2=>?_) (λd2=>?_))⟩
  .rw[hr.2 e]at d1;cases d1
  .rw[c4]at d2;cases d2
  .rw[if_pos (hr.1 (by simpa using d1))]at hK;exact aE (λd3=>hK.big (.refl _) rfl (by simp at d3;omega)) (λd3 sl h' hle hi=>hK.ok hle rfl aC hi)
 .rw[beq_eq_false_iff_ne]at c1 c2 c3 c4 c5;rw[beq_iff_eq]at c6;rw[if_neg c1,if_neg c2,if_neg c3,if_neg c4,if_neg c5,if_pos c6]at hK;refine⟨v,a,gr,od,la,rfl,x.group_,x.order_,ha,λr hr=>aB (λd1=>hK.err (.refl _) (if_neg λe=>?_)) (λd1=>?_)⟩
  .rw[hr.2 e]at d1;cases d1
  rw[if_pos (hr.1 (by simpa using d1))]at hK;exact aE (λd3=>hK.big (.refl _) rfl (by simp at d3;omega)) (λd3 sl h' hle hi=>hK.ok hle rfl aC hi)
 .rw[beq_eq_false_iff_ne]at c1 c2 c3 c4 c5 c6;rw[if_neg c1,if_neg c2,if_neg c3,if_neg c4,if_neg c5,if_neg c6]at hK;refine⟨a,b,la,lb,rfl,ha,hb,λr hr=>aB (λd1=>hK.err (.refl _) ?_) (λd1=>aB (λd2=>⟨v,a,gr,od,la,rfl,x.group_,x.order_,ha,λr2 hr2=>aB (λd4=>hK.err (.refl _) ?_) (λd4=>?_)⟩) (λd2=>?_))⟩
  .have hne:¬la=lb:=λe=>by rw[hr.2 e]at d1;cases d1
   by_cases h10:v.op=10
   .rw[if_pos h10,if_neg (λe=>hne e.1)]
   .rw[if_neg h10,if_neg hne]
  .rw[beq_iff_eq]at d2;rw[if_pos d2,if_neg λe=>by rw[hr2.2 e.2]at d4;cases d4]
  .rw[beq_iff_eq]at d2;rw[if_pos d2,if_pos ⟨hr.1 (by simpa using d1),hr2.1 (by simpa using d4)⟩]at hK;exact aE (λd3=>hK.big (.refl _) rfl (by simp at d3;omega)) (λd3 sl h' hle hi=>hK.ok hle rfl aC hi)
  .rw[beq_eq_false_iff_ne]at d2;rw[if_neg d2,if_pos (hr.1 (by simpa using d1))]at hK;exact aE (λd3=>hK.big (.refl _) rfl (by simp at d3;omega)) (λd3 sl h' hle hi=>hK.ok hle rfl aC hi)
theorem Up:Sound Tryz.prog 95 YS:=by
 refine iB Tryz.func95 ?_;rintro cvs m h K ⟨sc,p,v,a,b,s,ps,q,la,lb,rfl,hs,h8,hp,hq,ha,hb,h1,h2,hK⟩;refine⟨XD m,rfl,aD LA (aD R0 (aD DB (aD GY (aD Ew (aD RZ (aD RY (aD RX aF))))))),J3 sc p v a b m h K,by kernel_rfl,?_⟩;exact Zh hs h8 hp hq ha hb h1 h2 hK
mutual
noncomputable def bY(s:oS)(ps:List Int):Query->List Int×Int
 |.mk op ta w co on gr od li args=>
  match eX s ps args with
  |(ks,e)=>if e=0 then(if(ks.length:Int)=arity op then iC s ps (.mk op ta w co on gr od li args) (ks.getD 0 []) (ks.getD 1 [])else iY 100)else iY e
noncomputable def eX(s:oS)(ps:List Int):List Query->List (List Int)×Int
 |[]=>([],0)
 |q::qs=>
  match bY s ps q with
  |(k,e)=>if e=0 then(match eX s ps qs with|(ks,e')=>if e'=0 then(k::ks,0)else([],e'))else([],e)
end
theorem yB{s:oS}{ps:List Int}:∀{qs:List Query}{ks:List (List Int)},qs.map (bY s ps)=ks.map (λk=>(k,0))->eX s ps qs=(ks,0)
 |[],[],_=>by simp[eX]
 |q::qs,k::ks,h=>by
  simp only[List.map_cons,List.cons.injEq]at h;simp only[eX,h.1,yB h.2,if_true]
 |[],_::_,h=>by simp at h
 |_::_,[],h=>by simp at h
theorem Cu{s:oS}{ps:List Int}{e:Int}(he:e≠0):∀{qs:List Query}{ks:List (List Int)}{i:Nat}{q:Query},(qs.take i).map (bY s ps)=ks.map (λk=>(k,0))->qs[i]? =some q->(bY s ps q).2=e->eX s ps qs=([],e)
 |[],_,_,_,_,h,_=>by simp at h
 |q::qs,_,0,q',_,h,h2=>by
  simp at h;subst h;simp only[eX,h2,if_neg he]
 |q::qs,[],i+1,_,h,_,_=>by simp at h
 |q::qs,k::ks,i+1,q',h,hq,h2=>by
  simp only[List.take_succ_cons,List.map_cons,List.cons.injEq]at h;have:=Cu he h.2 (by simpa using hq) h2;simp only[eX,h.1,this,if_true,if_neg he]
theorem VH(l:List Int):(Ah l).1.length<=12:=by unfold Ah;split<;>simp_all
theorem Ua(s:oS)(ps:List Int)(q:Query)(a b:List Int):(iC s ps q a b).1.length<=12:=by
 obtain⟨op,ta,w,co,on,gr,od,li,args⟩:=q;unfold iC;dsimp only
 repeat' split
 all_goals first|exact VH _|(simp[iY];done)
theorem BB(s:oS)(ps:List Int)(q:Query):(bY s ps q).1.length<=12:=by
 obtain⟨op,ta,w,co,on,gr,od,li,args⟩:=q;simp only[bY]
 repeat' split
 all_goals first|exact Ua .. |simp[iY]
noncomputable def dG(s:oS)(ps:List Int)(q:Query):List Int×Int:=
 if eK s=0 then(if ps.all cV=true then(if iR q=true then bY s ps q else iY 2)else iY 1)else iY (eK s)
def Slices(h:PH)(ss:List Sl)(ks:List (List Int)):Prop:=ss.length=ks.length/\∀(j:Nat) s k,ss[j]? =some s->ks[j]? =some k->Ints h s k
theorem Slices.mono{ss:List Sl}(x:Slices h ss ks)(le:PH.le h h'):Slices h' ss ks:=⟨x.1,λj s k h1 h2=>(x.2 j s k h1 h2).mono le⟩
theorem Slices.snoc{ss:List Sl}{s:Sl}{k:List Int}(x:Slices h ss ks)(hi:Ints h s k):Slices h (ss++[s]) (ks++[k]):=by
 refine⟨by simp[x.1],λj s' k' h1 h2=>?_⟩;by_cases hj:j<ss.length
 .rw[List.getElem?_append_left hj]at h1;rw[List.getElem?_append_left (by rw[<-x.1];exact hj)]at h2;exact x.2 j s' k' h1 h2
 .rw[List.getElem?_append_right aC]at h1;rw[List.getElem?_append_right (by have:=x.1;omega), <-x.1]at h2;cases e:j-ss.length with
  |zero=>rw[e]at h1 h2;simp at h1 h2;subst h1 h2;exact hi
  |succ n=>rw[e]at h1;simp at h1
def BN(N:Nat):Vc.Spec:=λcvs m h K=>∃sc p v s ps q,cvs=[aS sc,cS p,aQ v]/\gI h s sc/\oU s/\Ints h p ps/\dA h q v/\SizeOf.sizeOf q<N/\KR K m h (bY s ps q)
def CR:Vc.Spec:=λcvs m h K=>∃sc p v s ps q,cvs=[aS sc,cS p,aQ v]/\gI h s sc/\Ints h p ps/\dA h q v/\KR K m h (dG s ps q)
noncomputable def XS(N:Nat)(sc:aW)(p:Sl)(v:QV)(m:MH):Ctx:=
 dM [(65,BN N),(94,SH),(95,YS)] [(3,{A:=Nat×List Sl×PH,st:=λ⟨i,ss,h⟩=>cE 58 61 [(1,sv p),(3,.at (.ptr 3 0)),(5,.at (.ptr 5 0)),(8,.at (.lst 35)),(14,iv v.args.len),(15,iv i)] [(3,.cells 43 (sc.enc.map .val)),(5,.cells 38 (v.enc.map .val)),(35,.lst 33 1 (ss.map eS))] m h})] [] [] false
abbrev rF(a b:Nat)(c:List (List Value)):Prop:=Option.some (Own.lst a b [])=Option.some (Own.lst a b c)
noncomputable abbrev rJ(a:List Sl):List (List Value):=List.map eS a
noncomputable abbrev sF(a:Nat×List Sl×PH):List (List Value):=rJ a.2.1
noncomputable abbrev kW(a:Nat×List Sl×PH):Nat->Nat->Option Value:=a.2.2
abbrev E7(a:oS->(List Int)->Prop):Prop:=∃(x:oS)(x1:List Int),a x x1
abbrev Fl(a:aW)(b:Sl)(c:QV)(d:PH)(e:QV->oS->(List Int)->Query->Prop):Prop:=∃(x:aW)(x1:Sl)(x2:QV),E7 (λx3 x4=>∃(x5:Query),aA (bI a::aT (cW b) (cN c)=bI x::aT (cW x1) (cN x2)) (gI d x3 x) (aA (oU x3) (Ints d x1 x4) (e x2 x3 x4 x5)))
abbrev oM(a:List (List Value))(b:Nat)(c:Prop):Prop:=aA (fY ((a.length+1)*b)) (gS a) c
noncomputable abbrev Fu(a:Nat×List Sl×PH):List (List Value):=sF a++iN::fO iN
abbrev uZ(a:List (List Value))(b:Nat)(c:List Value):Prop:=a[b]? =Option.some c
abbrev Dw(a b:Nat)(c d:List Value):Prop:=List.take a (List.drop b c)=d
attribute [push_cast] rF rJ sF kW E7 Fl oM Fu uZ Dw
def Pz(N:Nat)(sc:aW)(p:Sl)(v:QV)(m:MH)(h:PH)(K:CV->MH->PH->Prop):Prop:=
  ∃(I:Nat×List Sl×PH->Prop)(m1:Nat×List Sl×PH->Nat),(∃(x:Nat×List Sl×PH),aA (I x) (aJ p) (aA (eP 3) (eP 5) (aA (eL 35) (bN v.args) (aA (bD x.1) (bV sc) (aA (fD v) (rF 33 1 (sF x)) (aA (m=m) (h=kW x) True))))))/\∀(x:Nat×List Sl×PH),I x->bC (↑x.1:Int) (aG v.args) (aU (λb o=>aA (aX v.args.a b o) (0<=(↑x.1:Int)) ((↑x.1:Int)<aG v.args/\∃(y:QV),aM m (kW x) b (bM o x.1 21) y.enc/\Fl sc p y (kW x) (λv1 s p1 q=>aA (dA (kW x) q v1) (rC q N) (cC (λs1 h1=>bJ (kW x) h1 (Ints h1 s1 (bY s p1 q).1) (dT (bY s p1 q).2 0 (K (CV.tup (aT mW (CV.val (dK (bY s p1 q).2)))) m h1) (oM (sF x) 24 (∃(x1:Nat×List Sl×PH),aA (I x1) (m1 x1<m1 x) (aA (aJ p) (eP 3) (aA fZ (eL 35) (aA (bN v.args)
 (fM (bE x.1 1)=bX x1.1) (aA (bV sc) (fD v) (aA (Option.some (Own.lst 33 1 (dU (sF x) (aR s1)))=Option.some (Own.lst 33 1 (sF x1))) (m=m) (cQ h1 (kW x1)))))))))))))))) (jW v.op (λo=>dT (kE (sF x)) (arity o) (K (CV.tup (aY mW 100)) m (kW x)) (aA (fY (((sF x).length+2)*24)) (xW (sF x) 2) (aA (cD 0) (0<kE (Fu x)) (∃(e:List Value),uZ (Fu x) 0 e/\∃(y:Sl),aA (Dw 1 0 e (aR y)) ((0:Int)<=1) (1<kE (Fu x)/\∃(e1:List Value),uZ (Fu x) 1 e1/\∃(y1:Sl),Dw 1 0 e1 (aR y1)/\∃(s:aW)(p1:Sl)(v1:QV),jT (λa b=>E7 (λs1 p2=>∃(q:Query),pF (λl l1=>aA (bI sc::cW p::cN v::aT (cW y) (cW y1)=bI s::cW p1::cN v1::aT (cW a) (cW b)) (gI (kW x) s1
 s) (aA (oU s1) (Ints (kW x) p1 p2) (aA (dA (kW x) q v1) (Ints (kW x) a l) (aA (Ints (kW x) b l1) (l.length<=12) (l1.length<=12/\cC (λs2 h1=>bJ (kW x) h1 (Ints h1 s2 (iC s1 p2 q l l1).1) (K (CV.tup (aT (cW s2) (CV.val (dK (iC s1 p2 q l l1).2)))) m h1)))))))))))))))
def PO(N:Nat)(sc:aW)(p:Sl)(v:QV)(m:MH)(h:PH)(K:CV->MH->PH->Prop):Prop:=
  kG (λv1 s=>aA (kA (bI sc)=kA (bI v1)) (gI h s v1) (dT (eK s) 0 (K (CV.tup (aY mW (eK s))) m h) (Cn (λs1 l=>aA (fT p=fT s1) (Ints h s1 l) (gA (List.all l cV) (K (CV.tup (aY mW 1)) m h) (pE (λv2 p1=>aA (kA (cN v)=kA (cN v2)) (dA h p1 v2) (gA (iR p1) (K (CV.tup (aY mW 2)) m h) (Fl sc p v h (λv3 s2 p2 q=>aA (dA h q v3) (rC q N) (cC (λs3 h1=>bJ h h1 (Ints h1 s3 (bY s2 p2 q).1) (K (CV.tup (aT (cW s3) (CV.val (dK (bY s2 p2 q).2)))) m h1)))))))))))))
theorem GN{qs:List Query}(h:qs.map (bY s ps)=ks.map (λk=>(k,0)))(j:Nat):(ks.getD j []).length<=12:=by
 rw[List.getD_eq_getElem?_getD];cases e:ks[j]? with
 |none=>simp
 |some k=>
  have h1:(qs.map (bY s ps))[j]? =some (k,0):=by rw[h];simp[e]
  rw[List.getElem?_map,Option.map_eq_some_iff]at h1;obtain⟨q,_,h2⟩:=h1;have:=BB s ps q;rw[h2]at this;simpa using this
theorem Slices.pick{ss:List Sl}(x:Slices h ss ks)(j:Nat)(hj:j<ss.length+2):∃y:Sl,(ss.map eS++[[.slice none 0 0],[.slice none 0 0]])[j]? =some [.slice y.a y.len y.cap]/\Ints h y (ks.getD j []):=by
 by_cases h1:j<ss.length
 .refine⟨ss[j],?_,?_⟩
  .rw[List.getElem?_append_left (by simpa using h1)];simp[h1,eS]
  .have h2:j<ks.length:=by rw[<-x.1];exact h1
   rw[List.getD_eq_getElem?_getD,List.getElem?_eq_getElem h2];exact x.2 j _ _ (List.getElem?_eq_getElem h1) (List.getElem?_eq_getElem h2)
 .refine⟨⟨none,0,0⟩,?_,?_⟩
  .rw[List.getElem?_append_right (by simpa using h1)];simp only[List.length_map];have:j-ss.length=0\/j-ss.length=1:=by omega
   rcases this with e|e<;>rw[e]<;>rfl
  .rw[List.getD_eq_getElem?_getD,List.getElem?_eq_none (by have:=x.1;omega)];exact⟨.nil _ _,by simp⟩
theorem Tm:∀N,Sound Tryz.prog 65 (BN N)
 |0=>by
  refine eD (fn:=Tryz.f65) (c:=dJ Tryz.f65) Tryz.func65 rfl (by decide) ?_;rintro cvs m h K ⟨sc,p,v,s,ps,q,rfl,_,_,_,_,hN,_⟩;omega
 |N+1=>by
  refine iB Tryz.func65 ?_;rintro cvs m h K ⟨sc,p,v,s,ps,q,rfl,hs,h8,hp,hq,hN,hK⟩;refine⟨XS N sc p v m,rfl,aD (Tm N) (aD LA (aD Up aF)),Pz N sc p v m h K,by kernel_rfl,?_⟩;dsimp only[Pz,push_cast];have hlt:=@Cd q;have hqr:=hq;obtain⟨op,ta,w,co,on,gr,od,li,args⟩:=q;have x:=hq.parts;have e0:=x.op_;have hl:=x.args_.slen;have hlen:=x.args_.len;simp only[Query.args]at hlt;simp only[bY]at hK;refine⟨λ⟨i,ss,hx⟩=>i<=args.length/\PH.le h hx/\∃ks,Slices hx ss ks/\(args.take i).map (bY s ps)=ks.map (λk=>(k,0)),λ⟨i,_,_⟩=>args.length-i,⟨(0,[],h),⟨aC,.refl _,[],⟨rfl,λj s k h1=>by simp at h1⟩,by simp⟩,MT⟩,?_⟩;rintro⟨i,ss,hx⟩ ⟨hi,hle,ks,hS,hks⟩;have hkl:ks.length=i:=by have:=congrArg List.length hks;simp at this;omega
  have hsl:ss.length=i:=by rw[hS.1,hkl]
  dsimp only;refine aE (λhlt2=>?_) (λhge=>?_)
  .obtain⟨q',hq'⟩:=fG hl hlt2;obtain⟨b1,o1,u,ea1,r1,hru⟩:=(x.args_.mono hle).at hq';refine⟨b1,o1,ea1,aC,hlt2,u,.imm r1,sc,p,u,s,ps,q',rfl,hs.mono hle,h8,hp.mono hle,hru,?_,λsl h' hle' hi'=>aB (λh1=>?_) (λh1=>?_)⟩
   .have:=hlt (List.mem_of_getElem? hq');omega
   .have he:(bY s ps q').2≠0:=by simpa using h1
    rw[Cu he hks hq' rfl]at hK;exact hK.err (hle.trans hle') (if_neg he)
   .have he:(bY s ps q').2=0:=by simpa using h1
    refine⟨by simp;omega,by simp;omega,(i+1,ss++[sl],h'),⟨aC,hle.trans hle',ks++[(bY s ps q').1],(hS.mono hle').snoc hi',?_⟩,by show args.length-(i+1)<args.length-i;omega,?_⟩
    .rw[fL hq',hks,List.map_append];simp only[List.map_cons,List.map_nil];rw[<-he]
    .rw[List.map_append];exact MT
  .rw[List.take_of_length_le aC]at hks;rw[yB hks]at hK;simp only[if_true]at hK;refine⟨v.op,rfl,aB (λh1=>hK.err hle (if_neg λe=>?_)) (λh1=>?_)⟩
   .rw[e0]at h1;simp at h1;omega
   have h1:(ss.length:Int)=arity op:=by rw[e0]at h1;simpa using h1
   rw[if_pos aC]at hK;obtain⟨y0,hy0,i0⟩:=hS.pick 0 aC;obtain⟨y1,hy1,i1⟩:=hS.pick 1 aC;exact⟨by simp;omega,by simp;omega,aC,by simp;omega,_,hy0,y0,rfl,aC,by simp;omega,_,hy1,y1,rfl,sc,p,v,y0,y1,s,ps,_,_,_,rfl,hs.mono hle,h8,hp.mono hle,hqr.mono hle,i0,i1,GN hks 0,GN hks 1,λsl h' hle' hi=>hK sl h' (hle.trans hle') hi⟩
theorem T3(h:eK s=0):oU s:=by
 have hl:BM s:=Classical.byContradiction λhn=>by rw[tO hn]at h;cases h
 intro t ht;obtain⟨j,hj⟩:=List.mem_iff_getElem?.1 ht;exact(hl.2 j t hj).1
theorem LM:Sound Tryz.prog 25 CR:=by
 refine iB Tryz.func25 ?_;rintro cvs m h K ⟨sc,p,v,s,ps,q,rfl,hs,hp,hq,hK⟩;refine⟨dM [(63,AG),(64,KJ),(28,NX),(65,BN (SizeOf.sizeOf q+1))] [] [] [] false,rfl,aD UA (aD LG (aD LK (aD (Tm _) aF))),PO (SizeOf.sizeOf q+1) sc p v m h K,by kernel_rfl,?_⟩;dsimp only[PO,push_cast];unfold dG at hK;refine⟨sc,s,rfl,hs,aB (λh1=>hK.err (.refl _) (if_neg (by simpa using h1))) (λh1=>?_)⟩;have h1:eK s=0:=by simpa using h1
 rw[if_pos h1]at hK;refine⟨p,ps,rfl,hp,aB (λh2=>hK.err (.refl _) (if_neg λe=>by rw[e]at h2;cases h2)) (λh2=>?_)⟩;rw[if_pos (by rw[Bool.not_eq_false']at h2;exact h2)]at hK;refine⟨v,q,rfl,hq,aB (λh3=>hK.err (.refl _) (if_neg λe=>by rw[e]at h3;cases h3)) (λh3=>?_)⟩;rw[if_pos (by rw[Bool.not_eq_false']at h3;exact h3)]at hK;exact⟨sc,p,v,s,ps,q,rfl,hs,T3 h1,hp,hq,aC,hK⟩
def aN(n:NV):CV:=.val (.agg ⟨n.enc⟩)
structure rN(h:PH)(s:oS)(ps:List Int)(q:Query)(ks:List (List Int))(n:NV):Prop where
 s_:gI h s n.s
 ps_:Ints h n.params ps
 q_:dA h q n.q
 ks_:bZ h 1 eS (λk sl=>Ints h sl k) n.args ks
 len:∀k∈ks,k.length<=12
def Query.withOf(u q:Query):Query:=match u,q with|.mk _ ta w co on gr od li _,.mk op _ _ _ _ _ _ _ args=>.mk op ta w co on gr od li args
def zY:Vc.Spec:=λcvs m h K=>∃n k u s ps q ks uq,cvs=[aN n,cI k,aQ u]/\rN h s ps q ks n/\dA h uq u/\∀r:Bool,(r=true↔(ks.length:Int)=k/\q=uq.withOf q)->K (cB r) m h
def KB:Vc.Spec:=λcvs m h K=>∃n s ps q ks,cvs=[aN n]/\rN h s ps q ks n/\K (aQ ⟨0,0,⟨0,0,cM,cM,⟨none,0,0⟩⟩,⟨none,0,0⟩,⟨none,0,0⟩,n.q.group,n.q.order,n.q.limit,⟨none,0,0⟩⟩) m h
def KC:Vc.Spec:=λcvs m h K=>∃n s ps q ks a,cvs=[aN n]/\rN h s ps q ks n/\ks[0]? =some a/\∀r:Bool,(r=true↔∃op ta w co on gr od li args,q= .mk op ta w co on gr od li args/\v8 a gr od li)->K (cB r) m h
def Is(ks:List (List Int)):Query->Prop
 |.mk op ta w co on gr od li _=>ks.length=2/\ta=0/\w=hZ/\co=[]/\gr=[]/\od=[]/\li=0/\Good (tG (ks.getD 0 []) (ks.getD 1 [])) on
def KF:Vc.Spec:=λcvs m h K=>∃n s ps q ks,cvs=[aN n]/\rN h s ps q ks n/\∀r:Bool,(r=true↔Is ks q)->K (cB r) m h
noncomputable def V9(n:NV)(h:PH):Ctx:=
 vK [] [(4,{A:=Nat×Nat×Nat×MH,st:=λ⟨i,wd,b,mx⟩=>cE 72 73 [(1,.at (.ptr 1 0)),(3,iv wd),(4,vv (.pointer (some ⟨b,0,none⟩))),(16,sv n.q.group),(17,iv n.q.group.len),(18,iv i)] [(1,.cells 152 (n.enc.map .val))] mx h}),
  (11,{A:=Nat×Nat×MH,st:=λ⟨i,wd,mx⟩=>cE 72 73 [(1,.at (.ptr 1 0)),(3,iv wd),(39,sv n.q.order),(40,iv n.q.order.len),(41,iv i)] [(1,.cells 152 (n.enc.map .val))] mx h})] [] [] [226] [] false
noncomputable def Wb(n:NV)(h:PH):Ctx:=
 vK [(177,zY)] [(6,{A:=Nat×Sl×Sl×Nat×Nat×MH,st:=λ⟨i,s,t,b,c,mx⟩=>cE 80 81 [(3,sv s),(4,sv t),(5,vv (.pointer (some ⟨b,0,none⟩))),(6,vv (.pointer (some ⟨c,0,none⟩))),(28,sv n.q.on),(29,iv n.q.on.len),(30,iv i)] [] mx h})] [] [] [226] [] false
noncomputable abbrev mQ(a:QV):Value:=dK a.table
noncomputable abbrev mP(a:QV):Value:=dK a.where_.op
noncomputable abbrev mR(a:QV):Int:=a.where_.cmp
noncomputable abbrev fW(a:OV):Value:=dK a.kind
noncomputable abbrev gE(a:QV):OV:=a.where_.left
noncomputable abbrev sA(a:OV):Value:=dK a.index
noncomputable abbrev nH(a:OV):Value:=dK a.value.int
noncomputable abbrev Fk(a b:QV)(c:List Value):CV:=kN (aI (dK a.op) (mQ b) (aI (mP b) (dK (mR b)) (aI (fW (gE b)) (sA (gE b)) (aI (dK (nM (gE b))) (nH (gE b)) c))))
noncomputable abbrev lU(a:OV):Value:=Value.string a.value.text
noncomputable abbrev fA(a:QV):OV:=a.where_.right
noncomputable abbrev oA(a:QV):Value:=dO a.where_.args
noncomputable abbrev oD(a:QV):Value:=dO a.columns
noncomputable abbrev rK(a:QV):Value:=dO a.group
noncomputable abbrev rL(a:QV):Value:=dO a.order
attribute [push_cast] mQ mP mR fW gE sA nH Fk lU fA oA oD rK rL
def Mb(n:NV)(k:Int)(u:QV)(m:MH)(h:PH)(K:CV->MH->PH->Prop):Prop:=
  dL (aG n.args) k (∃(v:QV),pE (λw p=>∃(q:Query),aA (aT (cN n.q) (Fk n.q u (aI (lU (gE u)) (fW (fA u)) (aI (sA (fA u)) (dK (nM (fA u))) (aI (nH (fA u)) (lU (fA u)) (aI (oA u) (oD u) (aI (dO u.on) (rK u) (aI (rL u) (dK u.limit) (aR n.q.args))))))))=aT (cN v) (cN w)) (dA h p v) (dA h q w/\∀(r:Bool),(dX r↔p=q)->K (AB r) m h))) (K bB m h)
noncomputable abbrev xU(a:List Value):List Value:=aI HB aK (aI aK aK (aI aK HB (aI vO vO a)))
noncomputable abbrev IA(a:QV):List Value:=aI vO (rK a) (aI (rL a) (dK a.limit) iN)
attribute [push_cast] xU IA
def L9(n:NV)(m:MH)(h:PH)(K:CV->MH->PH->Prop):Prop:=
  K (kN (aI aK aK (aI aK aK (aI aK aK (aI aK aK (xU (IA n.q))))))) m h
abbrev oK(a:NV)(b:MH)(c:PH)(d:Nat->Nat->Sl->Prop):Prop:=aU (λx x1=>aA (aX a.args.a x x1) ((0:Int)<=0) (0<aG a.args/\∃(x2:Sl),aM b c x (x1+0) (aR x2)/\d x x1 x2))
noncomputable abbrev tW:Value:=Value.bool false
abbrev Iz(a:MH)(b:PH)(c:Nat->MH->Prop):Prop:=∀(x:Nat)(x1:MH),bO (cF a b x) (bH a x1 x (aI tW tW (aI tW tW (aI tW tW (aI tW tW (aI tW tW (aI tW tW [])))))) 226) (c x x1)
abbrev IU(a:aW)(b:List At):Prop:=eQ (oQ 152 (fU (jE a.version) (oT a.tables) b))
noncomputable abbrev IT(a:QV)(b:List At):List At:=jE a.table::pQ a.where_ (fU (oT a.columns) (oT a.on) (fU (oT a.group) (oT a.order) (fU (jE a.limit) (oT a.args) b)))
abbrev A8(a:NV):Prop:=IU a.s (fU (oT a.params) (jE a.q.op) (IT a.q (jG (oT a.args))))
abbrev pO(a:MH)(b c:Nat)(d:List Value)(e:MH->Prop):Prop:=gL (λx x1=>aA (vA a b (eU x x1 0)) (fE c x) (∀(x2:MH),bH a x2 b (splice x.toList c d) x1->e x2))
attribute [push_cast] oK tW Iz IU IT A8 pO
def DD(n:NV)(m:MH)(h:PH)(K:CV->MH->PH->Prop):Prop:=
  oK n m h (λ_ _ y=>Iz m h (λb m1=>∃(I:Nat×Nat×Nat×MH->Prop)(m2:Nat×Nat×Nat×MH->Nat),(∃(x:Nat×Nat×Nat×MH),aA (I x) eM (aA (bX y.len=bX x.2.1) (cJ b (iV x.2)) (aA (aJ n.q.group) (bN n.q.group) (aA (bD x.1) (A8 n) (dR m1 (fQ x.2) h h)))))/\∀(x:Nat×Nat×Nat×MH),I x->bC (↑x.1:Int) (aG n.q.group) (aU (λb1 o=>aA (aX n.q.group.a b1 o) (0<=(↑x.1:Int)) ((↑x.1:Int)<aG n.q.group/\∃(y1:Int),aM (fQ x.2) h b1 (bM o x.1 1) (bT y1)/\bC y1 0 (nB K x.2 h) (fR y1 (↑x.2.1:Int) (nB K x.2 h) (aA (cD y1) (y1<12) (∃(y2:Bool),aM (fQ x.2) h (iV x.2) (fN 0 y1 1) (iP (Value.bool y2))/\branch y2 (nB K x.2 h) (aA (cD y1) (y1<12) (pO (fQ x.2) (iV x.2) (fN 0 y1 1) (iP Ac) (fun
 m3=>∃(x1:Nat×Nat×Nat×MH),aA (I x1) (m2 x1<m2 x) (aA eM (bP x.2.1 x1.2.1) (aA (cJ (iV x.2) (iV x1.2)) (aJ n.q.group) (aA (bN n.q.group) (fM (bE x.1 1)=bX x1.1) (cT (A8 n) m3 (fQ x1.2) h h))))))))))))) (∃(I1:Nat×Nat×MH->Prop)(m3:Nat×Nat×MH->Nat),I6 (λx1=>aA (I1 x1) eM (aA (bP x.2.1 (iV x1)) (aJ n.q.order) (aA (bN n.q.order) (bD x1.1) (aA (A8 n) (fQ x.2=fQ x1) (cQ h h))))) (λx1=>I1 x1->bC (↑x1.1:Int) (aG n.q.order) (aU (λb1 o=>aA (aX n.q.order.a b1 o) (0<=(↑x1.1:Int)) ((↑x1.1:Int)<aG n.q.order/\∃(y1:Int×Bool),aM (fQ x1) h b1 (bM o x1.1 2) (yY y1)/\bC y1.1 0 (nB K x1 h) (fR y1.1 (↑(iV x1):Int) (nB K x1 h) (∃(x2:Nat×Nat×MH),aA (I1 x2) (m3 x2<m3 x1) (aA
 eM (bP (iV x1) (iV x2)) (aA (aJ n.q.order) (bN n.q.order) (aA (fM (bE x1.1 1)=bX x2.1) (A8 n) (dR (fQ x1) (fQ x2) h h))))))))) (Ci (aG n.q.order) 12 (fR n.q.limit 0 (K (AB (decide (n.q.limit<=100))) (fQ x1) h) (nB K x1 h)) (nB K x1 h))))))
abbrev A3(a:oS->(List Int)->Query->(List (List Int))->Prop):Prop:=E7 (λx x1=>∃(x2:Query)(x3:List (List Int)),a x x1 x2 x3)
abbrev yX(a:NV->Int->QV->oS->(List Int)->Query->(List (List Int))->Query->Prop):Prop:=∃(x:NV)(x1:Int)(x2:QV),A3 (λx3 x4 x5 x6=>∃(x7:Query),a x x1 x2 x3 x4 x5 x6 x7)
noncomputable abbrev fC(a:NV)(b:List Value):List Value:=aI (sA (gE a.q)) (dK (nM (gE a.q))) (aI (nH (gE a.q)) (lU (gE a.q)) (aI (fW (fA a.q)) (sA (fA a.q)) (aI (dK (nM (fA a.q))) (nH (fA a.q)) b)))
noncomputable abbrev tT(a:QV):Value:=dO a.args
noncomputable abbrev fB(a:NV):List Value:=aI (lU (fA a.q)) (oA a.q) (aI (oD a.q) (dO a.q.on) (aI (rK a.q) (rL a.q) (aI (dK a.q.limit) (tT a.q) (aR a.args))))
noncomputable abbrev A5(a:Value)(b:List Value):List Value:=aI a vO (aI vO aK b)
abbrev yW(a:List (List Int))(b:Int):Prop:=(↑a.length:Int)=b
abbrev Cj(a b:Query):Prop:=a=Query.withOf b a
noncomputable abbrev iU(a:Nat×Sl×Sl×Nat×Nat×MH):Nat×Nat×MH:=a.2.2.2
attribute [push_cast] A3 yX fC tT fB A5 yW Cj iU
def DE(n:NV)(m:MH)(h:PH)(K:CV->MH->PH->Prop):Prop:=
  yX (λn1 k u s p q k1 u1=>aA (kN (aI (qL n.s) (qK n.s) (aI (dO n.params) (dK n.q.op) (aI (mQ n.q) (mP n.q) (aI (dK (mR n.q)) (fW (gE n.q)) (fC n (fB n))))))::aT (eH 2) (kN (aI aK aK (aI aK aK (aI aK aK (aI aK aK (xU (A5 (dO n.q.on) iN)))))))=kN (aI (qL n1.s) (qK n1.s) (aI (dO n1.params) (dK n1.q.op) (aI (mQ n1.q) (mP n1.q) (aI (dK (mR n1.q)) (fW (gE n1.q)) (fC n1 (fB n1))))))::aT (eH k) (cN u)) (rN h s p q k1 n1) (dA h u1 u/\∀(r:Bool),hX (dX r↔yW k1 k/\Cj q u1) (!r) (K bB m h) (oK n m h (λ_ _ y=>aU (λb o=>aA (aX n.args.a b o) ((0:Int)<=1) (1<aG n.args/\∃(y1:Sl),aM m h b (o+1) (aR y1)/\Iz m h (λb1 m1=>Iz m1 h (λb2 m2=>∃(I:Nat
 ×Sl×Sl×Nat×Nat×MH->Prop)(m3:Nat×Sl×Sl×Nat×Nat×MH->Nat),(∃(x:Nat×Sl×Sl×Nat×Nat×MH),aA (I x) (bK y x.2.1) (aA (bK y1 x.2.2.1) (cJ b1 (iU x).1) (aA (cJ b2 (iV (iU x))) (aJ n.q.on) (aA (bN n.q.on) (bD x.1) (dR m2 (fQ (iU x)) h h)))))/\∀(x:Nat×Sl×Sl×Nat×Nat×MH),I x->bC (↑x.1:Int) (aG n.q.on) (aU (λb3 o1=>aA (aX n.q.on.a b3 o1) (0<=(↑x.1:Int)) ((↑x.1:Int)<aG n.q.on/\∃(y2:Int×Int),aA (aM (fQ (iU x)) h b3 (bM o1 x.1 2) (sT y2)) (cD 0) (aA ((0:Int)<2) (cD 1) ((1:Int)<2/\bC y2.1 0 (nB K (iU x) h) (fR y2.1 (aG x.2.1) (nB K (iU x) h) (bC y2.2 0 (nB K (iU x) h) (fR y2.2 (aG x.2.2.1) (nB K (iU x) h) (aU (λb4 o2=>aA (aX x.2.1.a b4 o2) (0<=y2.1)
 (y2.1<aG x.2.1/\∃(y3:Int),aM (fQ (iU x)) h b4 (fN o2 y2.1 1) (bT y3)/\aU (λb5 o3=>aA (aX x.2.2.1.a b5 o3) (0<=y2.2) (y2.2<aG x.2.2.1/\∃(y4:Int),aM (fQ (iU x)) h b5 (fN o3 y2.2 1) (bT y4)/\dT y3 y4 (nB K (iU x) h) (aA (cD y2.1) (y2.1<12) (∃(y5:Bool),aM (fQ (iU x)) h (iU x).1 (fN 0 y2.1 1) (iP (Value.bool y5))/\branch y5 (nB K (iU x) h) (aA (cD y2.2) (y2.2<12) (∃(y6:Bool),aM (fQ (iU x)) h (iV (iU x)) (fN 0 y2.2 1) (iP (Value.bool y6))/\branch y6 (nB K (iU x) h) (aA (cD y2.1) (y2.1<12) (pO (fQ (iU x)) (iU x).1 (fN 0 y2.1 1) (iP Ac) (λm4=>aA (cD y2.2) (y2.2<12) (pO m4 (iV (iU x)) (fN 0 y2.2 1) (iP Ac) (λm5=>∃(x1:Nat×Sl×Sl×Nat×Nat×MH),
 aA (I x1) (m3 x1<m3 x) (aA (bK x.2.1 x1.2.1) (bK x.2.2.1 x1.2.2.1) (aA (cJ (iU x).1 (iU x1).1) (cJ (iV (iU x)) (iV (iU x1))) (aA (aJ n.q.on) (bN n.q.on) (cT (fM (bE x.1 1)=bX x1.1) m5 (fQ (iU x1)) h h)))))))))))))))))))))))))) (K fH (fQ (iU x)) h)))))))))
structure TU(m:MH)(b:Nat)(seen:List Int):Prop where
 ex:∃bs:List Bool,m b=some (.cells ⟨bs.map Value.bool⟩ 226 (0,0))/\bs.length=12/\∀k:Nat,k<12->(bs[k]? =some true↔(k:Int)∈seen)
theorem TU.zero(h:m b=some (.cells ⟨[.bool false,.bool false,.bool false,.bool false,.bool false,.bool false,.bool false,.bool false,.bool false,.bool false,.bool false,.bool false]⟩ 226 (0,0))):TU m b []:=
 ⟨⟨List.replicate 12 false,h,rfl,λk hk=>by rw[List.getElem?_replicate];simp[hk]⟩⟩
theorem TU.look{seen:List Int}(x:TU m b seen){n:Int}(h0:0<=n)(h1:n<12):∃y:Bool,aM m h b (0+n.toNat*1) [.bool y]/\(y=true↔n∈seen):=by
 obtain⟨bs,e,hl,hs⟩:=x.ex;have hk:n.toNat<bs.length:=by omega
 refine⟨bs[n.toNat],.lent _ _ _ e ?_,?_⟩
 .simp only[Nat.zero_add,Nat.mul_one,List.length_cons,List.length_nil];rw[List.drop_eq_getElem_cons (by simpa using hk)];simp
 .have:=hs n.toNat aC;rw[List.getElem?_eq_getElem hk]at this;rw[show((n.toNat:Nat):Int)=n by omega]at this;simpa using this
theorem TU.store{seen:List Int}(x:TU m b seen){n:Int}(h0:0<=n)(h1:n<12):∃(cs:Array Value)(E:TypeId),vA m b (.cells cs E (0,0))/\0+n.toNat*1<cs.size/\∀m',jS m m' b (.cells ⟨splice cs.toList (0+n.toNat*1) [.bool true]⟩ E (0,0))->TU m' b (seen++[n]):=by
 obtain⟨bs,e,hl,hs⟩:=x.ex;have hk:n.toNat<bs.length:=by omega
 refine⟨_,_,⟨e⟩,by simpa using hk,λm' hu=>⟨bs.set n.toNat true,?_,by simpa using hl,λk hk'=>?_⟩⟩
 .rw[hu.at_];congr 3;simp only[splice,Nat.zero_add,Nat.mul_one,List.length_cons,List.length_nil];rw[List.set_eq_take_append_cons_drop,if_pos hk];simp[List.map_take,List.map_drop]
 .rw[List.getElem?_set,List.mem_append,List.mem_singleton];by_cases e':n.toNat=k
  .subst e';rw[if_pos rfl,if_pos hk];exact⟨λ_=>.inr aC,λ_=>rfl⟩
  .rw[if_neg e',hs k hk'];exact⟨.inl,λh=>h.elim id λe=>by omega⟩
theorem TU.other{b':Nat}{seen:List Int}(x:TU m b seen)(hne:b≠b')(ho:∀c,c≠b'->m' c=m c):TU m' b seen:=by
 obtain⟨bs,e,hl,hs⟩:=x.ex;exact⟨bs,by rw[ho b hne,e],hl,hs⟩
theorem rN.arg{n:NV}(x:rN h s ps q ks n){j:Nat}{k:List Int}(hk:ks[j]? =some k):∃b o sl,n.args.a=some ⟨b,o,none⟩/\aZ h b (o+j*1) [.slice sl.a sl.len sl.cap]/\Ints h sl k/\k.length<=12/\j<n.args.len:=by
 obtain⟨b,o,sl,e,r,hi⟩:=x.ks_.at hk;have:=(List.getElem?_eq_some_iff.1 hk).1;exact⟨b,o,sl,e,r,hi,x.len k (List.mem_of_getElem? hk),by rw[x.ks_.slen];exact this⟩
theorem Ya{n:NV}(hK:K (aQ ⟨0,0,⟨0,0,cM,cM,⟨none,0,0⟩⟩,⟨none,0,0⟩,⟨none,0,0⟩,n.q.group,n.q.order,n.q.limit,⟨none,0,0⟩⟩) m h):L9 n m h K:=hK
theorem rM:Sound Tryz.prog 177 zY:=by
 refine iB Tryz.func177 ?_;rintro cvs m h K ⟨n,k,u,s,ps,q,ks,uq,rfl,hn,hu,hK⟩;refine⟨dM [(204,ZN)] [] [] [] false,rfl,aD Rn aF,Mb n k u m h K,by kernel_rfl,?_⟩;dsimp only[Mb,push_cast];have hl:=hn.ks_.slen;have hq:=hn.q_;have hq2:=hn.q_;obtain⟨op,ta,w,co,on,gr,od,li,args⟩:=q;obtain⟨op',ta',w',co',on',gr',od',li',args'⟩:=uq;have x:=hu.parts;have y:=hq.parts;refine aB (λh1=>⟨n.q,⟨n.q.op,u.table,u.where_,u.columns,u.on,u.group,u.order,u.limit,n.q.args⟩,_,.mk op ta' w' co' on' gr' od' li' args,rfl,hq2,pJ.rep ⟨y.op_,x.table_,x.where_,x.columns_,x.on_,x.group_,x.order_,x.limit_,y.args_⟩,λr hr=>hK r (hr.trans ⟨λe=>⟨?_,e⟩,λe=>e.2⟩)⟩) (λh1=>hK false ⟨λe=>(by cases e),λe=>?_⟩)
 .have:(n.args.len:Int)=k:=by simpa using h1
  omega
 .have:(n.args.len:Int)≠k:=by simpa using h1
  have:=e.1;omega
theorem Kh:Sound Tryz.prog 181 KB:=by
 refine iB Tryz.func181 ?_;rintro cvs m h K ⟨n,s,ps,q,ks,rfl,hn,hK⟩;refine⟨dM [] [] [] [] false,rfl,aF,L9 n m h K,by kernel_rfl,?_⟩;exact Ya hK
theorem X9{n:NV}{op:Int}{on:List (Int×Int)}{args:List Query}(hn:rN h s ps (.mk op ta w co on gr od li args) ks n)(ha:ks[0]? =some a)(hK:∀r:Bool,(r=true↔v8 a gr od li)->K (cB r) m h):DD n m h (kO h K):=by
 dsimp only[DD,push_cast];have x:=hn.q_.parts;have gl:=x.group_.slen;have glen:=x.group_.len;have ol:=x.order_.slen;have olen:=x.order_.len;have el:=x.limit_;obtain⟨b0,o0,sl,e0,r0,hi0,hl12,hlen⟩:=hn.arg ha;have sla:=hi0.slen;have bad:∀mx,Sub m mx->¬v8 a gr od li->kO h K (.val (.bool false)) mx h:=λmx hm hn=>.sub hm (hK false ⟨λe=>(by cases e),λe=>(hn e).elim⟩);refine⟨b0,o0,e0,aC,aC,sl,.imm (by simpa using r0),λb m1 hb hm1=>?_⟩;refine⟨λ⟨i,wd,b',mx⟩=>wd=a.length/\b'=b/\i<=gr.length/\Sub m mx/\TU mx b (gr.take i)/\eE (Hx a) gr i,λ⟨i,_,_,_⟩=>gr.length-i,⟨(0,sl.len,b,m1),⟨sla,rfl,aC,(Sub.refl m).upd hb.m_ hm1.other,.zero hm1.at_,.zero⟩,MT⟩,?_⟩;rintro⟨i,wd,b,mx⟩ ⟨rfl,rfl,hi,hsub,harr,hg⟩;dsimp only;refine aE (λhlt=>?_) (λhge=>?_)
 .obtain⟨c,hc⟩:=fG gl hlt;obtain⟨b1,o1,e1,r1⟩:=x.group_.at' hc;have gbad:¬Hx a (gr.take i) c->kO h K (.val (.bool false)) mx h:=λhn=>bad mx hsub λhh=>Good.not hc hn hh.group_;refine⟨b1,o1,e1,aC,hlt,c,.imm r1,aE (λh1=>gbad λhh=>?_) (λh1=>aE (λh2=>gbad λhh=>?_) (λh2=>?_))⟩
  .have:=kL.1 hh.1;omega
  .have:=kL.1 hh.1;omega
  obtain⟨y,hy,hys⟩:=harr.look (h:=h) (n:=c) aC aC;refine⟨aC,aC,y,hy,aB (λh3=>gbad λhh=>hh.2 (hys.1 h3)) (λh3=>?_)⟩;obtain⟨cs,E,hat,hsz,hst⟩:=harr.store (n:=c) aC aC;refine⟨aC,aC,cs,E,hat,hsz,λm2 hm2=>⟨(i+1,a.length,b,m2),⟨rfl,rfl,aC,hsub.upd hb.m_ hm2.other,?_,hg.succ hc ⟨kL.2 ⟨aC,aC⟩,λe=>?_⟩⟩,by show gr.length-(i+1)<gr.length-i;omega,MT⟩⟩
  .have:=hst m2 hm2
   rwa [List.take_add_one,hc]
  .rw[hys.2 e]at h3;cases h3
 have gg:=hg.all aC;refine⟨λ⟨i,wd,mx⟩=>wd=a.length/\i<=od.length/\Sub m mx/\eE (KG a) od i,λ⟨i,_,_⟩=>od.length-i,⟨(0,a.length,mx),⟨rfl,aC,hsub,.zero⟩,MT⟩,?_⟩;clear hi hg hge hsub harr mx;rintro⟨i,wd,mx⟩ ⟨rfl,hi,hsub,hoi⟩;dsimp only;refine aE (λhlt=>?_) (λhge=>?_)
 .obtain⟨c,hc⟩:=fG ol hlt;obtain⟨b1,o1,e1,r1⟩:=x.order_.at hc;have obad:¬KG a (od.take i) c->kO h K (.val (.bool false)) mx h:=λhn=>bad mx hsub λhh=>Good.not hc hn hh.order_;refine⟨b1,o1,e1,aC,hlt,c,.imm r1,aE (λh1=>obad λhh=>?_) (λh1=>aE (λh2=>obad λhh=>?_) (λh2=>⟨(i+1,a.length,mx),⟨rfl,aC,hsub,hoi.succ hc (kL.2 ⟨aC,aC⟩)⟩,by show od.length-(i+1)<od.length-i;omega,MT⟩))⟩
  .have:=kL.1 (show Cx a c.1=true from hh);omega
  .have:=kL.1 (show Cx a c.1=true from hh);omega
 have oo:=hoi.all aC;rw[el];refine aE (λh1=>aE (λh2=>?_) (λh2=>bad mx hsub λhh=>?_)) (λh1=>bad mx hsub λhh=>?_)
 .exact .sub hsub (hK (decide (li<=100)) ⟨λe=>⟨gg,oo,aC,h2,by simpa using e⟩,λe=>decide_eq_true e.high⟩)
 .have:=hh.low;omega
 .have:=hh.len_;omega
theorem Kg:Sound Tryz.prog 182 KC:=by
 refine FW Tryz.func182 ?_;rintro cvs m h K ⟨n,s,ps,q,ks,a,rfl,hn,ha,hK⟩;refine⟨V9 n h,rfl,aF,DD n m h (kO h K),by kernel_rfl,?_⟩;dsimp only[DD,push_cast];obtain⟨op,ta,w,co,on,gr,od,li,args⟩:=q;refine X9 hn ha (λr hr=>hK r (hr.trans ⟨λe=>⟨_,_,_,_,_,_,_,_,_,rfl,e⟩,?_⟩));rintro⟨_,_,_,_,_,_,_,_,_,e,hr⟩;cases e;exact hr
theorem Qy{on:List (Int×Int)}{sl:Sl}(hon:lK h sl on):dA h (.mk 0 0 hZ [] on [] [] 0 []) ⟨0,0,⟨0,0,cM,cM,⟨none,0,0⟩⟩,⟨none,0,0⟩,sl,⟨none,0,0⟩,⟨none,0,0⟩,0,⟨none,0,0⟩⟩:=
 pJ.rep ⟨rfl,rfl,AQ h,⟨.nil _ _,by simp⟩,hon,⟨.nil _ _,by simp⟩,⟨.nil _ _,by simp⟩,rfl,.nil _ _ _ _⟩
theorem Ki:Sound Tryz.prog 178 KF:=by
 refine FW Tryz.func178 ?_;rintro cvs m h K ⟨n,s,ps,q,ks,rfl,hn,hK⟩;refine⟨Wb n h,rfl,aD rM aF,DE n m h (kO h K),by kernel_rfl,?_⟩;dsimp only[DE,push_cast];obtain⟨op,ta,w,co,on,gr,od,li,args⟩:=q;show DE n m h (kO h K);dsimp only[DE,push_cast];have x:=hn.q_.parts;have ol:=x.on_.slen;have olen:=x.on_.len;have bad:∀mx,Sub m mx->¬Is ks (.mk op ta w co on gr od li args)->kO h K (.val (.bool false)) mx h:=λmx hm hn=>.sub hm (hK false ⟨λe=>(by cases e),λe=>(hn e).elim⟩);refine⟨n,2,⟨0,0,⟨0,0,cM,cM,⟨none,0,0⟩⟩,⟨none,0,0⟩,n.q.on,⟨none,0,0⟩,⟨none,0,0⟩,0,⟨none,0,0⟩⟩,s,ps,_,ks,.mk 0 0 hZ [] on [] [] 0 [],rfl,hn,Qy x.on_,λr hr=>aB (λh1=>bad m (Sub.refl m) λhh=>?_) (λh1=>?_)⟩
 .have:r=true:=hr.2 ⟨by have:=hh.1;omega,by obtain⟨_,rfl,rfl,rfl,rfl,rfl,rfl,_⟩:=hh;rfl⟩;rw[this]at h1;cases h1
 obtain⟨hk2,heq⟩:=hr.1 (by simpa using h1);simp only[Query.withOf,Query.mk.injEq]at heq;obtain⟨_,rfl,rfl,rfl,_,rfl,rfl,rfl,_⟩:=heq
 obtain⟨a0,a1,rfl⟩:∃a0 a1,ks=[a0,a1]:=by
  match ks,hk2 with
  |[a0,a1],_=>exact⟨a0,a1,rfl⟩
  |[],h=>simp at h
  |[_],h=>simp at h
  |_::_::_::_,h=>simp at h;omega
 obtain⟨b0,o0,s0,e0,r0,i0,l0,j0⟩:=hn.arg (j:=0) rfl;obtain⟨b1,o1,s1,e1,r1,i1,l1,j1⟩:=hn.arg (j:=1) rfl;have sl0:=i0.slen;have sl1:=i1.slen;have bad:∀mx,Sub m mx->¬Good (tG a0 a1) on->kO h K (.val (.bool false)) mx h:=λmx hm hn=>bad mx hm λhh=>hn hh.2.2.2.2.2.2.2;refine⟨b0,o0,e0,aC,aC,s0,.imm (by simpa using r0),b1,o1,e1,aC,aC,s1,.imm (by simpa using r1),λb m1 hb hm1 c m2 hc hm2=>?_⟩;have hne:b≠c:=λe=>by have:=hc.m_;rw[<-e,hm1.at_]at this;cases this
 have hs1:Sub m m1:=(Sub.refl m).upd hb.m_ hm1.other;have hcm:m c=none:=hs1.free hc.m_
 refine⟨λ⟨i,s',t',b',c',mx⟩=>s'=s0/\t'=s1/\b'=b/\c'=c/\i<=on.length/\Sub m mx/\TU mx b ((on.take i).map Prod.fst)/\TU mx c ((on.take i).map Prod.snd)/\eE (tG a0 a1) on i,λ⟨i,_,_,_,_,_⟩=>on.length-i,
  ⟨(0,s0,s1,b,c,m2),⟨rfl,rfl,rfl,rfl,aC,hs1.upd hcm hm2.other,(TU.zero hm1.at_).other hne hm2.other,.zero hm2.at_,.zero⟩,MT⟩,?_⟩
 rintro⟨i,s0,s1,b,c,mx⟩ ⟨rfl,rfl,rfl,rfl,hi,hsub,hA,hB,hg⟩;dsimp only;refine aE (λhlt=>?_) (λhge=>.sub hsub (hK true ⟨λ_=>⟨rfl,rfl,rfl,rfl,rfl,rfl,rfl,hg.all aC⟩,λ_=>rfl⟩));obtain⟨p,hp⟩:=fG ol hlt;obtain⟨bp,op',ep,rp⟩:=x.on_.at hp;have pbad:¬tG a0 a1 (on.take i) p->kO h K (.val (.bool false)) mx h:=λhn=>bad mx hsub (Good.not hp hn);refine⟨bp,op',ep,aC,hlt,p,.imm rp,aC,aC,aC,aC,aE (λd1=>pbad λhh=>?_) (λd1=>aE (λd2=>pbad λhh=>?_) (λd2=>aE (λd3=>pbad λhh=>?_) (λd3=>aE (λd4=>pbad λhh=>?_) (λd4=>?_))))⟩
 .have:=kL.1 hh.1;omega
 .have:=kL.1 hh.1;omega
 .have:=kL.1 hh.2.1;omega
 .have:=kL.1 hh.2.1;omega
 obtain⟨b2,o2,e2,r2⟩:=i0.inb (n:=p.1) aC aC;obtain⟨b3,o3,e3,r3⟩:=i1.inb (n:=p.2) aC aC;obtain⟨y,hy,hys⟩:=hA.look (h:=h) (n:=p.1) aC aC;obtain⟨z,hz,hzs⟩:=hB.look (h:=h) (n:=p.2) aC aC;obtain⟨cs,E,hat,hsz,hst⟩:=hA.store (n:=p.1) aC aC;refine⟨b2,o2,e2,aC,aC,_,.imm r2,b3,o3,e3,aC,aC,_,.imm r3,aB (λd5=>pbad λhh=>?_) (λd5=>⟨aC,aC,y,hy,aB (λd6=>pbad λhh=>?_) (λd6=>⟨aC,aC,z,hz,aB (λd7=>pbad λhh=>?_) (λd7=>⟨aC,aC,cs,E,hat,hsz,λm3 hm3=>?_⟩)⟩)⟩)⟩
 .rw[hh.2.2.1]at d5;simp at d5
 .obtain⟨q,hq,e⟩:=List.mem_map.1 (hys.1 d6);exact(hh.2.2.2 q hq).1 e
 .obtain⟨q,hq,e⟩:=List.mem_map.1 (hzs.1 d7);exact(hh.2.2.2 q hq).2 e
 have hA3:=hst m3 hm3;have hB3:=hB.other hne.symm hm3.other;obtain⟨cs2,E2,hat2,hsz2,hst2⟩:=hB3.store (n:=p.2) aC aC;refine⟨aC,aC,cs2,E2,hat2,hsz2,λm4 hm4=>⟨(i+1,s0,s1,b,c,m4),⟨rfl,rfl,rfl,rfl,aC,(hsub.upd hb.m_ hm3.other).upd hcm hm4.other,?_,?_,hg.succ hp ⟨kL.2 ⟨aC,aC⟩,kL.2 ⟨aC,aC⟩,by simpa using d5,λq hq=>⟨λe=>?_,λe=>?_⟩⟩⟩,by show on.length-(i+1)<on.length-i;omega,MT⟩⟩
 .rw[fL hp];exact hA3.other hne hm4.other
 .rw[fL hp];exact hst2 m4 hm4
 .rw[hys.2 (List.mem_map.2 ⟨q,hq,e⟩)]at d6;cases d6
 .rw[hzs.2 (List.mem_map.2 ⟨q,hq,e⟩)]at d7;cases d7
def fin(r:List Int×Int):List Int×Int:=if r.2=0 then Ah r.1 else iY r.2
def Query.op:Query->Int
 |.mk op .. =>op
noncomputable def wE(s:oS)(ps:List Int)(q:Query)(ks:List (List Int)):List Int×Int:=if(ks.length:Int)=arity q.op then iC s ps q (ks.getD 0 []) (ks.getD 1 [])else iY 100
def wF(P:Int->Prop):Vc.Spec:=λcvs m h K=>∃n s ps q ks,cvs=[aN n]/\rN h s ps q ks n/\oU s/\P q.op/\∀r,fin r=wE s ps q ks->KR K m h r
def ZH(h:PH)(ss:Sl)(ks:List (List Int)):Prop:=bZ h 1 eS (λk sl=>Ints h sl k) ss ks
def Jg:Vc.Spec:=λcvs m h K=>∃ss ks,cvs=[cS ss]/\ZH h ss ks/\ks.length<=10/\(∀k∈ks,k.length<=12)/\∀sl h',PH.le h h'->Ints h' sl ks.flatten->K (cS sl) m h'
noncomputable def Wi(n:NV)(m:MH)(h:PH):Ctx:=
 dM [(177,zY)] [(5,{A:=Nat×List Int,st:=λ⟨i,l⟩=>cE 57 58 [(1,.at (.ptr 1 0)),(4,.at (.lst 25)),(28,sv n.q.columns),(29,iv n.q.columns.len),(30,iv i)] [(1,.cells 152 (n.enc.map .val)),(25,.lst 3 1 (l.map eI))] m h})] [] [] false
noncomputable abbrev Nk(a b:Value):List Value:=aI a b (aI aK aK (aI aK aK (aI aK aK (xU (A5 vO iN)))))
attribute [push_cast] Nk
def DL(n:NV)(m:MH)(h:PH)(K:CV->MH->PH->Prop):Prop:=
  yX (λn1 k u s p q k1 u1=>aA (kN (aI (qL n.s) (qK n.s) (aI (dO n.params) (dK n.q.op) (aI (mQ n.q) (mP n.q) (aI (dK (mR n.q)) (fW (gE n.q)) (fC n (fB n))))))::aT (eH 0) (kN (Nk aK (mQ n.q)))=kN (aI (qL n1.s) (qK n1.s) (aI (dO n1.params) (dK n1.q.op) (aI (mQ n1.q) (mP n1.q) (aI (dK (mR n1.q)) (fW (gE n1.q)) (fC n1 (fB n1))))))::aT (eH k) (cN u)) (rN h s p q k1 n1) (dA h u1 u/\∀(r:Bool),hX (dX r↔yW k1 k/\Cj q u1) (!r) (K (CV.tup (aY mW 100)) m h) (bC n.q.table 0 (K (CV.tup (aY mW 100)) m h) (fR n.q.table (gP n.s) (K (CV.tup (aY mW 100)) m h) (Bj (aY (bI n.s) n.q.table) h (λs1 h1=>K (CV.tup (aY (cW s1) 0)) m h1))))))
def DK(n:NV)(m:MH)(h:PH)(K:CV->MH->PH->Prop):Prop:=
  yX (λn1 k u s p q k1 u1=>aA (kN (aI (qL n.s) (qK n.s) (aI (dO n.params) (dK n.q.op) (aI (mQ n.q) (mP n.q) (aI (dK (mR n.q)) (fW (gE n.q)) (fC n (fB n))))))::aT (eH 1) (kN (aI aK aK (aI (mP n.q) (dK (mR n.q)) (aI (fW (gE n.q)) (sA (gE n.q)) (aI (dK (nM (gE n.q))) (nH (gE n.q)) (aI (lU (gE n.q)) (fW (fA n.q)) (aI (sA (fA n.q)) (dK (nM (fA n.q))) (aI (nH (fA n.q)) (lU (fA n.q)) (aI (oA n.q) vO (A5 vO iN))))))))))=kN (aI (qL n1.s) (qK n1.s) (aI (dO n1.params) (dK n1.q.op) (aI (mQ n1.q) (mP n1.q) (aI (dK (mR n1.q)) (fW (gE n1.q)) (fC n1 (fB n1))))))::aT (eH k) (cN u)) (rN h s p q k1 n1) (dA h u1 u/\∀(r:Bool),hX (dX r↔yW k1 k/\Cj q u1)
 (!r) (K (CV.tup (aY mW 100)) m h) (oK n m h (λ_ _ y=>Da (cW y::aT (cW n.params) (cY n.q.where_)) h (λc p1 p2=>dT (fX c p1 p2) 0 (K (CV.tup (aY mW (fX c p1 p2))) m h) (oK n m h (λ_ _ y1=>K (CV.tup (aY (cW y1) 0)) m h)))))))
def DJ(n:NV)(m:MH)(h:PH)(K:CV->MH->PH->Prop):Prop:=
  yX (λn1 k u s p q k1 u1=>aA (kN (aI (qL n.s) (qK n.s) (aI (dO n.params) (dK n.q.op) (aI (mQ n.q) (mP n.q) (aI (dK (mR n.q)) (fW (gE n.q)) (fC n (fB n))))))::aT (eH 1) (kN (aI aK aK (aI aK aK (aI aK aK (aI aK aK (aI HB aK (aI aK aK (aI aK HB (aI vO (oD n.q) (A5 vO iN))))))))))=kN (aI (qL n1.s) (qK n1.s) (aI (dO n1.params) (dK n1.q.op) (aI (mQ n1.q) (mP n1.q) (aI (dK (mR n1.q)) (fW (gE n1.q)) (fC n1 (fB n1))))))::aT (eH k) (cN u)) (rN h s p q k1 n1) (dA h u1 u/\∀(r:Bool),(dX r↔yW k1 k/\Cj q u1)->cR (!r) (K (CV.tup (aY mW 100)) m h) (aG n.q.columns==0) (K (CV.tup (aY mW 100)) m h) (aA (cD 0) (cD (aG n.q.columns)) (aA (rI (aG n.q.columns*
 8)) (rI (aG n.q.columns)) (∃(I:Nat×List Int->Prop)(m1:Nat×List Int->Nat),(∃(x:Nat×List Int),aA (I x) eM (aA (eL 25) (aJ n.q.columns) (aA (bN n.q.columns) (bD x.1) (aA (A8 n) (sI x.2) (dR m m h h)))))/\∀(x:Nat×List Int),I x->bC (↑x.1:Int) (aG n.q.columns) (aU (λb o=>aA (aX n.q.columns.a b o) (0<=(↑x.1:Int)) ((↑x.1:Int)<aG n.q.columns/\∃(y:Int),aM m h b (bM o x.1 1) (bT y)/\bC y 0 (K (CV.tup (aY mW 100)) m h) (oK n m h (λ_ _ y1=>fR y (aG y1) (K (CV.tup (aY mW 100)) m h) (oK n m h (λ_ _ y2=>aU (λb1 o1=>aA (aX y2.a b1 o1) (0<=y) (y<aG y2/\∃(y3:Int),aA (aM m h b1 (fN o1 y 1) (bT y3)) (De x.2) (gS (jP x.2)/\∃(x1:Nat×List Int),aA (I x1) (m1 x1<m1 x) (aA eM (eL 25) (aA
 (aJ n.q.columns) (bN n.q.columns) (aA (fM (bE x.1 1)=bX x1.1) (A8 n) (cT (sJ x.2 y3 x1.2) m m h h)))))))))))))) (cC (λs1 h1=>bJ h h1 (a8 h1 s1 1 (jP x.2)) (K (CV.tup (aY (cW s1) 0)) m h1))))))))
noncomputable abbrev iG(a:NV)(b:List Value):List CV:=kA (kN (aI (qL a.s) (qK a.s) (aI (dO a.params) (dK a.q.op) (aI (mQ a.q) (mP a.q) (aI (dK (mR a.q)) (fW (gE a.q)) b)))))
abbrev FJ(a:Nat->Nat->Option Value)(b:List (List Value))(c:Sl->PH->Sl->Prop):Prop:=cC (λx x1=>bJ a x1 (a8 x1 x 1 b) (∃(x2:Sl),c x x1 x2))
attribute [push_cast] iG FJ
def DI(n:NV)(m:MH)(h:PH)(K:CV->MH->PH->Prop):Prop:=
  ∃(n1:NV),A3 (λs p q k=>aA (iG n (fC n (fB n))=iG n1 (fC n1 (fB n1))) (rN h s p q k n1) (∀(r:Bool),hX (dX r↔Is k q) (!r) (K (CV.tup (aY mW 100)) m h) (oK n m h (λb o y=>aU (λb1 o1=>aA (aX n.args.a b1 o1) ((0:Int)<=1) (1<aG n.args/\∃(y1:Sl),aA (aM m h b1 (o1+1) (aR y1)) (aZ h b (o+0) (aR y)) (aZ h b1 (o1+1) (aR y1)/\FJ h (aR y::fO (aR y1)) (λs1 h1 s2=>∃(k1:List (List Int)),aA (fT s1=fT s2) (ZH h1 s2 k1) (aA (k1.length<=10) (∀(k2:List Int),List.Mem k2 k1->k2.length<=12) (cC (λs3 h2=>bJ h1 h2 (Ints h2 s3 k1.flatten) (K (CV.tup (aY (cW s3) 0)) m h2))))))))))))
def DH(n:NV)(m:MH)(h:PH)(K:CV->MH->PH->Prop):Prop:=
  ∃(n1:NV),A3 (λs p q k=>aA (iG n (fC n (fB n))=iG n1 (fC n1 (fB n1))) (rN h s p q k n1) (∀(r:Bool),hX (dX r↔Is k q) (!r) (K (CV.tup (aY mW 100)) m h) (oK n m h (λ_ _ y=>K (CV.tup (aY (cW y) 0)) m h))))
def Hf(n:NV)(m:MH)(h:PH)(K:CV->MH->PH->Prop):Prop:=
  yX (λn1 k u s p q k1 u1=>aA (kN (aI (qL n.s) (qK n.s) (aI (dO n.params) (dK n.q.op) (aI (mQ n.q) (mP n.q) (aI (dK (mR n.q)) (fW (gE n.q)) (fC n (fB n))))))::aT (eH 2) (kN zV)=kN (aI (qL n1.s) (qK n1.s) (aI (dO n1.params) (dK n1.q.op) (aI (mQ n1.q) (mP n1.q) (aI (dK (mR n1.q)) (fW (gE n1.q)) (fC n1 (fB n1))))))::aT (eH k) (cN u)) (rN h s p q k1 n1) (dA h u1 u/\∀(r:Bool),hX (dX r↔yW k1 k/\Cj q u1) (!r) (K (CV.tup (aY mW 100)) m h) (oK n m h (λ_ _ y=>aU (λb o=>aA (aX n.args.a b o) ((0:Int)<=1) (1<aG n.args/\∃(y1:Sl),aM m h b (o+1) (aR y1)/\Fb y y1 h (λr1=>(!r1)) (K (CV.tup (aY mW 100)) m h) (oK n m h (λ_ _ y2=>K (CV.tup (aY (cW y2) 0)) m h))))))))
abbrev GG(a:(List Int)->(List (Int×Bool))->Prop):Prop:=∃(x:List Int)(x1:List (Int×Bool)),a x x1
attribute [push_cast] GG
def DG(n:NV)(m:MH)(h:PH)(K:CV->MH->PH->Prop):Prop:=
  ∃(n1:NV),A3 (λs p q k=>aA (iG n (fC n (fB n))=iG n1 (fC n1 (fB n1))) (rN h s p q k n1) (yX (λn2 k1 u s1 p1 q1 k2 u1=>aA (kN (aI (qL n.s) (qK n.s) (aI (dO n.params) (dK n.q.op) (aI (mQ n.q) (mP n.q) (aI (dK (mR n.q)) (fW (gE n.q)) (fC n (fB n))))))::aT (eH 1) (kN (aI aK aK (aI aK aK (aI aK aK (aI aK aK (xU (IA n1.q)))))))=kN (aI (qL n2.s) (qK n2.s) (aI (dO n2.params) (dK n2.q.op) (aI (mQ n2.q) (mP n2.q) (aI (dK (mR n2.q)) (fW (gE n2.q)) (fC n2 (fB n2))))))::aT (eH k1) (cN u)) (rN h s1 p1 q1 k2 n2) (dA h u1 u/\∀(r:Bool),hX (dX r↔yW k2 k1/\Cj q1 u1) (!r) (K (CV.tup (aY mW 100)) m h) (∃(n3:NV),A3 (λs2 p2 q2 k3=>∃(a:List Int),aA (iG
 n (fC n (fB n))=iG n3 (fC n3 (fB n3))) (rN h s2 p2 q2 k3 n3) (k3[0]? =Option.some a/\∀(r1:Bool),hX (dX r1↔(∃(o t:Int)(w:Pred)(c:List Int)(o1:List (Int×Int)),GG (λg o2=>∃(l:Int)(a1:List Query),q2=Query.mk o t w c o1 g o2 l a1/\v8 a g o2 l))) (!r1) (K (CV.tup (aY mW 100)) m h) (oK n m h (λ_ _ y=>K (CV.tup (aY (cW y) 0)) m h)))))))))
def DF(n:NV)(m:MH)(h:PH)(K:CV->MH->PH->Prop):Prop:=
  ∃(n1:NV),A3 (λs p q k=>aA (iG n (fC n (fB n))=iG n1 (fC n1 (fB n1))) (rN h s p q k n1) (yX (λn2 k1 u s1 p1 q1 k2 u1=>aA (kN (aI (qL n.s) (qK n.s) (aI (dO n.params) (dK n.q.op) (aI (mQ n.q) (mP n.q) (aI (dK (mR n.q)) (fW (gE n.q)) (fC n (fB n))))))::aT (eH 2) (kN (aI aK aK (aI aK aK (aI aK aK (aI aK aK (xU (IA n1.q)))))))=kN (aI (qL n2.s) (qK n2.s) (aI (dO n2.params) (dK n2.q.op) (aI (mQ n2.q) (mP n2.q) (aI (dK (mR n2.q)) (fW (gE n2.q)) (fC n2 (fB n2))))))::aT (eH k1) (cN u)) (rN h s1 p1 q1 k2 n2) (dA h u1 u/\∀(r:Bool),hX (dX r↔yW k2 k1/\Cj q1 u1) (!r) (K (CV.tup (aY mW 100)) m h) (oK n m h (λb o y=>aU (λb1 o1=>aA (aX n.args.a b1
 o1) ((0:Int)<=1) (1<aG n.args/\∃(y1:Sl),aM m h b1 (o1+1) (aR y1)/\Fb y y1 h (λr1=>(!r1)) (aA (aZ h b (o+0) (aR y)) (aZ h b1 (o1+1) (aR y1)) (K (CV.tup (aY mW 100)) m h)) (aA (aZ h b (o+0) (aR y)) (aZ h b1 (o1+1) (aR y1)) (∃(n3:NV),A3 (λs2 p2 q2 k3=>∃(a:List Int),aA (iG n (fC n (fB n))=iG n3 (fC n3 (fB n3))) (rN h s2 p2 q2 k3 n3) (k3[0]? =Option.some a/\∀(r1:Bool),hX (dX r1↔(∃(o2 t:Int)(w:Pred)(c:List Int)(o3:List (Int×Int)),GG (λg o4=>∃(l:Int)(a1:List Query),q2=Query.mk o2 t w c o3 g o4 l a1/\v8 a g o4 l))) (!r1) (K (CV.tup (aY mW 100)) m h) (oK n m h (λ_ _ y2=>K (CV.tup (aY (cW y2) 0)) m h))))))))))))))
theorem Xy{e:Int}(h:e≠0):fin (iY e)=iY e:=by unfold fin;rw[if_neg (by simpa[iY]using h)];rfl
theorem Xx(l:List Int):fin (l,0)=Ah l:=by unfold fin;rw[if_pos rfl]
structure Vo(K:CV->MH->PH->Prop)(m:MH)(h:PH)(full:List Int×Int):Prop where
 all:∀r,fin r=full->KR K m h r
theorem Vo.err{f:List Int×Int}{e:Int}(x:Vo K m h f)(he:f=iY e)(h0:e≠0)(hle:PH.le h h'):K (.tup [.val (.slice none 0 0),.val (.int .i64 e)]) m h':=
 (x.all (iY e) (by rw[he,Xy h0])).err hle rfl
theorem Vo.ok{f:List Int×Int}{sl:Sl}(x:Vo K m h f)(he:f=Ah l)(hle:PH.le h h')(hi:Ints h' sl l):K (.tup [.val (.slice sl.a sl.len sl.cap),.val (.int .i64 0)]) m h':=
 x.all (l,0) (by rw[he,Xx]) sl h' hle hi
theorem tC(h:¬((ks.length:Int)=arity q.op/\dE q)):wE s ps q ks=iY 100:=by
 unfold wE;by_cases h1:(ks.length:Int)=arity q.op
 .rw[if_pos h1];unfold iC;rw[if_pos (.inr λe=>h ⟨h1,e⟩)]
 .rw[if_neg h1]
theorem nT{s:oS}{ps:List Int}{op ta:Int}{w:Pred}{co:List Int}{on:List (Int×Int)}{gr:List Int}{od:List (Int×Bool)}{li:Int}{args:List Query}{ks:List (List Int)}(h1:(ks.length:Int)=arity op)(h2:dE (.mk op ta w co on gr od li args))(h0:0<=arity op):
 wE s ps (.mk op ta w co on gr od li args) ks=iC s ps (.mk op ta w co on gr od li args) (ks.getD 0 []) (ks.getD 1 [])/\¬(arity op<0\/¬dE (.mk op ta w co on gr od li args)):=by
 unfold wE;rw[if_pos (show(ks.length:Int)=arity (Query.op (.mk op ta w co on gr od li args))from h1)];exact⟨rfl,λe=>e.elim (λe=>by omega) λe=>e h2⟩
section
variable{n:NV}{s:oS}{ps:List Int}{ta:Int}{w:Pred}{co:List Int}{on:List (Int×Int)}{gr:List Int}{od:List (Int×Bool)}{li:Int}{args:List Query}{ks:List (List Int)}{m:MH}{h:PH}{K:CV->MH->PH->Prop}
theorem QL(hk:(ks.length:Int)=1):∃a,ks=[a]:=by
 match ks,hk with
 |[a],_=>exact⟨a,rfl⟩
 |[],h=>simp at h
 |_::_::_,h=>simp at h;omega
theorem MX(hk:(ks.length:Int)=2):∃a b,ks=[a,b]:=by
 match ks,hk with
 |[a,b],_=>exact⟨a,b,rfl⟩
 |[],h=>simp at h
 |[_],h=>simp at h
 |_::_::_::_,h=>simp at h;omega
theorem Yn(hn:rN h s ps (.mk 1 ta w co on gr od li args) ks n)(h8:oU s)(hT:Vo K m h (wE s ps (.mk 1 ta w co on gr od li args) ks)):DL n m h K:=by
 dsimp only[DL,push_cast];have x:=hn.q_.parts;have et:=x.table_;have sl:=hn.s_.tables.slen;refine⟨n,0,⟨0,n.q.table,⟨0,0,cM,cM,⟨none,0,0⟩⟩,⟨none,0,0⟩,⟨none,0,0⟩,⟨none,0,0⟩,⟨none,0,0⟩,0,⟨none,0,0⟩⟩,s,ps,_,ks,.mk 0 ta hZ [] [] [] [] 0 [],rfl,hn,pJ.rep ⟨rfl,et,AQ h,⟨.nil _ _,by simp⟩,⟨.nil _ _,by simp⟩,⟨.nil _ _,by simp⟩,⟨.nil _ _,by simp⟩,rfl,.nil _ _ _ _⟩,λr hr=>aB (λh1=>hT.err (tC λe=>?_) aC (.refl _)) (λh1=>?_)⟩
 .have:r=true:=hr.2 ⟨e.1,by have:=e.2;simp[dE]at this;obtain⟨rfl,rfl,rfl,rfl,rfl,rfl⟩:=this;rfl⟩;rw[this]at h1;cases h1
 obtain⟨hk,heq⟩:=hr.1 (by simpa using h1);simp only[Query.withOf,Query.mk.injEq]at heq;obtain⟨_,_,rfl,rfl,rfl,rfl,rfl,rfl,_⟩:=heq;obtain⟨hf,hg⟩:=nT (s:=s) (ps:=ps) (op:=1) (ta:=ta) (w:=hZ) (co:=[]) (on:=[]) (gr:=[]) (od:=[]) (li:=0) (args:=args) (ks:=ks) hk (by simp[dE]) (by decide);rw[hf]at hT;unfold iC at hT;rw[if_neg hg]at hT;dsimp only at hT;rw[if_pos rfl]at hT;refine aE (λd1=>hT.err (if_neg aC) aC (.refl _)) (λd1=>aE (λd2=>hT.err (if_neg aC) aC (.refl _)) (λd2=>⟨n.s,s,n.q.table,rfl,hn.s_,h8,λsl h' hle hi=>?_⟩));rw[et]at hi;exact hT.ok (if_pos aC) hle hi
theorem Yl(hn:rN h s ps (.mk 2 ta w co on gr od li args) ks n)(hT:Vo K m h (wE s ps (.mk 2 ta w co on gr od li args) ks)):DK n m h K:=by
 dsimp only[DK,push_cast];have x:=hn.q_.parts;refine⟨n,1,⟨0,0,n.q.where_,⟨none,0,0⟩,⟨none,0,0⟩,⟨none,0,0⟩,⟨none,0,0⟩,0,⟨none,0,0⟩⟩,s,ps,_,ks,.mk 0 0 w [] [] [] [] 0 [],rfl,hn,pJ.rep ⟨rfl,rfl,x.where_,⟨.nil _ _,by simp⟩,⟨.nil _ _,by simp⟩,⟨.nil _ _,by simp⟩,⟨.nil _ _,by simp⟩,rfl,.nil _ _ _ _⟩,λr hr=>aB (λh1=>hT.err (tC λe=>?_) aC (.refl _)) (λh1=>?_)⟩
 .have:r=true:=hr.2 ⟨e.1,by have:=e.2;simp[dE]at this;obtain⟨rfl,rfl,rfl,rfl,rfl,rfl⟩:=this;rfl⟩;rw[this]at h1;cases h1
 obtain⟨hk,heq⟩:=hr.1 (by simpa using h1);simp only[Query.withOf,Query.mk.injEq]at heq;obtain⟨_,rfl,_,rfl,rfl,rfl,rfl,rfl,_⟩:=heq;obtain⟨hf,hg⟩:=nT (s:=s) (ps:=ps) (op:=2) (ta:=0) (w:=w) (co:=[]) (on:=[]) (gr:=[]) (od:=[]) (li:=0) (args:=args) (ks:=ks) hk (by simp[dE]) (by decide);rw[hf]at hT;unfold iC at hT;rw[if_neg hg]at hT;dsimp only at hT;rw[if_neg (by decide),if_pos rfl]at hT;obtain⟨a,rfl⟩:=QL hk;obtain⟨b0,o0,s0,e0,r0,i0,l0,j0⟩:=hn.arg (j:=0) rfl;simp only[List.getD_cons_zero]at hT;refine⟨b0,o0,e0,aC,aC,s0,.imm (by simpa using r0),s0,n.params,n.q.where_,a,ps,w,rfl,i0,hn.ps_,x.where_,aB (λd1=>hT.err (if_neg (by simpa using d1)) (by simpa using d1) (.refl _)) (λd1=>⟨b0,o0,e0,aC,aC,s0,.imm (by simpa using r0),hT.ok (if_pos (by simpa using d1)) (.refl _) i0⟩)⟩
theorem Yi(hn:rN h s ps (.mk 5 ta w co on gr od li args) ks n)(hT:Vo K m h (wE s ps (.mk 5 ta w co on gr od li args) ks)):DH n m h K:=by
 dsimp only[DH,push_cast];refine⟨n,s,ps,_,ks,rfl,hn,λr hr=>aB (λh1=>hT.err ?_ aC (.refl _)) (λh1=>?_)⟩
 .by_cases hb:((ks.length:Int)=arity 5/\dE (.mk 5 ta w co on gr od li args))
  .obtain⟨hf,hg⟩:=nT (s:=s) (ps:=ps) hb.1 hb.2 (by decide);rw[hf];unfold iC;rw[if_neg hg];dsimp only;rw[if_neg (by decide),if_neg (by decide),if_neg (by decide),if_neg (by decide),if_pos rfl,if_neg];intro hgood;have h2:=hb.2;simp[dE]at h2;have:r=true:=hr.2 ⟨by have:=hb.1;simp[arity]at this;omega,h2.1,h2.2.1,h2.2.2.1,h2.2.2.2.1,h2.2.2.2.2.1,h2.2.2.2.2.2,hgood⟩;rw[this]at h1;cases h1
  .exact tC hb
 obtain⟨hk,rfl,rfl,rfl,rfl,rfl,rfl,hgood⟩:=hr.1 (by simpa using h1);obtain⟨hf,hg⟩:=nT (s:=s) (ps:=ps) (op:=5) (ta:=0) (w:=hZ) (co:=[]) (on:=on) (gr:=[]) (od:=[]) (li:=0) (args:=args) (ks:=ks) (by rw[hk];rfl) (by simp[dE]) (by decide);rw[hf]at hT;unfold iC at hT;rw[if_neg hg]at hT;dsimp only at hT;rw[if_neg (by decide),if_neg (by decide),if_neg (by decide),if_neg (by decide),if_pos rfl,if_pos hgood]at hT;obtain⟨a,b,rfl⟩:=MX (ks:=ks) aC;obtain⟨b0,o0,s0,e0,r0,i0,l0,j0⟩:=hn.arg (j:=0) rfl;exact⟨b0,o0,e0,aC,aC,s0,.imm (by simpa using r0),hT.ok rfl (.refl _) i0⟩
theorem Yj(hn:rN h s ps (.mk 4 ta w co on gr od li args) ks n)(hT:Vo K m h (wE s ps (.mk 4 ta w co on gr od li args) ks)):DI n m h K:=by
 dsimp only[DI,push_cast];refine⟨n,s,ps,_,ks,rfl,hn,λr hr=>aB (λh1=>hT.err ?_ aC (.refl _)) (λh1=>?_)⟩
 .by_cases hb:((ks.length:Int)=arity 4/\dE (.mk 4 ta w co on gr od li args))
  .obtain⟨hf,hg⟩:=nT (s:=s) (ps:=ps) hb.1 hb.2 (by decide);rw[hf];unfold iC;rw[if_neg hg];dsimp only;rw[if_neg (by decide),if_neg (by decide),if_neg (by decide),if_pos rfl,if_neg];intro hgood;have h2:=hb.2;simp[dE]at h2;have:r=true:=hr.2 ⟨by have:=hb.1;simp[arity]at this;omega,h2.1,h2.2.1,h2.2.2.1,h2.2.2.2.1,h2.2.2.2.2.1,h2.2.2.2.2.2,hgood⟩;rw[this]at h1;cases h1
  .exact tC hb
 obtain⟨hk,rfl,rfl,rfl,rfl,rfl,rfl,hgood⟩:=hr.1 (by simpa using h1);obtain⟨hf,hg⟩:=nT (s:=s) (ps:=ps) (op:=4) (ta:=0) (w:=hZ) (co:=[]) (on:=on) (gr:=[]) (od:=[]) (li:=0) (args:=args) (ks:=ks) (by rw[hk];rfl) (by simp[dE]) (by decide);rw[hf]at hT;unfold iC at hT;rw[if_neg hg]at hT;dsimp only at hT;rw[if_neg (by decide),if_neg (by decide),if_neg (by decide),if_pos rfl,if_pos hgood]at hT;obtain⟨a,b,rfl⟩:=MX (ks:=ks) aC;obtain⟨b0,o0,s0,e0,r0,i0,l0,j0⟩:=hn.arg (j:=0) rfl;obtain⟨b1,o1,s1,e1,r1,i1,l1,j1⟩:=hn.arg (j:=1) rfl;refine⟨b0,o0,e0,aC,aC,s0,.imm (by simpa using r0),b1,o1,e1,aC,aC,s1,.imm (by simpa using r1),by simpa using r0,by simpa using r1,λsl h' hle hrow=>⟨sl,[a,b],rfl,⟨⟨[s0,s1],hrow,rfl,λj k hk=>?_⟩,by simp⟩,by simp,λk hk=>hn.len k hk,λsl2 h2 hle2 hi2=>hT.ok (l:=a++b) (by simp) (hle.trans hle2) (by simpa using hi2)⟩⟩
 match j,hk with
 |0,hk=>simp at hk;subst hk;exact⟨s0,rfl,i0.mono hle⟩
 |1,hk=>simp at hk;subst hk;exact⟨s1,rfl,i1.mono hle⟩
 |_+2,hk=>simp at hk
theorem Yh{op:Int}(hop:op=6\/op=7\/op=8)(hn:rN h s ps (.mk op ta w co on gr od li args) ks n)(hT:Vo K m h (wE s ps (.mk op ta w co on gr od li args) ks)):Hf n m h K:=by
 dsimp only[Hf,push_cast];have x:=hn.q_.parts;have ha:arity op=2:=by rcases hop with rfl|rfl|rfl<;>rfl
 have hne:op≠1/\op≠2/\op≠3/\op≠4/\op≠5/\op≠9/\op≠10:=by omega
 refine⟨n,2,⟨0,0,⟨0,0,cM,cM,⟨none,0,0⟩⟩,⟨none,0,0⟩,⟨none,0,0⟩,⟨none,0,0⟩,⟨none,0,0⟩,0,⟨none,0,0⟩⟩,s,ps,_,ks,.mk 0 0 hZ [] [] [] [] 0 [],rfl,hn,pJ.rep ⟨rfl,rfl,AQ h,⟨.nil _ _,by simp⟩,⟨.nil _ _,by simp⟩,⟨.nil _ _,by simp⟩,⟨.nil _ _,by simp⟩,rfl,.nil _ _ _ _⟩,λr hr=>aB (λh1=>hT.err (tC λe=>?_) aC (.refl _)) (λh1=>?_)⟩
 .have e1:(ks.length:Int)=arity op:=e.1;have:r=true:=hr.2 ⟨aC,by have:=e.2;simp[dE,hne]at this;obtain⟨rfl,rfl,rfl,rfl,rfl,rfl,rfl⟩:=this;rfl⟩;rw[this]at h1;cases h1
 obtain⟨hk,heq⟩:=hr.1 (by simpa using h1);simp only[Query.withOf,Query.mk.injEq]at heq;obtain⟨_,rfl,rfl,rfl,rfl,rfl,rfl,rfl,_⟩:=heq;obtain⟨hf,hg⟩:=nT (s:=s) (ps:=ps) (op:=op) (ta:=0) (w:=hZ) (co:=[]) (on:=[]) (gr:=[]) (od:=[]) (li:=0) (args:=args) (ks:=ks) aC (by simp[dE]) aC;rw[hf]at hT;unfold iC at hT;rw[if_neg hg]at hT;dsimp only at hT;rw[if_neg hne.1,if_neg hne.2.1,if_neg hne.2.2.1,if_neg hne.2.2.2.1,if_neg hne.2.2.2.2.1,if_neg hne.2.2.2.2.2.1,if_neg hne.2.2.2.2.2.2]at hT;obtain⟨a,b,rfl⟩:=MX hk;obtain⟨b0,o0,s0,e0,r0,i0,l0,j0⟩:=hn.arg (j:=0) rfl;obtain⟨b1,o1,s1,e1,r1,i1,l1,j1⟩:=hn.arg (j:=1) rfl;refine⟨b0,o0,e0,aC,aC,s0,.imm (by simpa using r0),b1,o1,e1,aC,aC,s1,.imm (by simpa using r1),s0,s1,a,b,rfl,i0,i1,λr2 hr2=>aB (λd1=>hT.err (if_neg λe=>?_) aC (.refl _)) (λd1=>⟨b0,o0,e0,aC,aC,s0,.imm (by simpa using r0),hT.ok (if_pos (hr2.1 (by simpa using d1))) (.refl _) i0⟩)⟩;have e:a=b:=e;rw[hr2.2 e]at d1;cases d1
theorem Yk(hn:rN h s ps (.mk 3 ta w co on gr od li args) ks n)(hT:Vo K m h (wE s ps (.mk 3 ta w co on gr od li args) ks)):DJ n m h K:=by
 dsimp only[DJ,push_cast];have x:=hn.q_.parts;have cl:=x.columns_.slen;have clen:=x.columns_.len;refine⟨n,1,⟨0,0,⟨0,0,cM,cM,⟨none,0,0⟩⟩,n.q.columns,⟨none,0,0⟩,⟨none,0,0⟩,⟨none,0,0⟩,0,⟨none,0,0⟩⟩,s,ps,_,ks,.mk 0 0 hZ co [] [] [] 0 [],rfl,hn,pJ.rep ⟨rfl,rfl,AQ h,x.columns_,⟨.nil _ _,by simp⟩,⟨.nil _ _,by simp⟩,⟨.nil _ _,by simp⟩,rfl,.nil _ _ _ _⟩,λr hr=>aB (λh1=>hT.err (tC λe=>?_) aC (.refl _)) (λh1=>?_)⟩
 .have:r=true:=hr.2 ⟨e.1,by have:=e.2;simp[dE]at this;obtain⟨rfl,rfl,rfl,rfl,rfl,rfl⟩:=this;rfl⟩;rw[this]at h1;cases h1
 obtain⟨hk,heq⟩:=hr.1 (by simpa using h1);simp only[Query.withOf,Query.mk.injEq]at heq;obtain⟨_,rfl,rfl,_,rfl,rfl,rfl,rfl,_⟩:=heq;obtain⟨hf,hg⟩:=nT (s:=s) (ps:=ps) (op:=3) (ta:=0) (w:=hZ) (co:=co) (on:=[]) (gr:=[]) (od:=[]) (li:=0) (args:=args) (ks:=ks) hk (by simp[dE]) (by decide);rw[hf]at hT;unfold iC at hT;rw[if_neg hg]at hT;dsimp only at hT;rw[if_neg (by decide),if_neg (by decide),if_pos rfl]at hT;obtain⟨a,rfl⟩:=QL hk;obtain⟨b0,o0,s0,e0,r0,i0,l0,j0⟩:=hn.arg (j:=0) rfl;have sl0:=i0.slen;simp only[List.getD_cons_zero]at hT;refine aB (λd1=>hT.err (if_neg λe=>e.1 ((DX cl).1 d1)) aC (.refl _)) (λd1=>?_);have hne:co≠[]:=λe=>by rw[(DX cl).2 e]at d1;cases d1
 refine⟨aC,aC,aC,aC,λ⟨i,l⟩=>i<=co.length/\l=(co.take i).map (λc=>a.getD c.toNat 0)/\eE (λ_ c=>Cx a c=true) co i,λ⟨i,_⟩=>co.length-i,⟨(0,[]),⟨aC,by simp,.zero⟩,MT⟩,?_⟩;rintro⟨i,_⟩ ⟨hi,rfl,hgo⟩;dsimp only;refine aE (λhlt=>?_) (λhge sl h' hle hrow=>?_)
 .obtain⟨c,hc⟩:=fG cl hlt;obtain⟨b1,o1,ea1,r1⟩:=x.columns_.at' hc;have cbad:¬Cx a c=true->K (.tup [.val (.slice none 0 0),.val (.int .i64 100)]) m h:=λhx=>hT.err (if_neg λe=>hx (e.2 i c hc)) aC (.refl _);refine⟨b1,o1,ea1,aC,hlt,c,.imm r1,aE (λd2=>cbad λe=>?_) (λd2=>⟨b0,o0,e0,aC,aC,s0,.imm (by simpa using r0),aE (λd3=>cbad λe=>?_) (λd3=>?_)⟩)⟩
  .have:=kL.1 e;omega
  .have:=kL.1 e;omega
  obtain⟨b2,o2,ea2,r2⟩:=i0.inb (n:=c) aC aC;refine⟨b0,o0,e0,aC,aC,s0,.imm (by simpa using r0),b2,o2,ea2,aC,aC,_,.imm r2,?_,?_,(i+1,(co.take (i+1)).map (λc=>a.getD c.toNat 0)),⟨aC,rfl,hgo.succ hc (kL.2 ⟨aC,aC⟩)⟩,by show co.length-(i+1)<co.length-i;omega,?_⟩
  .simp;omega
  .simp;omega
  .rw[fL hc,List.map_append];exact MT
 .rw[List.take_of_length_le aC]at hrow;exact hT.ok (if_pos ⟨hne,hgo.all aC⟩) hle ⟨hrow,by simp;omega⟩
theorem Yg(hn:rN h s ps (.mk 9 ta w co on gr od li args) ks n)(hT:Vo K m h (wE s ps (.mk 9 ta w co on gr od li args) ks)):DG n m h K:=by
 dsimp only[DG,push_cast];have x:=hn.q_.parts;refine⟨n,s,ps,_,ks,rfl,hn,n,1,⟨0,0,⟨0,0,cM,cM,⟨none,0,0⟩⟩,⟨none,0,0⟩,⟨none,0,0⟩,n.q.group,n.q.order,n.q.limit,⟨none,0,0⟩⟩,s,ps,_,ks,.mk 0 0 hZ [] [] gr od li [],rfl,hn,pJ.rep ⟨rfl,rfl,AQ h,⟨.nil _ _,by simp⟩,⟨.nil _ _,by simp⟩,x.group_,x.order_,x.limit_,.nil _ _ _ _⟩,λr hr=>aB (λh1=>hT.err (tC λe=>?_) aC (.refl _)) (λh1=>?_)⟩
 .have:r=true:=hr.2 ⟨e.1,by have:=e.2;simp[dE]at this;obtain⟨rfl,rfl,rfl,rfl⟩:=this;rfl⟩;rw[this]at h1;cases h1
 obtain⟨hk,heq⟩:=hr.1 (by simpa using h1);simp only[Query.withOf,Query.mk.injEq]at heq;obtain⟨_,rfl,rfl,rfl,rfl,_,_,_,_⟩:=heq;obtain⟨hf,hg⟩:=nT (s:=s) (ps:=ps) (op:=9) (ta:=0) (w:=hZ) (co:=[]) (on:=[]) (gr:=gr) (od:=od) (li:=li) (args:=args) (ks:=ks) hk (by simp[dE]) (by decide);rw[hf]at hT;unfold iC at hT;rw[if_neg hg]at hT;dsimp only at hT;rw[if_neg (by decide),if_neg (by decide),if_neg (by decide),if_neg (by decide),if_neg (by decide),if_pos rfl]at hT;obtain⟨a,rfl⟩:=QL hk;obtain⟨b0,o0,s0,e0,r0,i0,l0,j0⟩:=hn.arg (j:=0) rfl;refine⟨n,s,ps,_,[a],a,rfl,hn,rfl,λr2 hr2=>aB (λd1=>hT.err (if_neg λe=>?_) aC (.refl _)) (λd1=>⟨b0,o0,e0,aC,aC,s0,.imm (by simpa using r0),hT.ok (if_pos ?_) (.refl _) i0⟩)⟩
 .rw[hr2.2 ⟨_,_,_,_,_,_,_,_,_,rfl,e⟩]at d1;cases d1
 .obtain⟨_,_,_,_,_,_,_,_,_,e,hh⟩:=hr2.1 (by simpa using d1);cases e;exact hh
theorem Yf(hn:rN h s ps (.mk 10 ta w co on gr od li args) ks n)(hT:Vo K m h (wE s ps (.mk 10 ta w co on gr od li args) ks)):DF n m h K:=by
 dsimp only[DF,push_cast];have x:=hn.q_.parts;refine⟨n,s,ps,_,ks,rfl,hn,n,2,⟨0,0,⟨0,0,cM,cM,⟨none,0,0⟩⟩,⟨none,0,0⟩,⟨none,0,0⟩,n.q.group,n.q.order,n.q.limit,⟨none,0,0⟩⟩,s,ps,_,ks,.mk 0 0 hZ [] [] gr od li [],rfl,hn,pJ.rep ⟨rfl,rfl,AQ h,⟨.nil _ _,by simp⟩,⟨.nil _ _,by simp⟩,x.group_,x.order_,x.limit_,.nil _ _ _ _⟩,λr hr=>aB (λh1=>hT.err (tC λe=>?_) aC (.refl _)) (λh1=>?_)⟩
 .have:r=true:=hr.2 ⟨e.1,by have:=e.2;simp[dE]at this;obtain⟨rfl,rfl,rfl,rfl⟩:=this;rfl⟩;rw[this]at h1;cases h1
 obtain⟨hk,heq⟩:=hr.1 (by simpa using h1);simp only[Query.withOf,Query.mk.injEq]at heq;obtain⟨_,rfl,rfl,rfl,rfl,_,_,_,_⟩:=heq;obtain⟨hf,hg⟩:=nT (s:=s) (ps:=ps) (op:=10) (ta:=0) (w:=hZ) (co:=[]) (on:=[]) (gr:=gr) (od:=od) (li:=li) (args:=args) (ks:=ks) hk (by simp[dE]) (by decide);rw[hf]at hT;unfold iC at hT;rw[if_neg hg]at hT;dsimp only at hT;rw[if_neg (by decide),if_neg (by decide),if_neg (by decide),if_neg (by decide),if_neg (by decide),if_neg (by decide),if_pos rfl]at hT;obtain⟨a,b,rfl⟩:=MX hk;obtain⟨b0,o0,s0,e0,r0,i0,l0,j0⟩:=hn.arg (j:=0) rfl;obtain⟨b1,o1,s1,e1,r1,i1,l1,j1⟩:=hn.arg (j:=1) rfl;refine⟨b0,o0,e0,aC,aC,s0,.imm (by simpa using r0),b1,o1,e1,aC,aC,s1,.imm (by simpa using r1),s0,s1,a,b,rfl,i0,i1,λr3 hr3=>aB (λd2=>⟨by simpa using r0,by simpa using r1,hT.err (if_neg λe=>?_) aC (.refl _)⟩) (λd2=>⟨by simpa using r0,by simpa using r1,n,s,ps,_,[a,b],a,rfl,hn,rfl,λr2 hr2=>aB (λd1=>hT.err (if_neg λe=>?_) aC (.refl _)) (λd1=>⟨b0,o0,e0,aC,aC,s0,.imm (by simpa using r0),hT.ok (if_pos ⟨hr3.1 (by simpa using d2),?_⟩) (.refl _) i0⟩)⟩)⟩
 .have e:a=b:=e.1;rw[hr3.2 e]at d2;cases d2
 .rw[hr2.2 ⟨_,_,_,_,_,_,_,_,_,rfl,e.2⟩]at d1;cases d1
 .obtain⟨_,_,_,_,_,_,_,_,_,e,hh⟩:=hr2.1 (by simpa using d1);cases e;exact hh
end
end Go.Ps
