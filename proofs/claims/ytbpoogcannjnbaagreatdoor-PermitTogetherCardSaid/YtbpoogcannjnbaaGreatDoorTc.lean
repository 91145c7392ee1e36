/- Own work. -/
import Derived.Test.YtbpoogcannjnbaaGreatDoorTb
set_option linter.unusedVariables false
set_option linter.unusedSimpArgs false
namespace Go.Ps
open Go Go.Vc Go.Proofs
variable{K:CV->MH->PH->Prop}{m:MH}{h:PH}{s:jR}{ps:List Int}{cb:Nat}{sc:bN}{v:QV}{q:Query}{p:Pred}{l:List Int}{i:Nat}{N:Nat}{m':MH}{h':PH}{co:List Int}{gr:List Int}{on:List (Int×Int)}{od:List (Int×Bool)}{w:Pred}{ta:Int}{li:Int}{xs:List (List Value)}{sz:Nat}{k:Nat}{ks:List (List Int)}{rs:List Int}{r:Sl}{a:List Int}{b:Nat}
def Sub(m m':MH):Prop:=∀b o,m b=some o->m' b=some o
theorem Sub.refl(m:MH):Sub m m:=λ_ _ e=>e
theorem Sub.trans{m'':MH}(h1:Sub m m')(h2:Sub m' m''):Sub m m'':=λb o e=>h2 b o (h1 b o e)
theorem Sub.free(h:Sub m m')(hb:m' b=none):m b=none:=by
 cases e:m b with
 |none=>rfl
 |some o=>rw[h b o e]at hb;cases hb
theorem Sub.upd{mx:MH}(h:Sub m mx)(hb:m b=none)(ho:∀b',b'≠b->m' b'=mx b'):Sub m m':=λb' o e=>by
 have hne:b'≠b:=λe'=>by rw[e',hb]at e;cases e
 rw[ho b' hne,h b' o e]
def GP(m:MH)(b:Nat)(ns:List ByteArray):Prop:=nU m b (ns.map λn=>(.string n,.bool true))
theorem GP.other{b':Nat}{ns:List ByteArray}(h:GP m b ns)(hne:b≠b')(ho:∀c,c≠b'->m' c=m c):GP m' b ns:=by
 obtain⟨es,cl,h1,h2⟩:=h.ex;exact⟨es,cl,by rw[ho b hne,h1],h2⟩
def W0:Vc.Spec:=λcvs m h K=>∃v s,cvs=[aS v]/\dV h s v/\∀r:Bool,(r=true↔Good Hy s.tables)->K (cB r) m h
noncomputable def WC(v:bN)(h:PH):Ctx:=
 dL [(143,Y1)] [(3,{A:=Nat×Nat×MH,st:=λ⟨i,b1,mx⟩=>cM 79 80 [(3,vv (.map (some b1))),(11,sv v.tables),(12,iv v.tables.len),(13,iv i)] [] mx h}),
  (10,{A:=Nat×Nat×Nat×Nat×Sl×MH,st:=λ⟨i,k,b1,b2,sl,mx⟩=>cM 79 80 [(3,vv (.map (some b1))),(6,vv (.map (some b2))),(11,sv v.tables),(12,iv v.tables.len),(13,iv i),(45,sv sl),(46,iv sl.len),(47,iv k)] [] mx h})] [] [] false
abbrev Aq(a:MH)(b:PH)(c:Nat->MH->Prop):Prop:=gA (λx x1=>bY a b x->eW a x1 x (Obj.map (Array.mk []) 0)->c x x1)
abbrev iF(a b:Nat):Prop:=SV.at (At.val (Value.map (Option.some a)))=SV.at (At.val (Value.map (Option.some b)))
abbrev lZ(a:bN):Prop:=aL a.tables
abbrev l7(a:bN):Prop:=aX a.tables
abbrev EO(a:Prop)(b:Nat)(c:bN)(d:Nat->Nat->bS->Prop)(e:Prop):Prop:=a->bE (↑b:Int) (aH c.tables) (bK (λx x1=>aA (bL c.tables.a x x1) (0<=(↑b:Int)) ((↑b:Int)<aH c.tables/\∃(x2:bS),d x x1 x2))) e
noncomputable abbrev vN(a:bS):List Value:=aJ (Value.string a.name) (bV a.columns) (aJ (cJ a.key) (bV a.references) (aM a.checks))
noncomputable abbrev wD(a:ByteArray):CV:=CV.val (Value.string a)
abbrev j6(a:Nat)(b:Value->Prop):Prop:=KeyLaw Proofs.Tryz.prog a b
abbrev Cv(a:MH)(b:Nat)(c:(Value->Prop)->Prop)(d:Value)(e:Prop)(g:Bool->Prop):Prop:=∃(x:List (Value×Bool))(x1:Value->Prop),aA (nU a b (List.map (fun(x2:Value×Bool)=>(x2.1,Value.bool x2.2)) x)) (j6 9 x1) (aA (c x1) (∀(x2:Value×Bool),List.Mem x2 x->x1 x2.1) (((∀(x2:Value×Bool),List.Mem x2 x->x2.1=d->False)->e)/\∀(x2:Bool),List.Mem (d,x2) x->g x2))
noncomputable abbrev AQ(a:bS):Value:=Value.string a.name
abbrev Qm(a:(List (Value×Value))->(Value->Prop)->Prop):Prop:=∃(x:List (Value×Value))(x1:Value->Prop),a x x1
noncomputable abbrev dO(a:List (Value×Value))(b c:Value)(d:List (Value×Value)):List (Value×Value):=a++(b,c)::d
noncomputable abbrev sV:Value:=Value.bool true
abbrev Al(a:Nat->Option Obj)(b:Nat)(c:(Value->Prop)->Prop)(d:Value)(e:MH->Prop):Prop:=Qm (λx x1=>aA (nU a b x) (j6 9 x1) (aA (c x1) (∀(x2:Value×Value),List.Mem x2 x->x1 x2.1) ((∀(x2:Value×Value),List.Mem x2 x->x2.1=d->False)/\∀(x2:MH),fK a x2 b->nU x2 b (dO x d sV [])->e x2)))
noncomputable abbrev wG(a:Nat×Nat×Nat×Nat×Sl×MH):Nat:=a.2.2.2.1
abbrev cF(a b:Nat):Prop:=bD (gI (↑a:Int)) b
noncomputable abbrev qF(a:Nat×Nat×Nat×Nat×Sl×MH):Sl:=a.2.2.2.2.1
noncomputable abbrev mT(a:Nat×Nat×Nat×Nat×Sl×MH):Nat->Option Obj:=a.2.2.2.2.2
abbrev CQ(a:sE)(b:Int)(c:Prop)(d:(Nat×Nat×Nat×Nat×Sl×MH)->Prop):Prop:=branch (a.kind !=b) c (∃(x:Nat×Nat×Nat×Nat×Sl×MH),d x)
abbrev EN(a:sE)(b c:Int)(d:CV->MH->PH->Prop)(e:MH)(g:PH)(i j:(Nat×Nat×Nat×Nat×Sl×MH)->Prop):Prop:=CQ a b (branch (a.kind !=c) (d aT e g) (∃(x:Nat×Nat×Nat×Nat×Sl×MH),i x)) (λx=>j x)
abbrev oD(a:Prop)(b c:Nat)(d e:Nat×Nat×Nat×Nat×Sl×MH)(g:bN)(i:Prop):Prop:=aA a (b<c) (aA (iF d.2.2.1 e.2.2.1) (iF (wG d) (wG e)) (aA (lZ g) (l7 g) (aA (cF d.1 e.1) (bA (qF d) (qF e)) i)))
abbrev oB(a b:Nat×Nat×Nat×Nat×Sl×MH)(c:MH)(d:PH):Prop:=uW (cO (qF a) (qF b)) (bD (gI (bC a.2.1 1)) b.2.1) c (mT b) d d
attribute [push_cast] Aq iF lZ l7 EO vN wD j6 Cv AQ Qm dO sV Al wG cF qF mT CQ EN oD oB
def GB(v:bN)(m:MH)(h:PH)(K:CV->MH->PH->Prop):Prop:=
  Aq m h (λb m1=>∃(I:Nat×Nat×MH->Prop)(m2:Nat×Nat×MH->Nat),MS (λx=>aA (I x) (iF b (fT x)) (aA (lZ v) (l7 v) (bT (bI x.1) m1 (eG x) h h))) (λx=>EO (I x) x.1 v (λb1 o y=>aI (eG x) h b1 (o+aZ x.1 5) (vN y)/\∃(s:ByteArray),eV (wD y.name) (wD s)/\branch (!(sO s)) (K aT (eG x) h) (Cv (eG x) (fT x) (λO=>O (AQ y)) (AQ y) (bE y.key 1 (K aT (eG x) h) (branch (decide (y.key>aH y.columns)) (K aT (eG x) h) (Al (eG x) (fT x) (λO=>O (AQ y)) (AQ y) (λm3=>Aq m3 h (λb2 m4=>∃(I1:Nat×Nat×Nat×Nat×Sl×MH->Prop)(m5:Nat×Nat×Nat×Nat×Sl×MH->Nat),(∃(x1:Nat×Nat×Nat×Nat×Sl×MH),aA (I1 x1) (iF (fT x) x1.2.2.1) (aA (iF b2 (wG x1)) (lZ
 v) (aA (l7 v) (cF x.1 x1.1) (aA (bA y.columns (qF x1)) (cO y.columns (qF x1)) (bT (bI x1.2.1) m4 (mT x1) h h)))))/\∀(x1:Nat×Nat×Nat×Nat×Sl×MH),I1 x1->bE (↑x1.2.1:Int) (aH (qF x1)) (bK (λb3 o1=>aA (bL (qF x1).a b3 o1) (0<=(↑x1.2.1:Int)) ((↑x1.2.1:Int)<aH (qF x1)/\∃(y1:sE),aI (mT x1) h b3 (o1+aZ x1.2.1 2) (lP (mS y1) (cJ y1.kind))/\∃(s1:ByteArray),eV (CV.val (mS y1)) (wD s1)/\branch (!(sO s1)) (K aT (mT x1) h) (Cv (mT x1) (wG x1) (λO=>O (mS y1)) (mS y1) (Al (mT x1) (wG x1) (λO=>O (mS y1)) (mS y1) (λm6=>CQ y1 3 (EN y1 4 5 K m6 h (λx2=>oD (I1 x2) (m5 x2) (m5 x1) x1 x2 v (oB x1 x2 m6 h)) (λx2=>oD (I1 x2) (m5 x2) (m5 x1) x1 x2 v (oB x1 x2 m6
 h))) (λx2=>oD (I1 x2) (m5 x2) (m5 x1) x1 x2 v (oB x1 x2 m6 h)))) (λy2=>branch y2 (K aT (mT x1) h) (Al (mT x1) (wG x1) (λO=>O (mS y1)) (mS y1) (λm6=>CQ y1 3 (EN y1 4 5 K m6 h (λx2=>oD (I1 x2) (m5 x2) (m5 x1) x1 x2 v (oB x1 x2 m6 h)) (λx2=>oD (I1 x2) (m5 x2) (m5 x1) x1 x2 v (oB x1 x2 m6 h))) (λx2=>oD (I1 x2) (m5 x2) (m5 x1) x1 x2 v (oB x1 x2 m6 h))))))))) (∃(x2:Nat×Nat×MH),aA (I x2) (m2 x2<m2 x) (aA (iF x1.2.2.1 (fT x2)) (lZ v) (aA (l7 v) (bD (gI (bC x1.1 1)) x2.1) (aA (mT x1=eG x2) (h=h) True))))))))) (λy1=>branch y1 (K aT (eG x) h) (bE y.key 1 (K aT (eG x) h) (branch (decide (y.key>aH y.columns)) (K aT (eG x) h) (Al (eG x) (fT x) (λO=>O (AQ y)) (AQ y) (λm3=>
 Aq m3 h (λb2 m4=>∃(I1:Nat×Nat×Nat×Nat×Sl×MH->Prop)(m5:Nat×Nat×Nat×Nat×Sl×MH->Nat),(∃(x1:Nat×Nat×Nat×Nat×Sl×MH),aA (I1 x1) (iF (fT x) x1.2.2.1) (aA (iF b2 (wG x1)) (lZ v) (aA (l7 v) (cF x.1 x1.1) (aA (bA y.columns (qF x1)) (cO y.columns (qF x1)) (bT (bI x1.2.1) m4 (mT x1) h h)))))/\∀(x1:Nat×Nat×Nat×Nat×Sl×MH),I1 x1->bE (↑x1.2.1:Int) (aH (qF x1)) (bK (λb3 o1=>aA (bL (qF x1).a b3 o1) (0<=(↑x1.2.1:Int)) ((↑x1.2.1:Int)<aH (qF x1)/\∃(y2:sE),aI (mT x1) h b3 (o1+aZ x1.2.1 2) (lP (mS y2) (cJ y2.kind))/\∃(s1:ByteArray),eV (CV.val (mS y2)) (wD s1)/\branch (!(sO s1)) (K aT (mT x1) h) (Cv (mT x1) (wG x1) (λO=>O (mS y2)) (mS y2) (Al
 (mT x1) (wG x1) (λO=>O (mS y2)) (mS y2) (λm6=>CQ y2 3 (EN y2 4 5 K m6 h (λx2=>oD (I1 x2) (m5 x2) (m5 x1) x1 x2 v (oB x1 x2 m6 h)) (λx2=>oD (I1 x2) (m5 x2) (m5 x1) x1 x2 v (oB x1 x2 m6 h))) (λx2=>oD (I1 x2) (m5 x2) (m5 x1) x1 x2 v (oB x1 x2 m6 h)))) (λy3=>branch y3 (K aT (mT x1) h) (Al (mT x1) (wG x1) (λO=>O (mS y2)) (mS y2) (λm6=>CQ y2 3 (EN y2 4 5 K m6 h (λx2=>oD (I1 x2) (m5 x2) (m5 x1) x1 x2 v (oB x1 x2 m6 h)) (λx2=>oD (I1 x2) (m5 x2) (m5 x1) x1 x2 v (oB x1 x2 m6 h))) (λx2=>oD (I1 x2) (m5 x2) (m5 x1) x1 x2 v (oB x1 x2 m6 h))))))))) (∃(x2:Nat×Nat×MH),aA (I x2) (m2 x2<m2 x) (aA (iF x1.2.2.1 (fT x2)) (lZ v) (aA (l7 v) (bD (gI (bC x1.1 1)) x2.1) (aA (mT x1=eG x2)
 (h=h) True)))))))))))) (K gF (eG x) h)))
theorem GP.snoc{ns:List ByteArray}{n:ByteArray}(h:nU m b ((ns.map λn=>(Value.string n,Value.bool true))++[(.string n,.bool true)])):GP m b (ns++[n]):=by
 unfold GP;rw[List.map_append];exact h
theorem GP.look{ns:List ByteArray}(h:GP m b ns):nU m b (List.map (λp:Value×Bool=>(p.fst,Value.bool p.snd)) (ns.map λn=>(Value.string n,true))):=by
 rw[List.map_map];exact h
theorem Ey{β:Type}{ns:List ByteArray}{x:β}:∀e:Value×β,e∈(ns.map λn=>(Value.string n,x))->∃s,e.fst= .string s:=λe he=>by
 obtain⟨n,_,rfl⟩:=List.mem_map.1 he;exact⟨n,rfl⟩
theorem OE{β:Type}{ns:List ByteArray}{x:β}{n:ByteArray}(h:n∉ns):∀e:Value×β,e∈(ns.map λn=>(Value.string n,x))->e.fst= .string n->False:=λe he h'=>by
 obtain⟨n',hn,rfl⟩:=List.mem_map.1 he;exact h (by have:n'=n:=(by injection h');rwa [<-this])
theorem Ck{β:Type}{ns:List ByteArray}{x:β}{n:ByteArray}(h:∀e:Value×β,e∈(ns.map λn=>(Value.string n,x))->e.fst= .string n->False):n∉ns:=λhn=>h (.string n,x) (List.mem_map.2 ⟨n,hn,rfl⟩) rfl
theorem OF{β:Type}{ns:List ByteArray}{x y:β}{n:ByteArray}(h:(Value.string n,y)∈(ns.map λn=>(Value.string n,x))):n∈ns/\y=x:=by
 obtain⟨n',hn,e⟩:=List.mem_map.1 h;injection e with e1 e2;injection e1 with e1;exact⟨by rwa [<-e1],e2.symm⟩
theorem RR:Sound Tryz.prog 107 W0:=by
 refine Fh Tryz.func107 ?_;rintro cvs m h K ⟨v,s,rfl,hs,hK⟩;refine⟨WC v h,rfl,aD RG aF,GB v m h (kY h K),by kernel_rfl,?_⟩;show GB v m h (kY h K);dsimp only[GB,push_cast];have hl:=hs.tables.slen;have hlen:=hs.tables.len;have hf:¬Good Hy s.tables->K (cB false) m h:=λh=>hK false ⟨λe=>(by cases e),λe=>(h e).elim⟩;intro b m1 hb hm1;refine⟨λ⟨i,b1,mx⟩=>i<=s.tables.length/\Sub m mx/\m b1=none/\GP mx b1 ((s.tables.take i).map zN.name)/\iP Hy s.tables i,λ⟨i,_,_⟩=>s.tables.length-i,⟨(0,b,m1),⟨aC,(Sub.refl m).upd hb.m_ hm1.other,hb.m_,⟨_,_,hm1.at_,rfl⟩,.zero⟩,MT⟩,?_⟩;rintro⟨i,b1,mx⟩ ⟨hi,hsub,hb1,hmap,hgood⟩;dsimp only;refine aE (λhlt=>?_) (λhge=>.sub hsub (hK true ⟨λ_=>hgood.all aC,λ_=>rfl⟩));obtain⟨t,hx⟩:=fS hl hlt;obtain⟨bb,o,w,ea,hr,hrep⟩:=hs.tables.at hx;have hcl:=aR.slen hrep.columns;have hcb:=aR.len hrep.columns;have hnm:=hrep.name;have hky:=hrep.key;have bad:¬Hy (s.tables.take i) t->kY h K (.val (.bool false)) mx h:=λhn=>.sub hsub (hf (Good.not hx hn));have rest:t.name∉(s.tables.take i).map zN.name->sO w.name=true->1<=w.key->w.key<=w.columns.len->Good UZ t.columns->Hy (s.tables.take i) t:=λh1 h2 h3 h4 h5=>⟨by rw[<-hnm];exact h2,by rw[<-hky];exact h3,by rw[<-hky];omega,h1,h5⟩
 refine⟨bb,o,ea,aC,hlt,w,.imm hr,w.name,rfl,aB (λh1=>bad λht=>?_) (λh1=>⟨_,_,hmap.look,zY,⟨_,rfl⟩,Ey,λhno=>aE (λh2=>bad λht=>?_) (λh2=>aE (λh3=>bad λht=>?_) (λh3=>⟨_,_,hmap,zY,⟨_,rfl⟩,Ey,OE (Ck hno),λm2 hs2 hm2 b2 m3 hb2 hm3=>?_⟩)),λy hy=>?_⟩)⟩
 .have:=ht.1;rw[<-hnm]at this;rw[this]at h1;cases h1
 .have:=ht.2.1;omega
 .have:=ht.2.2.1;omega
 .have hm2:=GP.snoc hm2;have hsub2:Sub m m2:=hsub.upd hb1 hs2.other;have hsub3:Sub m m3:=hsub2.upd (hsub2.free hb2.m_) hm3.other
  have hne:b1≠b2:=λe=>by
   obtain⟨es,cl,e1,_⟩:=hm2.ex;rw[e,hb2.m_]at e1;cases e1
  have hno':t.name∉(s.tables.take i).map zN.name:=by rw[<-hnm];exact Ck hno
  rw[hnm, <-jL hx]at hm2
  refine⟨λ⟨i',k,b1',b2',sl,my⟩=>i'=i/\b1'=b1/\b2'=b2/\sl=w.columns/\k<=t.columns.length/\Sub m my/\GP my b1 ((s.tables.take (i+1)).map zN.name)/\GP my b2 ((t.columns.take k).map sE.name)/\iP UZ t.columns k,λ⟨_,k,_,_,_,_⟩=>t.columns.length-k,
   ⟨(i,0,b1,b2,w.columns,m3),⟨rfl,rfl,rfl,rfl,aC,hsub3,hm2.other hne hm3.other,⟨_,_,hm3.at_,rfl⟩,.zero⟩,MT⟩,?_⟩
  rintro⟨i,k,b1,b2,_,my⟩ ⟨rfl,rfl,rfl,rfl,hk,hsuby,hmy1,hmy2,hg2⟩;dsimp only;refine aE (λhlt2=>?_) (λhge2=>?_)
  .obtain⟨c,hc⟩:=fS hcl hlt2;obtain⟨bc,oc,ec,rc⟩:=Kq.at hrep.columns hc;have cbad:∀mz,Sub m mz->¬UZ (t.columns.take k) c->kY h K (.val (.bool false)) mz h:=λmz hz hn=>.sub hz (hf (Good.not hx (λht=>Good.not hc hn ht.2.2.2.2)));refine⟨bc,oc,ec,aC,hlt2,c,.imm rc,c.name,rfl,aB (λh4=>cbad my hsuby λht=>?_) (λh4=>⟨_,_,hmy2.look,zY,⟨_,rfl⟩,Ey,λhno2=>⟨_,_,hmy2,zY,⟨_,rfl⟩,Ey,OE (Ck hno2),λm4 hs4 hm4=>?_⟩,λy hy=>?_⟩)⟩
   .rw[ht.1]at h4;cases h4
   .have hm4:=GP.snoc hm4;rw[<-jL hc]at hm4;have hsub4:Sub m m4:=hsuby.upd (hsub2.free hb2.m_) hs4.other;have cgood:cA c.kind=true->UZ (t.columns.take k) c:=λe=>⟨by simpa using h4,e,Ck hno2⟩
    have ckind:cA c.kind=false->¬UZ (t.columns.take k) c:=λe ht=>by rw[ht.2.1]at e;cases e
    have m1':=hmy1.other hne hs4.other
    repeat' (first|(refine aB (λ_=>?_) (λ_=>?_))|(refine cbad m4 hsub4 (ckind ?_);simp_all [cA];done)|exact⟨(i,k+1,b1,b2,w.columns,m4),⟨rfl,rfl,rfl,rfl,by show k+1<=t.columns.length;omega,hsub4,m1',hm4,hg2.succ hc (cgood (by simp_all [cA]))⟩,by show t.columns.length-(k+1)<t.columns.length-k;omega,MT⟩)
   .obtain⟨hin,rfl⟩:=OF hy;exact aB (λ_=>cbad my hsuby λht=>ht.2.2 hin) (λe=>by cases e)
  .refine⟨(i+1,b1,my),⟨aC,hsuby,hb1,hmy1,hgood.succ hx (rest hno' (by simpa using h1) aC aC (hg2.all aC))⟩,?_,MT⟩;show s.tables.length-(i+1)<s.tables.length-i;omega
 .obtain⟨hin,rfl⟩:=OF hy;exact aB (λ_=>bad λht=>ht.2.2.2.1 (by rw[<-hnm];exact hin)) (λe=>by cases e)
def NH(t g:zN)(k:Nat)(c:Int):Prop:=0<=c/\c<t.columns.length/\∃x y,t.columns[c.toNat]? =some x/\g.columns[k]? =some y/\x.kind=y.kind
def ZM(tabs:List zN)(t:zN)(_:List Ref)(r:Ref):Prop:=0<=r.table/\r.table<tabs.length/\∃g,tabs[r.table.toNat]? =some g/\(r.columns.length:Int)=g.key/\Good (λpre c=>NH t g pre.length c) r.columns
def J1(tabs:List zN)(_:List zN)(t:zN):Prop:=Good (ZM tabs t) t.refs
def WZ:Vc.Spec:=λcvs m h K=>∃v s,cvs=[aS v]/\dV h s v/\Good Hy s.tables/\∀r:Bool,(r=true↔Good (J1 s.tables) s.tables)->K (cB r) m h
noncomputable def WB(v:bN)(m:MH)(h:PH):Ctx:=
 dL [] [(2,{A:=Nat,st:=λi=>cM 82 83 [(1,.at (.ptr 1 0)),(11,sv v.tables),(12,iv v.tables.len),(13,iv i)] [(1,.cells 29 (v.enc.map .val))] m h}),
  (5,{A:=Nat×Nat×bS,st:=λ⟨i,k,w⟩=>cM 82 83 [(1,.at (.ptr 1 0)),(4,.at (.ptr 4 0)),(11,sv v.tables),(12,iv v.tables.len),(13,iv i),(18,sv w.references),(19,iv w.references.len),(20,iv k)] [(1,.cells 29 (v.enc.map .val)),(4,.cells 74 (w.enc.map .val))] m h}),
  (13,{A:=Nat×Nat×Nat×bS×bS×Sl,st:=λ⟨i,k,j,w,g,sl⟩=>cM 82 83 [(1,.at (.ptr 1 0)),(4,.at (.ptr 4 0)),(7,.at (.ptr 7 0)),(11,sv v.tables),(12,iv v.tables.len),(13,iv i),(18,sv w.references),(19,iv w.references.len),(20,iv k),(48,sv sl),(49,iv sl.len),(50,iv j)] [(1,.cells 29 (v.enc.map .val)),(4,.cells 74 (w.enc.map .val)),(7,.cells 74 (g.enc.map .val))] m h})] [] [] false
abbrev rB(a:(Nat->Prop)->Nat->Prop)(b:(Nat->Prop)->(Nat->Nat)->Nat->Prop):Prop:=∃(x:Nat->Prop)(x1:Nat->Nat),(∃(x2:Nat),a x x2)/\∀(x2:Nat),b x x1 x2
abbrev bO(a:bN):Prop:=eQ (oQ 29 (iQ a.version::jX a.tables))
noncomputable abbrev sR(a:Nat×Nat×bS):bS:=a.2.2
abbrev E7(a b:bS):Prop:=cO a.references b.references
abbrev gO(a:Nat)(b c:List At):Prop:=oQ a b=oQ a c
noncomputable abbrev dP(a b:At)(c:List At):List At:=a::b::c
noncomputable abbrev gM(a:bS):List At:=dP (aQt a.name) (yY a.columns) (dP (iQ a.key) (yY a.references) (jX a.checks))
noncomputable abbrev oO(a:Nat×Nat×Nat×bS×bS×Sl):bS:=a.2.2.2.1
noncomputable abbrev tM(a:Nat×Nat×Nat×bS×bS×Sl):Sl:=a.2.2.2.2.2
noncomputable abbrev rO(a:Nat×Nat×Nat×bS×bS×Sl):Nat:=a.2.2.1
noncomputable abbrev F0(a:Nat×Nat×Nat×bS×bS×Sl):bS:=a.2.2.2.2.1
attribute [push_cast] rB bO sR E7 gO dP gM oO tM rO F0
def GA(v:bN)(m:MH)(h:PH)(K:CV->MH->PH->Prop):Prop:=
  rB (λI x=>aA (I x) (eP 1) (aA (lZ v) (l7 v) (aA (bI x) (bO v) (aA (m=m) (h=h) True)))) (λI m1 x=>EO (I x) x v (λb o y=>aI m h b (o+aZ x 5) (vN y)/\∃(I1:Nat×Nat×bS->Prop)(m2:Nat×Nat×bS->Nat),(∃(x1:Nat×Nat×bS),aA (I1 x1) (eP 1) (aA (eP 4) (lZ v) (aA (l7 v) (cF x x1.1) (aA (bA y.references (sR x1).references) (E7 y (sR x1)) (aA (bI x1.2.1) (bO v) (aA (gO 74 (gM y) (gM (sR x1))) (m=m) (bP h h)))))))/\∀(x1:Nat×Nat×bS),I1 x1->bE (↑x1.2.1:Int) (aH (sR x1).references) (bK (λb1 o1=>aA (bL (sR x1).references.a b1 o1) (0<=(↑x1.2.1:Int)) ((↑x1.2.1:Int)<aH (sR x1).references/\∃(y1:PU),aI m h b1 (o1+aZ x1.2.1 2) (lP (bV y1.columns) (cJ y1.table))/\bE
 y1.table 0 (K aT m h) (iH y1.table (yL v) K aT m h (bK (λb2 o2=>aA (bL v.tables.a b2 o2) (0<=y1.table) (y1.table<aH v.tables/\∃(y2:bS),aI m h b2 (o2+eM y1.table 5) (vN y2)/\branch (aH y1.columns !=y2.key) (K aT m h) (∃(I2:Nat×Nat×Nat×bS×bS×Sl->Prop)(m3:Nat×Nat×Nat×bS×bS×Sl->Nat),(∃(x2:Nat×Nat×Nat×bS×bS×Sl),aA (I2 x2) (eP 1) (aA (eP 4) (eP 7) (aA (lZ v) (l7 v) (aA (cF x1.1 x2.1) (bA (sR x1).references (oO x2).references) (aA (E7 (sR x1) (oO x2)) (cF x1.2.1 x2.2.1) (aA (bA y1.columns (tM x2)) (cO y1.columns (tM x2)) (aA (bI (rO x2)) (bO v) (aA (gO 74 (gM (sR x1)) (gM (oO x2))) (gO 74 (gM y2) (gM (F0 x2))) (bZ m m h h)))))))))/\∀(x2:Nat×Nat×
 Nat×bS×bS×Sl),I2 x2->bE (↑(rO x2):Int) (aH (tM x2)) (bK (λb3 o3=>aA (bL (tM x2).a b3 o3) (0<=(↑(rO x2):Int)) ((↑(rO x2):Int)<aH (tM x2)/\∃(y3:Int),aI m h b3 (o3+aZ (rO x2) 1) (bR y3)/\bE y3 0 (K aT m h) (iH y3 (aH (oO x2).columns) K aT m h (bK (λb4 o4=>aA (bL (oO x2).columns.a b4 o4) (0<=y3) (y3<aH (oO x2).columns/\∃(y4:Int),aI m h b4 (o4+eM y3 2+1) (bR y4)/\bK (λb5 o5=>aA (bL (F0 x2).columns.a b5 o5) (0<=(↑(rO x2):Int)) ((↑(rO x2):Int)<aH (F0 x2).columns/\∃(y5:Int),aI m h b5 (o5+aZ (rO x2) 2+1) (bR y5)/\branch (y4 !=y5) (K aT m h) (∃(x3:Nat×Nat×Nat×bS×bS×Sl),aA (I2 x3) (m3 x3<m3 x2) (aA (eP 1) (eP 4) (aA (eP 7) (lZ v)
 (aA (l7 v) (cF x2.1 x3.1) (aA (bA (oO x2).references (oO x3).references) (E7 (oO x2) (oO x3)) (aA (cF x2.2.1 x3.2.1) (bA (tM x2) (tM x3)) (aA (cO (tM x2) (tM x3)) (bD (gI (bC (rO x2) 1)) (rO x3)) (aA (bO v) (gO 74 (gM (oO x2)) (gM (oO x3))) (bT (gO 74 (gM (F0 x2)) (gM (F0 x3))) m m h h)))))))))))))))))) (∃(x3:Nat×Nat×bS),aA (I1 x3) (m2 x3<m2 x1) (aA (eP 1) (eP 4) (aA (lZ v) (l7 v) (aA (cF x2.1 x3.1) (bA (oO x2).references (sR x3).references) (aA (E7 (oO x2) (sR x3)) (bD (gI (bC x2.2.1 1)) x3.2.1) (aA (bO v) (gO 74 (gM (oO x2)) (gM (sR x3))) (bZ m m h h))))))))))))))) (∃(x2:Nat),aA (I x2) (m1 x2<m1 x) (aA (eP 1) (lZ v) (aA (l7 v) (bD
 (gI (bC x1.1 1)) x2) (aA (bO v) (m=m) (bP h h)))))) (K gF m h))
theorem Ints.at'{s:Sl}(r:Ints h s l){x:Int}(hi:l[i]? =some x):∃b o,s.a=some ⟨b,o,none⟩/\bF h b (o+i*1) [.int .i64 x]:=by
 obtain⟨b,o,e,k⟩:=r.at hi;exact⟨b,o,e,by rwa [Nat.mul_one]⟩
theorem Vd{α:Type}{l:List α}{x:α}(h:l[i]? =some x):(l.take i).length=i:=by
 have:=(List.getElem?_eq_some_iff.1 h).1;rw[List.length_take];omega
theorem Good.key_le{tabs:List zN}(h:Good Hy tabs){g:zN}(hg:tabs[i]? =some g):g.key<=g.columns.length:=(h i g hg).2.2.1
theorem Yz{v:bN}(hs:dV h s v)(hgood:Good Hy s.tables)(hK:∀r:Bool,(r=true↔Good (J1 s.tables) s.tables)->K (cB r) m h):GA v m h K:=by
 dsimp only[GA,push_cast];have hl:=hs.tables.slen;have hlen:=hs.tables.len;have hf:¬Good (J1 s.tables) s.tables->K (.val (.bool false)) m h:=λh=>hK false ⟨λe=>(by cases e),λe=>(h e).elim⟩;refine⟨λi=>i<=s.tables.length/\iP (J1 s.tables) s.tables i,λi=>s.tables.length-i,⟨0,⟨aC,.zero⟩,MT⟩,λi⟨hi,hg⟩=>aE (λhlt=>?_) (λhge=>hK true ⟨λ_=>hg.all aC,λ_=>rfl⟩)⟩;obtain⟨t,hx⟩:=fS hl hlt;obtain⟨b,o,w,ea,hr,hrep⟩:=hs.tables.at hx;have hcl:=aR.slen hrep.columns;have hrl:=aR.slen hrep.refs;have hrb:=aR.len hrep.refs;refine⟨b,o,ea,aC,hlt,w,.imm hr,λ⟨i',k,w'⟩=>i'=i/\w'=w/\k<=t.refs.length/\iP (ZM s.tables t) t.refs k,λ⟨_,k,_⟩=>t.refs.length-k,⟨(i,0,w),⟨rfl,rfl,aC,.zero⟩,MT⟩,?_⟩;rintro⟨i,k,w⟩ ⟨rfl,rfl,hk,hg2⟩;dsimp only;refine aE (λhlt2=>?_) (λhge2=>⟨i+1,⟨aC,hg.succ hx (hg2.all aC)⟩,by show s.tables.length-(i+1)<s.tables.length-i;omega,MT⟩);obtain⟨r,hrx⟩:=fS hrl hlt2;obtain⟨b2,o2,rv,ea2,hr2,hrep2⟩:=hrep.refs.at hrx;have rcl:=hrep2.columns.slen;have rcb:=hrep2.columns.len;have rt:=hrep2.table;have bad:¬ZM s.tables t (t.refs.take k) r->K (.val (.bool false)) m h:=λhn=>hf (Good.not hx (Good.not hrx hn));refine⟨b2,o2,ea2,aC,hlt2,rv,.imm hr2,aE (λh1=>bad λht=>?_) (λh1=>aE (λh2=>bad λht=>?_) (λh2=>?_))⟩
 .have:=ht.1;omega
 .have:=ht.2.1;omega
 obtain⟨g,b3,o3,gv,hgx,ea3,hr3,hrep3⟩:=hs.table (t:=rv.table) aC aC;have gcl:=aR.slen hrep3.columns;have hkey:=hgood.key_le hgx;have gk:=hrep3.key;refine⟨b3,o3,ea3,aC,aC,gv,.imm hr3,aB (λh3=>bad λht=>?_) (λh3=>?_)⟩
 .obtain⟨_,_,g',hg',hk',_⟩:=ht;rw[<-rt,hgx]at hg';cases hg';have:(rv.columns.len:Int)≠gv.key:=by simpa using h3
  omega
 have h3:(rv.columns.len:Int)=gv.key:=by simpa using h3
 refine⟨λ⟨i',k',j,w',g',sl⟩=>i'=i/\k'=k/\w'=w/\g'=gv/\sl=rv.columns/\j<=r.columns.length/\iP (λpre c=>NH t g pre.length c) r.columns j,λ⟨_,_,j,_,_,_⟩=>r.columns.length-j,⟨(i,k,0,w,gv,rv.columns),⟨rfl,rfl,rfl,rfl,rfl,aC,.zero⟩,MT⟩,?_⟩;rintro⟨i,k,j,w,gv,_⟩ ⟨rfl,rfl,rfl,rfl,rfl,hj,hg3⟩;dsimp only;refine aE (λhlt3=>?_) (λhge3=>⟨(i,k+1,w),⟨rfl,rfl,by show k+1<=t.refs.length;omega,hg2.succ hrx ⟨aC,aC,g,by rw[<-rt];exact hgx,aC,hg3.all aC⟩⟩,by show t.refs.length-(k+1)<t.refs.length-k;omega,MT⟩);obtain⟨c,hc⟩:=fS rcl hlt3;obtain⟨b4,o4,ea4,hr4⟩:=hrep2.columns.at' hc;have htl:=Vd hc
 have cbad:¬NH t g j c->K (.val (.bool false)) m h:=λhn=>bad λht=>by
  obtain⟨_,_,g',hg',_,hgo⟩:=ht;rw[<-rt,hgx]at hg';cases hg';have:=hgo j c hc;dsimp only at this;rw[htl]at this;exact hn this
 refine⟨b4,o4,ea4,aC,hlt3,c,.imm hr4,aE (λh5=>cbad λht=>?_) (λh5=>aE (λh6=>cbad λht=>?_) (λh6=>?_))⟩
 .have:=ht.1;omega
 .have:=ht.2.1;omega
 obtain⟨x,hxx⟩:∃x,t.columns[c.toNat]? =some x:=⟨t.columns[c.toNat]'(by omega),List.getElem?_eq_getElem _⟩
 obtain⟨y,hyy⟩:∃y,g.columns[j]? =some y:=⟨g.columns[j]'(by omega),List.getElem?_eq_getElem _⟩
 obtain⟨b5,o5,ea5,hr5⟩:=Kq.at hrep.columns hxx;obtain⟨b6,o6,ea6,hr6⟩:=Kq.at hrep3.columns hyy;refine⟨b5,o5,ea5,aC,aC,x.kind,.imm (bF.part hr5 1 1),b6,o6,ea6,aC,aC,y.kind,.imm (bF.part hr6 1 1),aB (λh7=>cbad λht=>?_) (λh7=>?_)⟩
 .obtain⟨_,_,x',y',e1,e2,e3⟩:=ht;rw[hxx]at e1;rw[hyy]at e2;cases e1;cases e2;rw[e3]at h7;simp at h7
 .exact⟨(i,k,j+1,w,gv,rv.columns),⟨rfl,rfl,rfl,rfl,rfl,by show j+1<=r.columns.length;omega,hg3.succ hc (by show NH t g (List.take j r.columns).length c;rw[htl];exact⟨aC,aC,x,y,hxx,hyy,by simpa using h7⟩)⟩,by show r.columns.length-(j+1)<r.columns.length-j;omega,MT⟩
theorem RQ:Sound Tryz.prog 108 WZ:=by
 refine jK Tryz.func108 ?_;rintro cvs m h K ⟨v,s,rfl,hs,hg,hK⟩;refine⟨WB v m h,rfl,aF,GA v m h K,by kernel_rfl,?_⟩;exact Yz hs hg hK
def R9(t:zN):Prop:=t.columns.length<=8/\t.refs.length<=4/\t.checks.length<=4
def A3(s:jR):Prop:=s.tables.length<=8/\Good (λ_ t=>R9 t) s.tables
def JZ(s:jR):Prop:=0<=s.version/\s.version<=1000/\Good Hy s.tables/\Good (J1 s.tables) s.tables
def jE:List Int->Int
 |[]=>0
 |e::r=>if e=0 then jE r else e
def vA(s:jR)(i:Nat):List Int:=match s.tables[i]? with|some t=>t.checks.map (gZ (iB s i) [])|none=>[]
theorem pY(a b:List Int)(h:∀e∈a,e=0):jE (a++b)=jE b:=by
 induction a with
 |nil=>rfl
 |cons x a ih=>
  simp only[List.cons_append,jE];rw[if_pos (h x (by simp)),ih λe he=>h e (by simp[he])]
theorem yU(a:List Int)(h:∀e∈a,e=0):jE a=0:=by
 have:=pY a [] h;simpa[jE]using this
theorem O2{n:Nat}{f:Nat->List Int}{e:Int}(hi:i<n)(h1:∀j<i,∀x∈f j,x=0)(h2:∀x∈(f i).take k,x=0)(h3:(f i)[k]? =some e)(he:e≠0):jE ((List.range n).flatMap f)=e:=by
 obtain⟨r,rfl⟩:∃r,n=i+(1+r):=⟨n-i-1,aC⟩
 rw[List.range_add,List.flatMap_append,pY]
 .rw[show(List.range (1+r)).map (i+ ·)=i::(List.range' (i+1) r)from ?_,List.flatMap_cons, <-List.take_append_drop k (f i),List.append_assoc,pY _ _ h2,drop_cons h3]
  .simp[jE,he]
  .rw[Nat.add_comm 1 r,List.range_succ_eq_map];simp[List.range'_eq_map_range,Nat.add_assoc,Nat.add_comm 1]
 .intro x hx;obtain⟨j,hj,hx⟩:=List.mem_flatMap.1 hx;exact h1 j (List.mem_range.1 hj) x hx
open Classical in
noncomputable def cZ(s:jR):Int:=if A3 s then(if JZ s then jE ((List.range s.tables.length).flatMap (vA s))else 70)else 2
def zO:Vc.Spec:=λcvs m h K=>∃v s,cvs=[aS v]/\dV h s v/\K (cI (cZ s)) m h
noncomputable def X4(v:bN)(m:MH)(h:PH):Ctx:=
 dL [(107,W0),(108,WZ),(109,FG),(110,D1)] [(4,{A:=Nat,st:=λi=>cM 83 84 [(1,.at (.ptr 1 0)),(16,sv v.tables),(17,iv v.tables.len),(18,iv i)] [(1,.cells 29 (v.enc.map .val))] m h}),
  (12,{A:=Nat×PH,st:=λ⟨i,hx⟩=>cM 83 84 [(1,.at (.ptr 1 0)),(58,sv v.tables),(59,iv v.tables.len),(60,iv i)] [(1,.cells 29 (v.enc.map .val))] m hx}),
  (16,{A:=Nat×Nat×Sl×Sl×PH,st:=λ⟨i,k,ks,cs,hx⟩=>cM 83 84 [(1,.at (.ptr 1 0)),(7,sv ks),(58,sv v.tables),(59,iv v.tables.len),(60,iv i),(69,sv cs),(70,iv cs.len),(71,iv k)] [(1,.cells 29 (v.enc.map .val))] m hx})] [] [] false
abbrev EJ(a:bN)(b:Int)(c:PH)(d:jR->Int->Prop):Prop:=kB (λx x1=>∃(x2:Int),aA (aK (bJ a) (dY b)=aK (bJ x) (dY x2)) (dV c x1 x) (uP x1/\d x1 x2))
noncomputable abbrev iZ(a:Nat×Sl×Sl×PH):Sl:=a.2.2.1
noncomputable abbrev lV(a:Nat×Sl×Sl×PH):Nat->Nat->Option Value:=a.2.2.2
attribute [push_cast] EJ iZ lV
def Jl(v:bN)(m:MH)(h:PH)(K:CV->MH->PH->Prop):Prop:=
  branch (decide (aH v.tables>8)) (K (dY 2) m h) (rB (λI x=>aA (I x) (eP 1) (aA (lZ v) (l7 v) (aA (bI x) (bO v) (aA (m=m) (h=h) True)))) (λI m1 x=>EO (I x) x v (λb o y=>aI m h b (o+aZ x 5) (vN y)/\branch (decide (aH y.columns>8)) (K (dY 2) m h) (branch (decide (aH y.references>4)) (K (dY 2) m h) (branch (decide (aH y.checks>4)) (K (dY 2) m h) (∃(x1:Nat),aA (I x1) (m1 x1<m1 x) (aA (eP 1) (lZ v) (aA (l7 v) (bD (gI (bC x 1)) x1) (aA (bO v) (m=m) (bP h h)))))))) (bE v.version 0 (K (dY 70) m h) (branch (decide (v.version>1000)) (K (dY 70) m h) (kB (λv1 s=>aA (eV (bJ v) (bJ v1)) (dV h s v1) (∀(r:Bool),(lN r↔Good Hy s.tables)->branch (!r) (K (dY 70) m h) (kB (λv2 s1=>aA (eV (bJ v) (bJ v2)) (dV h s1
 v2) (Good Hy s1.tables/\∀(r1:Bool),(lN r1↔Good (J1 s1.tables) s1.tables)->branch (!r1) (K (dY 70) m h) (∃(I1:Nat×PH->Prop)(m2:Nat×PH->Nat),(∃(x1:Nat×PH),aA (I1 x1) (eP 1) (aA (lZ v) (l7 v) (aA (bI x1.1) (bO v) (aA (m=m) (h=x1.2) True))))/\∀(x1:Nat×PH),EO (I1 x1) x1.1 v (λb o y=>aI m x1.2 b (o+aZ x1.1 5) (vN y)/\EJ v (↑x1.1:Int) x1.2 (λs2 t=>gT (λs3 h1=>dZ x1.2 h1 (Ints h1 s3 (iB s2 t)) (∃(I2:Nat×Nat×Sl×Sl×PH->Prop)(m3:Nat×Nat×Sl×Sl×PH->Nat),(∃(x2:Nat×Nat×Sl×Sl×PH),aA (I2 x2) (eP 1) (aA (bA s3 x2.2.2.1) (lZ v) (aA (l7 v) (cF x1.1 x2.1) (aA (bA y.checks (iZ x2.2)) (cO y.checks (iZ x2.2)) (uW (bI x2.2.1) (bO v) m m h1 (lV x2.2))))))/\∀(x2:Nat×Nat×Sl×Sl×PH),I2 x2
 ->bE (↑x2.2.1:Int) (aH (iZ x2.2)) (bK (λb1 o1=>aA (bL (iZ x2.2).a b1 o1) (0<=(↑x2.2.1:Int)) ((↑x2.2.1:Int)<aH (iZ x2.2)/\∃(y1:PV),aI m (lV x2.2) b1 (o1+aZ x2.2.1 13) y1.enc/\fR (λs4 t1=>∃(v3:PV),BH (λc p=>∃(p1:Pred),aA (dG x2.2.2.1::aK uO (fB y1.enc)=dG s4::aK (dG t1) (fB v3.enc)) (Ints (lV x2.2) s4 c) (aA (Ints (lV x2.2) t1 p) (fZ (lV x2.2) p1 v3) (branch (gZ c p p1 !=0) (K (dY (gZ c p p1)) m (lV x2.2)) (∃(x3:Nat×Nat×Sl×Sl×PH),aA (I2 x3) (m3 x3<m3 x2) (aA (eP 1) (bA x2.2.2.1 x3.2.2.1) (aA (lZ v) (l7 v) (aA (cF x2.1 x3.1) (bA (iZ x2.2) (iZ x3.2)) (aA (cO (iZ x2.2) (iZ x3.2)) (bD (gI (bC x2.2.1 1)) x3.2.1) (aA (bO v) (m=m) (bP (lV x2.2) (lV x3.2)))))))))))))))
 (∃(x3:Nat×PH),aA (I1 x3) (m2 x3<m2 x1) (aA (eP 1) (lZ v) (aA (l7 v) (bD (gI (bC x2.1 1)) x3.1) (aA (bO v) (m=m) (bP (lV x2.2) x3.2))))))))) (K (dY 0) m x1.2))))))))))))
theorem kY.out{hx:PH}{r:CV}(hm:Sub m m')(hle:PH.le h hx)(hK:K r m h):kY h K r m' hx:=⟨m,h,hm,.refl _,hle,hK⟩
theorem wA(h:¬A3 s):cZ s=2:=by unfold cZ;rw[if_neg h]
theorem Is(h:A3 s)(h':¬JZ s):cZ s=70:=by unfold cZ;rw[if_pos h,if_neg h']
theorem KB(h:A3 s)(h':JZ s):cZ s=jE ((List.range s.tables.length).flatMap (vA s)):=by unfold cZ;rw[if_pos h,if_pos h']
theorem Ij{t:zN}(hx:s.tables[i]? =some t)(hp:t.checks[k]? =some p):(vA s i)[k]? =some (gZ (iB s i) [] p):=by
 unfold vA;rw[hx];simp[hp]
theorem N6{t:zN}(hx:s.tables[i]? =some t):(vA s i).length=t.checks.length:=by
 unfold vA;rw[hx];simp
theorem Kr{e:Int}(hk:l[k]? =some e)(h:∀x∈l.take k,x=0)(he:e=0):∀x∈l.take (k+1),x=0:=by
 intro x hx;rw[List.take_add_one,hk,List.mem_append]at hx;rcases hx with hx|hx
 .exact h x hx
 .simp at hx;rw[hx,he]
theorem U5{f:Nat->List Int}(h:∀j<i,∀x∈f j,x=0)(hl:(f i).length<=k)(h2:∀x∈(f i).take k,x=0):∀j<i+1,∀x∈f j,x=0:=by
 intro j hj x hx;by_cases e:j=i
 .subst e;rw[List.take_of_length_le hl]at h2;exact h2 x hx
 .exact h j aC x hx
theorem C0:Sound Tryz.prog 66 zO:=by
 refine Fh Tryz.func66 ?_;rintro cvs m h K ⟨v,s,rfl,hs,hK⟩;refine⟨X4 v m h,rfl,aD RR (aD RQ (aD DU (aD JJ aF))),Jl v m h (kY h K),by kernel_rfl,?_⟩;show Jl v m h (kY h K);dsimp only[Jl,push_cast];have hl:=hs.tables.slen;have hlen:=hs.tables.len;have hver:=hs.version;have out:∀(hx:PH)(x:Int),PH.le h hx->cZ s=x->kY h K (.val (.int .i64 x)) m hx:=λhx x hle e=>.out (Sub.refl m) hle (by rw[<-e];exact hK);refine aE (λh1=>out h _ (.refl _) (wA λe=>by have:=e.1;omega)) (λh1=>?_);refine⟨λi=>i<=s.tables.length/\iP (λ_ t=>R9 t) s.tables i,λi=>s.tables.length-i,⟨0,⟨aC,.zero⟩,MT⟩,λi⟨hi,hg⟩=>aE (λhlt=>?_) (λhge=>?_)⟩
 .obtain⟨t,hx⟩:=fS hl hlt;obtain⟨b,o,w,ea,hr,hrep⟩:=hs.tables.at hx;have e1:=aR.slen hrep.columns;have e2:=aR.slen hrep.refs;have e3:=aR.slen hrep.checks;have bad:¬R9 t->kY h K (.val (.int .i64 2)) m h:=λhn=>out h _ (.refl _) (wA λe=>Good.not hx hn e.2);refine⟨b,o,ea,aC,hlt,w,.imm hr,aE (λh2=>bad λe=>?_) (λh2=>aE (λh3=>bad λe=>?_) (λh3=>aE (λh4=>bad λe=>?_) (λh4=>⟨i+1,⟨aC,hg.succ hx ⟨aC,aC,aC⟩⟩,by show s.tables.length-(i+1)<s.tables.length-i;omega,MT⟩)))⟩
  .have:=e.1;omega
  .have:=e.2.1;omega
  .have:=e.2.2;omega
 have lim:A3 s:=⟨aC,hg.all aC⟩
 have h8:uP s:=λt ht=>by
  obtain⟨j,hj⟩:=List.mem_iff_getElem?.1 ht;exact(lim.2 j t hj).1
 have bad:¬JZ s->kY h K (.val (.int .i64 70)) m h:=λhn=>out h _ (.refl _) (Is lim hn);refine aE (λh2=>bad λe=>?_) (λh2=>aE (λh3=>bad λe=>?_) (λh3=>⟨v,s,rfl,hs,λr hr=>aB (λh4=>bad λe=>?_) (λh4=>⟨v,s,rfl,hs,hr.1 (by simpa using h4),λr2 hr2=>aB (λh5=>bad λe=>?_) (λh5=>?_)⟩)⟩))
 .have:=e.1;omega
 .have:=e.2.1;omega
 .rw[hr.2 e.2.2.1]at h4;cases h4
 .rw[hr2.2 e.2.2.2]at h5;cases h5
 have ok:JZ s:=⟨aC,aC,hr.1 (by simpa using h4),hr2.1 (by simpa using h5)⟩
 rw[KB lim ok]at out;refine⟨λ⟨i,hx⟩=>i<=s.tables.length/\PH.le h hx/\∀j<i,∀x∈vA s j,x=0,λ⟨i,_⟩=>s.tables.length-i,⟨(0,h),⟨aC,.refl _,λj hj=>by omega⟩,MT⟩,?_⟩;rintro⟨i,hx⟩ ⟨hi,hle,hz⟩;dsimp only;refine aE (λhlt=>?_) (λhge=>out hx _ hle (yU _ λe he=>?_))
 .obtain⟨t,ht⟩:=fS hl hlt;obtain⟨b,o,w,ea,hr,hrep⟩:=(hs.mono hle).tables.at ht;have cl:=aR.slen hrep.checks;have cb:=aR.len hrep.checks;refine⟨b,o,ea,aC,hlt,w,.imm hr,v,s,i,rfl,hs.mono hle,h8,λsl h' hle' hints=>?_⟩;refine⟨λ⟨i',k,ks,cs,hy⟩=>i'=i/\cs=w.checks/\k<=t.checks.length/\PH.le h' hy/\Ints hy ks (iB s i)/\∀x∈(vA s i).take k,x=0,λ⟨_,k,_,_,_⟩=>t.checks.length-k,⟨(i,0,sl,w.checks,h'),⟨rfl,rfl,aC,.refl _,hints,λx hx=>by simp at hx⟩,MT⟩,?_⟩;rintro⟨i,k,ks,_,hy⟩ ⟨rfl,rfl,hk,hle2,hints2,hz2⟩;dsimp only;have hlh:PH.le h hy:=(hle.trans hle').trans hle2;refine aE (λhlt2=>?_) (λhge2=>⟨(i+1,hy),⟨aC,hlh,U5 hz (k:=k) (by rw[N6 ht];omega) hz2⟩,by show s.tables.length-(i+1)<s.tables.length-i;omega,MT⟩);obtain⟨p,hp⟩:=fS cl hlt2;obtain⟨b2,o2,pv,ea2,hr2',hrep2⟩:=((hrep.checks.mono hle').mono hle2).at hp;refine⟨b2,o2,ea2,aC,hlt2,pv,.imm hr2',ks,⟨none,0,0⟩,pv,iB s i,[],p,rfl,hints2,⟨.nil _ _,by simp⟩,hrep2,aB (λh6=>?_) (λh6=>?_)⟩
  .exact out hy _ hlh (O2 aC hz hz2 (Ij ht hp) (by simpa using h6))
  .exact⟨(i,k+1,ks,w.checks,hy),⟨rfl,rfl,by show k+1<=t.checks.length;omega,hle2,hints2,Kr (Ij ht hp) hz2 (by simpa using h6)⟩,by show t.checks.length-(k+1)<t.checks.length-k;omega,MT⟩
 .obtain⟨j,hj,hx⟩:=List.mem_flatMap.1 he;exact hz j (by have:=List.mem_range.1 hj;omega) e hx
mutual
def qX:Query->Int->Int
 |.mk _ _ _ _ _ _ _ _ args,n=>lR args (n+1)
def lR:List Query->Int->Int
 |[],n=>n
 |p::ps,n=>if n<=24 then lR ps (qX p n)else n
end
mutual
def Ft:Query->Nat->Bool
 |.mk _ _ _ _ _ _ _ _ _,0=>true
 |.mk _ _ _ _ _ _ _ _ args,n+1=>BU args n
def BU:List Query->Nat->Bool
 |[],_=>false
 |p::ps,n=>Ft p n||BU ps n
end
mutual
theorem Ew:∀(p:Query)(n:Int),n<=24->n<qX p n/\qX p n<=25
 |.mk _ _ _ _ _ _ _ _ args,n,h=>by
  have:=Dq args (n+1) aC;simp only[qX];omega
theorem Dq:∀(ps:List Query)(n:Int),n<=25->n<=lR ps n/\lR ps n<=25
 |[],n,h=>by simp only[lR];omega
 |p::ps,n,h=>by
  simp only[lR];split
  .rename_i h1;have h2:=Ew p n h1;have h3:=Dq ps (qX p n) h2.2;omega
  .omega
end
theorem fF.args{p:Query}(r:fF h p v):zR h v.args p.args:=by
 cases p;exact r.parts.args_
def zZ(q:Query):Bool:=decide (qX q 0<=24)&& !Ft q 8
def arity(op:Int):Int:=
 if op==1 then 0 else if op==2||op==3||op==9 then 1 else if op==4||op==5||op==6||op==7||op==8||op==10 then 2 else-1
def SG(l:List Int)(n:Int):Bool:=decide (0<=n)&&decide (n<l.length)
def Ho(a b:List Int)(pre:List (Int×Int))(p:Int×Int):Prop:=SG a p.1=true/\SG b p.2=true/\a.getD p.1.toNat 0=b.getD p.2.toNat 0/\∀q∈pre,q.1≠p.1/\q.2≠p.2
def J7(a:List Int)(pre:List Int)(c:Int):Prop:=SG a c=true/\c∉pre
def Sf(a:List Int)(_:List (Int×Bool))(o:Int×Bool):Prop:=SG a o.1=true
structure D0(a:List Int)(group:List Int)(order:List (Int×Bool))(limit:Int):Prop where
 group_:Good (J7 a) group
 order_:Good (Sf a) order
 len_:order.length<=12
 low:0<=limit
 high:limit<=100
theorem mF{n:Int}:SG l n=true↔0<=n/\n<l.length:=by simp[SG]
def jS:Pred:=.mk 0 0 iR iR []
def eN:Query->Prop
 |.mk op ta w co on gr od li _=>(op=1\/ta=0)/\(op=2\/w=jS)/\(op=3\/co=[])/\(op=4\/op=5\/on=[])/\(op=9\/op=10\/(gr=[]/\od=[]/\li=0))
def zC(l:List Int):List Int×Int:=if l.length<=12 then(l,0)else([],2)
def kC(e:Int):List Int×Int:=([],e)
open Classical in
noncomputable def kW(s:jR)(ps:List Int)(q:Query)(a b:List Int):List Int×Int:=
 if arity (match q with|.mk op .. =>op)<0\/¬eN q then kC 100 else
 match q with
 |.mk op ta w co on gr od li _=>
  if op=1 then(if 0<=ta/\ta<s.tables.length then zC (iB s ta)else kC 100)
  else if op=2 then(if gZ a ps w=0 then zC a else kC (gZ a ps w))
  else if op=3 then(if co≠[]/\Good (λ_ c=>SG a c=true) co then zC (co.map λc=>a.getD c.toNat 0)else kC 100)
  else if op=4 then(if Good (Ho a b) on then zC (a++b)else kC 100)
  else if op=5 then(if Good (Ho a b) on then zC a else kC 100)
  else if op=9 then(if D0 a gr od li then zC a else kC 100)
  else if op=10 then(if a=b/\D0 a gr od li then zC a else kC 100)
  else(if a=b then zC a else kC 100)
def KR(K:CV->MH->PH->Prop)(m:MH)(h:PH)(r:List Int×Int):Prop:=∀sl h',PH.le h h'->Ints h' sl r.1->K (.tup [cS sl,cI r.2]) m h'
theorem ZX{α:Type}{n:Nat}{l:List α}(h:n=l.length):((n:Int)==0)=true↔l=[]:=by
 rw[beq_iff_eq,h, <-List.length_eq_zero_iff];omega
theorem Ce(h:PH):fZ h jS ⟨0,0,iR,iR,⟨none,0,0⟩⟩:=fZ.mk (v:=⟨0,0,iR,iR,⟨none,0,0⟩⟩) (.nil _ _ _ _)
theorem GX(l:List Int):dU 1 (l.map eI):=by
 constructor
 .intro e he;obtain⟨x,_,rfl⟩:=List.mem_map.1 he;rfl
 .intro e he u hu;obtain⟨x,_,rfl⟩:=List.mem_map.1 he;simp[eI]at hu;subst hu;rfl
theorem KR.err{r:List Int×Int}{e:Int}(hK:KR K m h r)(hle:PH.le h h')(he:r=kC e):K (.tup [.val (.slice none 0 0),.val (.int .i64 e)]) m h':=by
 subst he;exact hK ⟨none,0,0⟩ h' hle ⟨.nil _ _,by simp[kC]⟩
theorem KR.big{r:List Int×Int}(hK:KR K m h r)(hle:PH.le h h')(he:r=zC l)(hl:12<l.length):K (.tup [.val (.slice none 0 0),.val (.int .i64 2)]) m h':=
 hK.err hle (by rw[he,zC,if_neg aC];rfl)
theorem KR.ok{r:List Int×Int}{sl:Sl}(hK:KR K m h r)(hle:PH.le h h')(he:r=zC l)(hl:l.length<=12)(hi:bH h' sl 1 (l.map eI)):K (.tup [.val (.slice sl.a sl.len sl.cap),.val (.int .i64 0)]) m h':=by
 rw[he,zC,if_pos hl]at hK;exact hK sl h' hle ⟨hi,by show l.length<=17592186044416;omega⟩
mutual
noncomputable def cR(s:jR)(ps:List Int):Query->List Int×Int
 |.mk op ta w co on gr od li args=>
  match fM s ps args with
  |(ks,e)=>if e=0 then(if(ks.length:Int)=arity op then kW s ps (.mk op ta w co on gr od li args) (ks.getD 0 []) (ks.getD 1 [])else kC 100)else kC e
noncomputable def fM(s:jR)(ps:List Int):List Query->List (List Int)×Int
 |[]=>([],0)
 |q::qs=>
  match cR s ps q with
  |(k,e)=>if e=0 then(match fM s ps qs with|(ks,e')=>if e'=0 then(k::ks,0)else([],e'))else([],e)
end
theorem AR{s:jR}{ps:List Int}:∀{qs:List Query}{ks:List (List Int)},qs.map (cR s ps)=ks.map (λk=>(k,0))->fM s ps qs=(ks,0)
 |[],[],_=>by simp[fM]
 |q::qs,k::ks,h=>by
  simp only[List.map_cons,List.cons.injEq]at h;simp only[fM,h.1,AR h.2,if_true]
 |[],_::_,h=>by simp at h
 |_::_,[],h=>by simp at h
theorem G6{s:jR}{ps:List Int}{e:Int}(he:e≠0):∀{qs:List Query}{ks:List (List Int)}{i:Nat}{q:Query},(qs.take i).map (cR s ps)=ks.map (λk=>(k,0))->qs[i]? =some q->(cR s ps q).2=e->fM s ps qs=([],e)
 |[],_,_,_,_,h,_=>by simp at h
 |q::qs,_,0,q',_,h,h2=>by
  simp at h;subst h;simp only[fM,h2,if_neg he]
 |q::qs,[],i+1,_,h,_,_=>by simp at h
 |q::qs,k::ks,i+1,q',h,hq,h2=>by
  simp only[List.take_succ_cons,List.map_cons,List.cons.injEq]at h;have:=G6 he h.2 (by simpa using hq) h2;simp only[fM,h.1,this,if_true,if_neg he]
theorem VA(l:List Int):(zC l).1.length<=12:=by unfold zC;split<;>simp_all
theorem TG(s:jR)(ps:List Int)(q:Query)(a b:List Int):(kW s ps q a b).1.length<=12:=by
 obtain⟨op,ta,w,co,on,gr,od,li,args⟩:=q;unfold kW;dsimp only
 repeat' split
 all_goals first|exact VA _|(simp[kC];done)
theorem Ja(s:jR)(ps:List Int)(q:Query):(cR s ps q).1.length<=12:=by
 obtain⟨op,ta,w,co,on,gr,od,li,args⟩:=q;simp only[cR]
 repeat' split
 all_goals first|exact TG .. |simp[kC]
noncomputable def fC(s:jR)(ps:List Int)(q:Query):List Int×Int:=
 if cZ s=0 then(if ps.all cA=true then(if zZ q=true then cR s ps q else kC 2)else kC 1)else kC (cZ s)
def Slices(h:PH)(ss:List Sl)(ks:List (List Int)):Prop:=ss.length=ks.length/\∀(j:Nat) s k,ss[j]? =some s->ks[j]? =some k->Ints h s k
theorem Slices.mono{ss:List Sl}(x:Slices h ss ks)(le:PH.le h h'):Slices h' ss ks:=⟨x.1,λj s k h1 h2=>(x.2 j s k h1 h2).mono le⟩
theorem Slices.snoc{ss:List Sl}{s:Sl}{k:List Int}(x:Slices h ss ks)(hi:Ints h s k):Slices h (ss++[s]) (ks++[k]):=by
 refine⟨by simp[x.1],λj s' k' h1 h2=>?_⟩;by_cases hj:j<ss.length
 .rw[List.getElem?_append_left hj]at h1;rw[List.getElem?_append_left (by rw[<-x.1];exact hj)]at h2;exact x.2 j s' k' h1 h2
 .rw[List.getElem?_append_right aC]at h1;rw[List.getElem?_append_right (by have:=x.1;omega), <-x.1]at h2;cases e:j-ss.length with
  |zero=>rw[e]at h1 h2;simp at h1 h2;subst h1 h2;exact hi
  |succ n=>rw[e]at h1;simp at h1
def Di(N:Nat):Vc.Spec:=λcvs m h K=>∃sc p v s ps q,cvs=[aS sc,cS p,aQ v]/\dV h s sc/\uP s/\Ints h p ps/\fF h q v/\SizeOf.sizeOf q<N/\KR K m h (cR s ps q)
def B5:Vc.Spec:=λcvs m h K=>∃sc p v s ps q,cvs=[aS sc,cS p,aQ v]/\dV h s sc/\Ints h p ps/\fF h q v/\KR K m h (fC s ps q)
theorem TL{qs:List Query}(h:qs.map (cR s ps)=ks.map (λk=>(k,0)))(j:Nat):(ks.getD j []).length<=12:=by
 rw[List.getD_eq_getElem?_getD];cases e:ks[j]? with
 |none=>simp
 |some k=>
  have h1:(qs.map (cR s ps))[j]? =some (k,0):=by rw[h];simp[e]
  rw[List.getElem?_map,Option.map_eq_some_iff]at h1;obtain⟨q,_,h2⟩:=h1;have:=Ja s ps q;rw[h2]at this;simpa using this
theorem y8(h:cZ s=0):uP s:=by
 have hl:A3 s:=Classical.byContradiction λhn=>by rw[wA hn]at h;cases h
 intro t ht;obtain⟨j,hj⟩:=List.mem_iff_getElem?.1 ht;exact(hl.2 j t hj).1
def aN(n:NV):CV:=.val (.agg ⟨n.enc⟩)
structure u5(h:PH)(s:jR)(ps:List Int)(q:Query)(ks:List (List Int))(n:NV):Prop where
 s_:dV h s n.s
 ps_:Ints h n.params ps
 q_:fF h q n.q
 ks_:aR h 1 eS (λk sl=>Ints h sl k) n.args ks
 len:∀k∈ks,k.length<=12
def Query.withOf(u q:Query):Query:=match u,q with|.mk _ ta w co on gr od li _,.mk op _ _ _ _ _ _ _ args=>.mk op ta w co on gr od li args
def yH:Vc.Spec:=λcvs m h K=>∃n k u s ps q ks uq,cvs=[aN n,cI k,aQ u]/\u5 h s ps q ks n/\fF h uq u/\∀r:Bool,(r=true↔(ks.length:Int)=k/\q=uq.withOf q)->K (cB r) m h
def J3:Vc.Spec:=λcvs m h K=>∃n s ps q ks,cvs=[aN n]/\u5 h s ps q ks n/\K (aQ ⟨0,0,⟨0,0,iR,iR,⟨none,0,0⟩⟩,⟨none,0,0⟩,⟨none,0,0⟩,n.q.group,n.q.order,n.q.limit,⟨none,0,0⟩⟩) m h
def J4:Vc.Spec:=λcvs m h K=>∃n s ps q ks a,cvs=[aN n]/\u5 h s ps q ks n/\ks[0]? =some a/\∀r:Bool,(r=true↔∃op ta w co on gr od li args,q= .mk op ta w co on gr od li args/\D0 a gr od li)->K (cB r) m h
def HG(ks:List (List Int)):Query->Prop
 |.mk op ta w co on gr od li _=>ks.length=2/\ta=0/\w=jS/\co=[]/\gr=[]/\od=[]/\li=0/\Good (Ho (ks.getD 0 []) (ks.getD 1 [])) on
def J5:Vc.Spec:=λcvs m h K=>∃n s ps q ks,cvs=[aN n]/\u5 h s ps q ks n/\∀r:Bool,(r=true↔HG ks q)->K (cB r) m h
noncomputable def Wa(n:NV)(h:PH):Ctx:=
 sY [] [(4,{A:=Nat×Nat×Nat×MH,st:=λ⟨i,wd,b,mx⟩=>cM 72 73 [(1,.at (.ptr 1 0)),(3,iv wd),(4,vv (.pointer (some ⟨b,0,none⟩))),(16,sv n.q.group),(17,iv n.q.group.len),(18,iv i)] [(1,.cells 206 (n.enc.map .val))] mx h}),
  (11,{A:=Nat×Nat×MH,st:=λ⟨i,wd,mx⟩=>cM 72 73 [(1,.at (.ptr 1 0)),(3,iv wd),(39,sv n.q.order),(40,iv n.q.order.len),(41,iv i)] [(1,.cells 206 (n.enc.map .val))] mx h})] [] [] [259] [] false
noncomputable def Wc(n:NV)(h:PH):Ctx:=
 sY [(191,yH)] [(6,{A:=Nat×Sl×Sl×Nat×Nat×MH,st:=λ⟨i,s,t,b,c,mx⟩=>cM 80 81 [(3,sv s),(4,sv t),(5,vv (.pointer (some ⟨b,0,none⟩))),(6,vv (.pointer (some ⟨c,0,none⟩))),(28,sv n.q.on),(29,iv n.q.on.len),(30,iv i)] [] mx h})] [] [] [259] [] false
noncomputable abbrev cX(a:QV):Value:=cJ a.table
noncomputable abbrev dC(a:QV):Value:=cJ a.where_.op
noncomputable abbrev dE(a:QV):Int:=a.where_.cmp
noncomputable abbrev dR(a:OV):Value:=cJ a.kind
noncomputable abbrev dM(a:QV):OV:=a.where_.left
noncomputable abbrev wF(a:OV):Value:=cJ a.index
noncomputable abbrev A8(a:OV):Int:=a.value.int
noncomputable abbrev qH(a:OV):Value:=cJ (A8 a)
noncomputable abbrev iI(a:OV):Value:=Value.string a.value.text
noncomputable abbrev j7(a:QV):OV:=a.where_.right
noncomputable abbrev oR(a:QV):Value:=bV a.where_.args
noncomputable abbrev oW(a:QV):Value:=bV a.columns
noncomputable abbrev oU(a:QV):Value:=bV a.group
noncomputable abbrev oV(a:QV):Value:=bV a.order
attribute [push_cast] cX dC dE dR dM wF A8 qH iI j7 oR oW oU oV
def Lx(n:NV)(k:Int)(u:QV)(m:MH)(h:PH)(K:CV->MH->PH->Prop):Prop:=
  bQ (aH n.args) k (∃(v:QV),uY (λw p=>∃(q:Query),aA (aK (cW n.q) (fB (aJ (cJ n.q.op) (cX u) (aJ (dC u) (cJ (dE u)) (aJ (dR (dM u)) (wF (dM u)) (aJ (cJ (lO (dM u))) (qH (dM u)) (aJ (iI (dM u)) (dR (j7 u)) (aJ (wF (j7 u)) (cJ (lO (j7 u))) (aJ (qH (j7 u)) (iI (j7 u)) (aJ (oR u) (oW u) (aJ (bV u.on) (oU u) (aJ (oV u) (cJ u.limit) (aM n.q.args))))))))))))=aK (cW v) (cW w)) (fF h p v) (fF h q w/\∀(r:Bool),(lN r↔p=q)->K (yX r) m h))) (K aT m h)
noncomputable abbrev Bv(a b c d:Value)(e:List Value):List Value:=aJ a b (aJ c d (aJ cK cK (aJ cK cK e)))
noncomputable abbrev CE(a:List Value):List Value:=Bv cK cK cK cK a
noncomputable abbrev xT(a b c d e g:Value)(i:List Value):List Value:=aJ Xo a (aJ cK cK (aJ cK Xo (aJ nV b (aJ c d (aJ e g i)))))
noncomputable abbrev fE:List Value:=l9 nV
noncomputable abbrev HO(a:QV):List Value:=xT cK nV nV (oU a) (oV a) (cJ a.limit) fE
attribute [push_cast] Bv CE xT fE HO
def Lv(n:NV)(m:MH)(h:PH)(K:CV->MH->PH->Prop):Prop:=
  K (fB (CE (HO n.q))) m h
noncomputable abbrev qG:Value:=Value.bool false
abbrev HN(a:MH)(b:PH)(c:Nat->MH->Prop):Prop:=gA (λx x1=>bY a b x->bG a x1 x (aJ qG qG (aJ qG qG (aJ qG qG (aJ qG qG (aJ qG qG (aJ qG qG [])))))) 259->c x x1)
abbrev HU(a:bN)(b:List At):Prop:=eQ (oQ 206 (dP (iQ a.version) (yY a.tables) b))
noncomputable abbrev Ac(a:Sl)(b:Int)(c:QV)(d:Sl)(e:List At):List At:=dP (yY a) (iQ b) (iQ c.table::pQ c.where_ (dP (yY c.columns) (yY d) (dP (yY c.group) (yY c.order) e)))
noncomputable abbrev sS(a:QV):At:=iQ a.limit
abbrev Ah(a:NV):Prop:=HU a.s (Ac a.params a.q.op a.q a.q.on (dP (sS a.q) (yY a.q.args) (jX a.args)))
noncomputable abbrev rD(a:Bool):List Value:=l9 (Value.bool a)
attribute [push_cast] qG HN HU Ac sS Ah rD
def C1(n:NV)(m:MH)(h:PH)(K:CV->MH->PH->Prop):Prop:=
  dA n.args 0 (λb o y=>aI m h b (o+0) (aM y)/\HN m h (λb1 m1=>∃(I:Nat×Nat×Nat×MH->Prop)(m2:Nat×Nat×Nat×MH->Nat),(∃(x:Nat×Nat×Nat×MH),aA (I x) (eP 1) (aA (bD (gI (↑y.len:Int)) x.2.1) (cN b1 (fT x.2)) (aA (aL n.q.group) (aX n.q.group) (aA (bI x.1) (Ah n) (bZ m1 (eG x.2) h h)))))/\∀(x:Nat×Nat×Nat×MH),I x->bE (↑x.1:Int) (aH n.q.group) (bK (λb2 o1=>aA (bL n.q.group.a b2 o1) (0<=(↑x.1:Int)) ((↑x.1:Int)<aH n.q.group/\∃(y1:Int),aI (eG x.2) h b2 (o1+aZ x.1 1) (bR y1)/\bE y1 0 (K aT (eG x.2) h) (iH y1 (↑x.2.1:Int) K aT (eG x.2) h (aA (cQ y1) (y1<12) (∃(y2:Bool),aI (eG x.2) h (fT x.2) (0+eM y1 1) (rD y2)/\branch y2 (K aT (eG x.2) h) (aA (cQ y1) (y1<12) (iE
 (λc E=>aA (wS (eG x.2) (fT x.2) (fN c E 0)) (0+eM y1 1<c.size) (∀(m3:MH),bG (eG x.2) m3 (fT x.2) (splice c.toList (0+eM y1 1) (l9 sV)) E->∃(x1:Nat×Nat×Nat×MH),aA (I x1) (m2 x1<m2 x) (aA (eP 1) (cF x.2.1 x1.2.1) (aA (cN (fT x.2) (fT x1.2)) (aL n.q.group) (aA (aX n.q.group) (bD (gI (bC x.1 1)) x1.1) (bT (Ah n) m3 (eG x1.2) h h)))))))))))))) (∃(I1:Nat×Nat×MH->Prop)(m3:Nat×Nat×MH->Nat),MS (λx1=>aA (I1 x1) (eP 1) (aA (cF x.2.1 (fT x1)) (aL n.q.order) (aA (aX n.q.order) (bI x1.1) (aA (Ah n) (eG x.2=eG x1) (bP h h))))) (λx1=>I1 x1->bE (↑x1.1:Int) (aH n.q.order) (bK (λb2 o1=>aA (bL n.q.order.a b2 o1) (0<=(↑x1.1:Int)) ((↑x1.1:Int)<aH n.q.order/\∃(y1:Int×Bool),aI
 (eG x1) h b2 (o1+aZ x1.1 2) (AD y1)/\bE y1.1 0 (K aT (eG x1) h) (iH y1.1 (↑(fT x1):Int) K aT (eG x1) h (∃(x2:Nat×Nat×MH),aA (I1 x2) (m3 x2<m3 x1) (aA (eP 1) (cF (fT x1) (fT x2)) (aA (aL n.q.order) (aX n.q.order) (aA (bD (gI (bC x1.1 1)) x2.1) (Ah n) (bZ (eG x1) (eG x2) h h))))))))) (branch (decide (aH n.q.order<=12)) (iH n.q.limit 0 K (yX (decide (n.q.limit<=100))) (eG x1) h (K aT (eG x1) h)) (K aT (eG x1) h))))))
abbrev Af(a:jR->(List Int)->Query->(List (List Int))->Prop):Prop:=∃(x:jR)(x1:List Int)(x2:Query)(x3:List (List Int)),a x x1 x2 x3
abbrev xC(a:List CV)(b:Int->QV->List CV)(c:PH)(d:NV)(e:Bool->Prop):Prop:=∃(x:Int)(x1:QV),Af (λx2 x3 x4 x5=>∃(x6:Query),aA (a=b x x1) (u5 c x2 x3 x4 x5 d) (fF c x6 x1/\∀(x7:Bool),(lN x7↔(↑x5.length:Int)=x/\x4=Query.withOf x6 x4)->e x7))
noncomputable abbrev DL(a b:OV)(c:List Value):List Value:=aJ (wF a) (cJ (lO a)) (aJ (qH a) (iI a) (aJ (dR b) (wF b) (aJ (cJ (lO b)) (qH b) c)))
noncomputable abbrev eZ(a:NV)(b:List Value):List Value:=DL (dM a.q) (j7 a.q) b
noncomputable abbrev rI(a:QV):Value:=bV a.args
noncomputable abbrev eY(a:NV):List Value:=aJ (iI (j7 a.q)) (oR a.q) (aJ (oW a.q) (bV a.q.on) (aJ (oU a.q) (oV a.q) (aJ (cJ a.q.limit) (rI a.q) (aM a.args))))
noncomputable abbrev rH(a:Nat×Sl×Sl×Nat×Nat×MH):Nat×Nat×MH:=a.2.2.2
noncomputable abbrev mQ(a:Nat×Sl×Sl×Nat×Nat×MH):Nat->Option Obj:=eG (rH a)
attribute [push_cast] Af xC DL eZ rI eY rH mQ
def C2(n:NV)(m:MH)(h:PH)(K:CV->MH->PH->Prop):Prop:=
  ∃(n1:NV),xC (fB (aJ (eE n.s) (eD n.s) (aJ (bV n.params) (cJ n.q.op) (aJ (cX n.q) (dC n.q) (aJ (cJ (dE n.q)) (dR (dM n.q)) (eZ n (eY n))))))::aK (dY 2) (fB (CE (xT cK nV (bV n.q.on) nV nV cK fE)))) (λk u=>fB (aJ (eE n1.s) (eD n1.s) (aJ (bV n1.params) (cJ n1.q.op) (aJ (cX n1.q) (dC n1.q) (aJ (cJ (dE n1.q)) (dR (dM n1.q)) (eZ n1 (eY n1))))))::aK (dY k) (cW u)) h n1 (λr=>branch (!r) (K aT m h) (dA n.args 0 (λb o y=>aI m h b (o+0) (aM y)/\dA n.args 1 (λb1 o1 y1=>aI m h b1 (o1+1) (aM y1)/\HN m h (λb2 m1=>HN m1 h (λb3 m2=>∃(I:Nat×Sl×Sl×Nat×Nat×MH->Prop)(m3:Nat×Sl×Sl×Nat×Nat×MH->Nat),(∃(x:Nat×Sl×Sl×Nat×Nat×MH),aA (I x) (bA y x.2.1) (aA (bA
 y1 x.2.2.1) (cN b2 (rH x).1) (aA (cN b3 (fT (rH x))) (aL n.q.on) (aA (aX n.q.on) (bI x.1) (bZ m2 (mQ x) h h)))))/\∀(x:Nat×Sl×Sl×Nat×Nat×MH),I x->bE (↑x.1:Int) (aH n.q.on) (bK (λb4 o2=>aA (bL n.q.on.a b4 o2) (0<=(↑x.1:Int)) ((↑x.1:Int)<aH n.q.on/\∃(y2:Int×Int),aA (aI (mQ x) h b4 (o2+aZ x.1 2) (Ax y2)) (cQ 0) (aA ((0:Int)<2) (cQ 1) ((1:Int)<2/\bE y2.1 0 (K aT (mQ x) h) (iH y2.1 (aH x.2.1) K aT (mQ x) h (bE y2.2 0 (K aT (mQ x) h) (iH y2.2 (aH x.2.2.1) K aT (mQ x) h (bK (λb5 o3=>aA (bL x.2.1.a b5 o3) (0<=y2.1) (y2.1<aH x.2.1/\∃(y3:Int),aI (mQ x) h b5 (o3+eM y2.1 1) (bR y3)/\bK (λb6 o4=>aA (bL x.2.2.1.a b6 o4) (0<=y2.2) (y2.2<aH x.2.2.1/\∃(y4:
 Int),aI (mQ x) h b6 (o4+eM y2.2 1) (bR y4)/\branch (y3 !=y4) (K aT (mQ x) h) (aA (cQ y2.1) (y2.1<12) (∃(y5:Bool),aI (mQ x) h (rH x).1 (0+eM y2.1 1) (rD y5)/\branch y5 (K aT (mQ x) h) (aA (cQ y2.2) (y2.2<12) (∃(y6:Bool),aI (mQ x) h (fT (rH x)) (0+eM y2.2 1) (rD y6)/\branch y6 (K aT (mQ x) h) (aA (cQ y2.1) (y2.1<12) (iE (λc E=>aA (wS (mQ x) (rH x).1 (fN c E 0)) (0+eM y2.1 1<c.size) (∀(m4:MH),bG (mQ x) m4 (rH x).1 (splice c.toList (0+eM y2.1 1) (l9 sV)) E->aA (cQ y2.2) (y2.2<12) (iE (λc1 E1=>aA (wS m4 (fT (rH x)) (fN c1 E1 0)) (0+eM y2.2 1<c1.size) (∀(m5:MH),bG m4 m5 (fT (rH x)) (splice c1.toList (0+eM y2.2 1) (l9 sV)) E1->∃(x1:Nat×Sl×Sl×Nat×
 Nat×MH),aA (I x1) (m3 x1<m3 x) (aA (bA x.2.1 x1.2.1) (bA x.2.2.1 x1.2.2.1) (aA (cN (rH x).1 (rH x1).1) (cN (fT (rH x)) (fT (rH x1))) (aA (aL n.q.on) (aX n.q.on) (bT (bD (gI (bC x.1 1)) x1.1) m5 (mQ x1) h h)))))))))))))))))))))))))))) (K gF (mQ x) h)))))))
structure Tn(m:MH)(b:Nat)(seen:List Int):Prop where
 ex:∃bs:List Bool,m b=some (.cells ⟨bs.map Value.bool⟩ 259 (0,0))/\bs.length=12/\∀k:Nat,k<12->(bs[k]? =some true↔(k:Int)∈seen)
theorem Tn.zero(h:m b=some (.cells ⟨[.bool false,.bool false,.bool false,.bool false,.bool false,.bool false,.bool false,.bool false,.bool false,.bool false,.bool false,.bool false]⟩ 259 (0,0))):Tn m b []:=
 ⟨⟨List.replicate 12 false,h,rfl,λk hk=>by rw[List.getElem?_replicate];simp[hk]⟩⟩
theorem Tn.look{seen:List Int}(x:Tn m b seen){n:Int}(h0:0<=n)(h1:n<12):∃y:Bool,aI m h b (0+n.toNat*1) [.bool y]/\(y=true↔n∈seen):=by
 obtain⟨bs,e,hl,hs⟩:=x.ex;have hk:n.toNat<bs.length:=by omega
 refine⟨bs[n.toNat],.lent _ _ _ e ?_,?_⟩
 .simp only[Nat.zero_add,Nat.mul_one,List.length_cons,List.length_nil];rw[List.drop_eq_getElem_cons (by simpa using hk)];simp
 .have:=hs n.toNat aC;rw[List.getElem?_eq_getElem hk]at this;rw[show((n.toNat:Nat):Int)=n by omega]at this;simpa using this
theorem Tn.store{seen:List Int}(x:Tn m b seen){n:Int}(h0:0<=n)(h1:n<12):∃(cs:Array Value)(E:TypeId),wS m b (.cells cs E (0,0))/\0+n.toNat*1<cs.size/\∀m',eW m m' b (.cells ⟨splice cs.toList (0+n.toNat*1) [.bool true]⟩ E (0,0))->Tn m' b (seen++[n]):=by
 obtain⟨bs,e,hl,hs⟩:=x.ex;have hk:n.toNat<bs.length:=by omega
 refine⟨_,_,⟨e⟩,by simpa using hk,λm' hu=>⟨bs.set n.toNat true,?_,by simpa using hl,λk hk'=>?_⟩⟩
 .rw[hu.at_];congr 3;simp only[splice,Nat.zero_add,Nat.mul_one,List.length_cons,List.length_nil];rw[List.set_eq_take_append_cons_drop,if_pos hk];simp[List.map_take,List.map_drop]
 .rw[List.getElem?_set,List.mem_append,List.mem_singleton];by_cases e':n.toNat=k
  .subst e';rw[if_pos rfl,if_pos hk];exact⟨λ_=>.inr aC,λ_=>rfl⟩
  .rw[if_neg e',hs k hk'];exact⟨.inl,λh=>h.elim id λe=>by omega⟩
theorem Tn.other{b':Nat}{seen:List Int}(x:Tn m b seen)(hne:b≠b')(ho:∀c,c≠b'->m' c=m c):Tn m' b seen:=by
 obtain⟨bs,e,hl,hs⟩:=x.ex;exact⟨bs,by rw[ho b hne,e],hl,hs⟩
theorem u5.arg{n:NV}(x:u5 h s ps q ks n){j:Nat}{k:List Int}(hk:ks[j]? =some k):∃b o sl,n.args.a=some ⟨b,o,none⟩/\bF h b (o+j*1) [.slice sl.a sl.len sl.cap]/\Ints h sl k/\k.length<=12/\j<n.args.len:=by
 obtain⟨b,o,sl,e,r,hi⟩:=x.ks_.at hk;have:=(List.getElem?_eq_some_iff.1 hk).1;exact⟨b,o,sl,e,r,hi,x.len k (List.mem_of_getElem? hk),by rw[x.ks_.slen];exact this⟩
theorem Yh{n:NV}(hK:K (aQ ⟨0,0,⟨0,0,iR,iR,⟨none,0,0⟩⟩,⟨none,0,0⟩,⟨none,0,0⟩,n.q.group,n.q.order,n.q.limit,⟨none,0,0⟩⟩) m h):Lv n m h K:=hK
theorem qJ:Sound Tryz.prog 191 yH:=by
 refine jK Tryz.func191 ?_;rintro cvs m h K ⟨n,k,u,s,ps,q,ks,uq,rfl,hn,hu,hK⟩;refine⟨dL [(217,abZ)] [] [] [] false,rfl,aD QZ aF,Lx n k u m h K,by kernel_rfl,?_⟩;dsimp only[Lx,push_cast];have hl:=hn.ks_.slen;have hq:=hn.q_;have hq2:=hn.q_;obtain⟨op,ta,w,co,on,gr,od,li,args⟩:=q;obtain⟨op',ta',w',co',on',gr',od',li',args'⟩:=uq;have x:=hu.parts;have y:=hq.parts;refine aB (λh1=>⟨n.q,⟨n.q.op,u.table,u.where_,u.columns,u.on,u.group,u.order,u.limit,n.q.args⟩,_,.mk op ta' w' co' on' gr' od' li' args,rfl,hq2,nR.rep ⟨y.op_,x.table_,x.where_,x.columns_,x.on_,x.group_,x.order_,x.limit_,y.args_⟩,λr hr=>hK r (hr.trans ⟨λe=>⟨?_,e⟩,λe=>e.2⟩)⟩) (λh1=>hK false ⟨λe=>(by cases e),λe=>?_⟩)
 .have:(n.args.len:Int)=k:=by simpa using h1
  omega
 .have:(n.args.len:Int)≠k:=by simpa using h1
  have:=e.1;omega
theorem Jx:Sound Tryz.prog 194 J3:=by
 refine jK Tryz.func194 ?_;rintro cvs m h K ⟨n,s,ps,q,ks,rfl,hn,hK⟩;refine⟨dL [] [] [] [] false,rfl,aF,Lv n m h K,by kernel_rfl,?_⟩;exact Yh hK
theorem Yg{n:NV}{op:Int}{args:List Query}(hn:u5 h s ps (.mk op ta w co on gr od li args) ks n)(ha:ks[0]? =some a)(hK:∀r:Bool,(r=true↔D0 a gr od li)->K (cB r) m h):C1 n m h (kY h K):=by
 dsimp only[C1,push_cast];have x:=hn.q_.parts;have gl:=x.group_.slen;have glen:=x.group_.len;have ol:=x.order_.slen;have olen:=x.order_.len;have el:=x.limit_;obtain⟨b0,o0,sl,e0,r0,hi0,hl12,hlen⟩:=hn.arg ha;have sla:=hi0.slen;have bad:∀mx,Sub m mx->¬D0 a gr od li->kY h K (.val (.bool false)) mx h:=λmx hm hn=>.sub hm (hK false ⟨λe=>(by cases e),λe=>(hn e).elim⟩);refine⟨b0,o0,e0,aC,aC,sl,.imm (by simpa using r0),λb m1 hb hm1=>?_⟩;refine⟨λ⟨i,wd,b',mx⟩=>wd=a.length/\b'=b/\i<=gr.length/\Sub m mx/\Tn mx b (gr.take i)/\iP (J7 a) gr i,λ⟨i,_,_,_⟩=>gr.length-i,⟨(0,sl.len,b,m1),⟨sla,rfl,aC,(Sub.refl m).upd hb.m_ hm1.other,.zero hm1.at_,.zero⟩,MT⟩,?_⟩;rintro⟨i,wd,b,mx⟩ ⟨rfl,rfl,hi,hsub,harr,hg⟩;dsimp only;refine aE (λhlt=>?_) (λhge=>?_)
 .obtain⟨c,hc⟩:=fS gl hlt;obtain⟨b1,o1,e1,r1⟩:=x.group_.at' hc;have gbad:¬J7 a (gr.take i) c->kY h K (.val (.bool false)) mx h:=λhn=>bad mx hsub λhh=>Good.not hc hn hh.group_;refine⟨b1,o1,e1,aC,hlt,c,.imm r1,aE (λh1=>gbad λhh=>?_) (λh1=>aE (λh2=>gbad λhh=>?_) (λh2=>?_))⟩
  .have:=mF.1 hh.1;omega
  .have:=mF.1 hh.1;omega
  obtain⟨y,hy,hys⟩:=harr.look (h:=h) (n:=c) aC aC;refine⟨aC,aC,y,hy,aB (λh3=>gbad λhh=>hh.2 (hys.1 h3)) (λh3=>?_)⟩;obtain⟨cs,E,hat,hsz,hst⟩:=harr.store (n:=c) aC aC;refine⟨aC,aC,cs,E,hat,hsz,λm2 hm2=>⟨(i+1,a.length,b,m2),⟨rfl,rfl,aC,hsub.upd hb.m_ hm2.other,?_,hg.succ hc ⟨mF.2 ⟨aC,aC⟩,λe=>?_⟩⟩,by show gr.length-(i+1)<gr.length-i;omega,MT⟩⟩
  .have:=hst m2 hm2
   rwa [List.take_add_one,hc]
  .rw[hys.2 e]at h3;cases h3
 have gg:=hg.all aC;refine⟨λ⟨i,wd,mx⟩=>wd=a.length/\i<=od.length/\Sub m mx/\iP (Sf a) od i,λ⟨i,_,_⟩=>od.length-i,⟨(0,a.length,mx),⟨rfl,aC,hsub,.zero⟩,MT⟩,?_⟩;clear hi hg hge hsub harr mx;rintro⟨i,wd,mx⟩ ⟨rfl,hi,hsub,hoi⟩;dsimp only;refine aE (λhlt=>?_) (λhge=>?_)
 .obtain⟨c,hc⟩:=fS ol hlt;obtain⟨b1,o1,e1,r1⟩:=x.order_.at hc;have obad:¬Sf a (od.take i) c->kY h K (.val (.bool false)) mx h:=λhn=>bad mx hsub λhh=>Good.not hc hn hh.order_;refine⟨b1,o1,e1,aC,hlt,c,.imm r1,aE (λh1=>obad λhh=>?_) (λh1=>aE (λh2=>obad λhh=>?_) (λh2=>⟨(i+1,a.length,mx),⟨rfl,aC,hsub,hoi.succ hc (mF.2 ⟨aC,aC⟩)⟩,by show od.length-(i+1)<od.length-i;omega,MT⟩))⟩
  .have:=mF.1 (show SG a c.1=true from hh);omega
  .have:=mF.1 (show SG a c.1=true from hh);omega
 have oo:=hoi.all aC;rw[el];refine aE (λh1=>aE (λh2=>?_) (λh2=>bad mx hsub λhh=>?_)) (λh1=>bad mx hsub λhh=>?_)
 .exact .sub hsub (hK (decide (li<=100)) ⟨λe=>⟨gg,oo,aC,h2,by simpa using e⟩,λe=>decide_eq_true e.high⟩)
 .have:=hh.low;omega
 .have:=hh.len_;omega
theorem Jw:Sound Tryz.prog 195 J4:=by
 refine Fh Tryz.func195 ?_;rintro cvs m h K ⟨n,s,ps,q,ks,a,rfl,hn,ha,hK⟩;refine⟨Wa n h,rfl,aF,C1 n m h (kY h K),by kernel_rfl,?_⟩;dsimp only[C1,push_cast];obtain⟨op,ta,w,co,on,gr,od,li,args⟩:=q;refine Yg hn ha (λr hr=>hK r (hr.trans ⟨λe=>⟨_,_,_,_,_,_,_,_,_,rfl,e⟩,?_⟩));rintro⟨_,_,_,_,_,_,_,_,_,e,hr⟩;cases e;exact hr
theorem P8{sl:Sl}(hon:nS h sl on):fF h (.mk 0 0 jS [] on [] [] 0 []) ⟨0,0,⟨0,0,iR,iR,⟨none,0,0⟩⟩,⟨none,0,0⟩,sl,⟨none,0,0⟩,⟨none,0,0⟩,0,⟨none,0,0⟩⟩:=
 nR.rep ⟨rfl,rfl,Ce h,⟨.nil _ _,by simp⟩,hon,⟨.nil _ _,by simp⟩,⟨.nil _ _,by simp⟩,rfl,.nil _ _ _ _⟩
theorem Jy:Sound Tryz.prog 192 J5:=by
 refine Fh Tryz.func192 ?_;rintro cvs m h K ⟨n,s,ps,q,ks,rfl,hn,hK⟩;refine⟨Wc n h,rfl,aD qJ aF,C2 n m h (kY h K),by kernel_rfl,?_⟩;dsimp only[C2,push_cast];obtain⟨op,ta,w,co,on,gr,od,li,args⟩:=q;show C2 n m h (kY h K);dsimp only[C2,push_cast];have x:=hn.q_.parts;have ol:=x.on_.slen;have olen:=x.on_.len;have bad:∀mx,Sub m mx->¬HG ks (.mk op ta w co on gr od li args)->kY h K (.val (.bool false)) mx h:=λmx hm hn=>.sub hm (hK false ⟨λe=>(by cases e),λe=>(hn e).elim⟩);refine⟨n,2,⟨0,0,⟨0,0,iR,iR,⟨none,0,0⟩⟩,⟨none,0,0⟩,n.q.on,⟨none,0,0⟩,⟨none,0,0⟩,0,⟨none,0,0⟩⟩,s,ps,_,ks,.mk 0 0 jS [] on [] [] 0 [],rfl,hn,P8 x.on_,λr hr=>aB (λh1=>bad m (Sub.refl m) λhh=>?_) (λh1=>?_)⟩
 .have:r=true:=hr.2 ⟨by have:=hh.1;omega,by obtain⟨_,rfl,rfl,rfl,rfl,rfl,rfl,_⟩:=hh;rfl⟩;rw[this]at h1;cases h1
 obtain⟨hk2,heq⟩:=hr.1 (by simpa using h1);simp only[Query.withOf,Query.mk.injEq]at heq;obtain⟨_,rfl,rfl,rfl,_,rfl,rfl,rfl,_⟩:=heq
 obtain⟨a0,a1,rfl⟩:∃a0 a1,ks=[a0,a1]:=by
  match ks,hk2 with
  |[a0,a1],_=>exact⟨a0,a1,rfl⟩
  |[],h=>simp at h
  |[_],h=>simp at h
  |_::_::_::_,h=>simp at h;omega
 obtain⟨b0,o0,s0,e0,r0,i0,l0,j0⟩:=hn.arg (j:=0) rfl;obtain⟨b1,o1,s1,e1,r1,i1,l1,j1⟩:=hn.arg (j:=1) rfl;have sl0:=i0.slen;have sl1:=i1.slen;have bad:∀mx,Sub m mx->¬Good (Ho a0 a1) on->kY h K (.val (.bool false)) mx h:=λmx hm hn=>bad mx hm λhh=>hn hh.2.2.2.2.2.2.2;refine⟨b0,o0,e0,aC,aC,s0,.imm (by simpa using r0),b1,o1,e1,aC,aC,s1,.imm (by simpa using r1),λb m1 hb hm1 c m2 hc hm2=>?_⟩;have hne:b≠c:=λe=>by have:=hc.m_;rw[<-e,hm1.at_]at this;cases this
 have hs1:Sub m m1:=(Sub.refl m).upd hb.m_ hm1.other;have hcm:m c=none:=hs1.free hc.m_
 refine⟨λ⟨i,s',t',b',c',mx⟩=>s'=s0/\t'=s1/\b'=b/\c'=c/\i<=on.length/\Sub m mx/\Tn mx b ((on.take i).map Prod.fst)/\Tn mx c ((on.take i).map Prod.snd)/\iP (Ho a0 a1) on i,λ⟨i,_,_,_,_,_⟩=>on.length-i,
  ⟨(0,s0,s1,b,c,m2),⟨rfl,rfl,rfl,rfl,aC,hs1.upd hcm hm2.other,(Tn.zero hm1.at_).other hne hm2.other,.zero hm2.at_,.zero⟩,MT⟩,?_⟩
 rintro⟨i,s0,s1,b,c,mx⟩ ⟨rfl,rfl,rfl,rfl,hi,hsub,hA,hB,hg⟩;dsimp only;refine aE (λhlt=>?_) (λhge=>.sub hsub (hK true ⟨λ_=>⟨rfl,rfl,rfl,rfl,rfl,rfl,rfl,hg.all aC⟩,λ_=>rfl⟩));obtain⟨p,hp⟩:=fS ol hlt;obtain⟨bp,op',ep,rp⟩:=x.on_.at hp;have pbad:¬Ho a0 a1 (on.take i) p->kY h K (.val (.bool false)) mx h:=λhn=>bad mx hsub (Good.not hp hn);refine⟨bp,op',ep,aC,hlt,p,.imm rp,aC,aC,aC,aC,aE (λd1=>pbad λhh=>?_) (λd1=>aE (λd2=>pbad λhh=>?_) (λd2=>aE (λd3=>pbad λhh=>?_) (λd3=>aE (λd4=>pbad λhh=>?_) (λd4=>?_))))⟩
 .have:=mF.1 hh.1;omega
 .have:=mF.1 hh.1;omega
 .have:=mF.1 hh.2.1;omega
 .have:=mF.1 hh.2.1;omega
 obtain⟨b2,o2,e2,r2⟩:=i0.inb (n:=p.1) aC aC;obtain⟨b3,o3,e3,r3⟩:=i1.inb (n:=p.2) aC aC;obtain⟨y,hy,hys⟩:=hA.look (h:=h) (n:=p.1) aC aC;obtain⟨z,hz,hzs⟩:=hB.look (h:=h) (n:=p.2) aC aC;obtain⟨cs,E,hat,hsz,hst⟩:=hA.store (n:=p.1) aC aC;refine⟨b2,o2,e2,aC,aC,_,.imm r2,b3,o3,e3,aC,aC,_,.imm r3,aB (λd5=>pbad λhh=>?_) (λd5=>⟨aC,aC,y,hy,aB (λd6=>pbad λhh=>?_) (λd6=>⟨aC,aC,z,hz,aB (λd7=>pbad λhh=>?_) (λd7=>⟨aC,aC,cs,E,hat,hsz,λm3 hm3=>?_⟩)⟩)⟩)⟩
 .rw[hh.2.2.1]at d5;simp at d5
 .obtain⟨q,hq,e⟩:=List.mem_map.1 (hys.1 d6);exact(hh.2.2.2 q hq).1 e
 .obtain⟨q,hq,e⟩:=List.mem_map.1 (hzs.1 d7);exact(hh.2.2.2 q hq).2 e
 have hA3:=hst m3 hm3;have hB3:=hB.other hne.symm hm3.other;obtain⟨cs2,E2,hat2,hsz2,hst2⟩:=hB3.store (n:=p.2) aC aC;refine⟨aC,aC,cs2,E2,hat2,hsz2,λm4 hm4=>⟨(i+1,s0,s1,b,c,m4),⟨rfl,rfl,rfl,rfl,aC,(hsub.upd hb.m_ hm3.other).upd hcm hm4.other,?_,?_,hg.succ hp ⟨mF.2 ⟨aC,aC⟩,mF.2 ⟨aC,aC⟩,by simpa using d5,λq hq=>⟨λe=>?_,λe=>?_⟩⟩⟩,by show on.length-(i+1)<on.length-i;omega,MT⟩⟩
 .rw[jL hp];exact hA3.other hne hm4.other
 .rw[jL hp];exact hst2 m4 hm4
 .rw[hys.2 (List.mem_map.2 ⟨q,hq,e⟩)]at d6;cases d6
 .rw[hzs.2 (List.mem_map.2 ⟨q,hq,e⟩)]at d7;cases d7
def fin(r:List Int×Int):List Int×Int:=if r.2=0 then zC r.1 else kC r.2
def Query.op:Query->Int
 |.mk op .. =>op
noncomputable def u7(s:jR)(ps:List Int)(q:Query)(ks:List (List Int)):List Int×Int:=if(ks.length:Int)=arity q.op then kW s ps q (ks.getD 0 []) (ks.getD 1 [])else kC 100
def u9(P:Int->Prop):Vc.Spec:=λcvs m h K=>∃n s ps q ks,cvs=[aN n]/\u5 h s ps q ks n/\uP s/\P q.op/\∀r,fin r=u7 s ps q ks->KR K m h r
def aaJ(h:PH)(ss:Sl)(ks:List (List Int)):Prop:=aR h 1 eS (λk sl=>Ints h sl k) ss ks
def Ia:Vc.Spec:=λcvs m h K=>∃ss ks,cvs=[cS ss]/\aaJ h ss ks/\ks.length<=10/\(∀k∈ks,k.length<=12)/\∀sl h',PH.le h h'->Ints h' sl ks.flatten->K (cS sl) m h'
noncomputable def Wj(n:NV)(m:MH)(h:PH):Ctx:=
 dL [(191,yH)] [(5,{A:=Nat×List Int,st:=λ⟨i,l⟩=>cM 57 58 [(1,.at (.ptr 1 0)),(4,.at (.lst 25)),(28,sv n.q.columns),(29,iv n.q.columns.len),(30,iv i)] [(1,.cells 206 (n.enc.map .val)),(25,.lst 3 1 (l.map eI))] m h})] [] [] false
noncomputable abbrev E4:List Value:=xT cK nV nV nV nV cK fE
noncomputable abbrev wH(a:Int):CV:=CV.tup (aK uO (dY a))
noncomputable abbrev lU:CV:=wH 100
abbrev pU(a:CV->MH->PH->Prop)(b:Sl)(c:MH)(d:PH):Prop:=a (CV.tup (aK (dG b) (dY 0))) c d
attribute [push_cast] E4 wH lU pU
def C9(n:NV)(m:MH)(h:PH)(K:CV->MH->PH->Prop):Prop:=
  ∃(n1:NV),xC (fB (aJ (eE n.s) (eD n.s) (aJ (bV n.params) (cJ n.q.op) (aJ (cX n.q) (dC n.q) (aJ (cJ (dE n.q)) (dR (dM n.q)) (eZ n (eY n))))))::aK (dY 0) (fB (Bv cK (cX n.q) cK cK E4))) (λk u=>fB (aJ (eE n1.s) (eD n1.s) (aJ (bV n1.params) (cJ n1.q.op) (aJ (cX n1.q) (dC n1.q) (aJ (cJ (dE n1.q)) (dR (dM n1.q)) (eZ n1 (eY n1))))))::aK (dY k) (cW u)) h n1 (λr=>branch (!r) (K lU m h) (bE n.q.table 0 (K lU m h) (iH n.q.table (yL n.s) K lU m h (EJ n.s n.q.table h (λs t=>gT (λs1 h1=>dZ h h1 (Ints h1 s1 (iB s t)) (pU K s1 m h1)))))))
def C8(n:NV)(m:MH)(h:PH)(K:CV->MH->PH->Prop):Prop:=
  ∃(n1:NV),xC (fB (aJ (eE n.s) (eD n.s) (aJ (bV n.params) (cJ n.q.op) (aJ (cX n.q) (dC n.q) (aJ (cJ (dE n.q)) (dR (dM n.q)) (eZ n (eY n))))))::aK (dY 1) (fB (aJ cK cK (aJ (dC n.q) (cJ (dE n.q)) (aJ (dR (dM n.q)) (wF (dM n.q)) (aJ (cJ (lO (dM n.q))) (qH (dM n.q)) (aJ (iI (dM n.q)) (dR (j7 n.q)) (aJ (wF (j7 n.q)) (cJ (lO (j7 n.q))) (aJ (qH (j7 n.q)) (iI (j7 n.q)) (aJ (oR n.q) nV (aJ nV nV (aJ nV cK fE)))))))))))) (λk u=>fB (aJ (eE n1.s) (eD n1.s) (aJ (bV n1.params) (cJ n1.q.op) (aJ (cX n1.q) (dC n1.q) (aJ (cJ (dE n1.q)) (dR (dM n1.q)) (eZ n1 (eY n1))))))::aK (dY k) (cW u)) h n1 (λr=>branch (!r) (K lU m h) (dA n.args 0 (λb o y=>aI m h b (o+
 0) (aM y)/\fR (λs t=>∃(v:PV),BH (λc p=>∃(p1:Pred),aA (dG y::aK (dG n.params) (fB n.q.where_.enc)=dG s::aK (dG t) (fB v.enc)) (Ints h s c) (aA (Ints h t p) (fZ h p1 v) (branch (gZ c p p1 !=0) (K (wH (gZ c p p1)) m h) (dA n.args 0 (λb1 o1 y1=>aI m h b1 (o1+0) (aM y1)/\pU K y1 m h)))))))))
noncomputable abbrev oE(a:Nat×List Int):List (List Value):=List.map eI a.2
attribute [push_cast] oE
def C7(n:NV)(m:MH)(h:PH)(K:CV->MH->PH->Prop):Prop:=
  ∃(n1:NV),xC (fB (aJ (eE n.s) (eD n.s) (aJ (bV n.params) (cJ n.q.op) (aJ (cX n.q) (dC n.q) (aJ (cJ (dE n.q)) (dR (dM n.q)) (eZ n (eY n))))))::aK (dY 1) (fB (CE (xT cK (oW n.q) nV nV nV cK fE)))) (λk u=>fB (aJ (eE n1.s) (eD n1.s) (aJ (bV n1.params) (cJ n1.q.op) (aJ (cX n1.q) (dC n1.q) (aJ (cJ (dE n1.q)) (dR (dM n1.q)) (eZ n1 (eY n1))))))::aK (dY k) (cW u)) h n1 (λr=>branch (!r) (K lU m h) (branch (aH n.q.columns==0) (K lU m h) (aA (cQ 0) (cQ (aH n.q.columns)) (aA (kS (aH n.q.columns*8)) (kS (aH n.q.columns)) (∃(I:Nat×List Int->Prop)(m1:Nat×List Int->Nat),(∃(x:Nat×List Int),aA (I x) (eP 1) (aA (eL 25) (aL n.q.columns) (aA (aX n.q.columns) (bI x.1) (aA (Ah
 n) (Cn (oE x)) (bZ m m h h)))))/\∀(x:Nat×List Int),I x->bE (↑x.1:Int) (aH n.q.columns) (bK (λb o=>aA (bL n.q.columns.a b o) (0<=(↑x.1:Int)) ((↑x.1:Int)<aH n.q.columns/\∃(y:Int),aI m h b (o+aZ x.1 1) (bR y)/\bE y 0 (K lU m h) (dA n.args 0 (λb1 o1 y1=>aI m h b1 (o1+0) (aM y1)/\iH y (aH y1) K lU m h (dA n.args 0 (λb2 o2 y2=>aI m h b2 (o2+0) (aM y2)/\bK (λb3 o3=>aA (bL y2.a b3 o3) (0<=y) (y<aH y2/\∃(y3:Int),aA (aI m h b3 (o3+eM y 1) (bR y3)) (dD ((oE x).length+1) 8) (eF (oE x)/\∃(x1:Nat×List Int),aA (I x1) (m1 x1<m1 x) (aA (eP 1) (eL 25) (aA (aL n.q.columns) (aX n.q.columns) (aA (bD (gI (bC x.1 1)) x1.1) (Ah n) (bT (Option.some (Own.lst 3 1 (eR (oE x)
 (bR y3)))=Option.some (Own.lst 3 1 (oE x1))) m m h h)))))))))))))) (aY h 1 (oE x) (λs h1=>pU K s m h1)))))))
noncomputable abbrev mA(a b:List Value):List (List Value):=a::hX b
attribute [push_cast] mA
def C6(n:NV)(m:MH)(h:PH)(K:CV->MH->PH->Prop):Prop:=
  ∃(n1:NV),Af (λs p q k=>aA (eV (fB (aJ (eE n.s) (eD n.s) (aJ (bV n.params) (cJ n.q.op) (aJ (cX n.q) (dC n.q) (aJ (cJ (dE n.q)) (dR (dM n.q)) (eZ n (eY n))))))) (fB (aJ (eE n1.s) (eD n1.s) (aJ (bV n1.params) (cJ n1.q.op) (aJ (cX n1.q) (dC n1.q) (aJ (cJ (dE n1.q)) (dR (dM n1.q)) (eZ n1 (eY n1)))))))) (u5 h s p q k n1) (∀(r:Bool),(lN r↔HG k q)->branch (!r) (K lU m h) (dA n.args 0 (λb o y=>aI m h b (o+0) (aM y)/\dA n.args 1 (λb1 o1 y1=>aA (aI m h b1 (o1+1) (aM y1)) (bF h b (o+0) (aM y)) (bF h b1 (o1+1) (aM y1)/\aY h 1 (mA (aM y) (aM y1)) (λs1 h1=>∃(s2:Sl)(k1:List (List Int)),aA (nH s1 s2) (aaJ h1 s2 k1) (aA (k1.length<=10) (∀(k2:List Int),List.Mem k2 k1->k2.length
 <=12) (gT (λs3 h2=>dZ h1 h2 (Ints h2 s3 k1.flatten) (pU K s3 m h2)))))))))))
def C5(n:NV)(m:MH)(h:PH)(K:CV->MH->PH->Prop):Prop:=
  ∃(n1:NV),Af (λs p q k=>aA (eV (fB (aJ (eE n.s) (eD n.s) (aJ (bV n.params) (cJ n.q.op) (aJ (cX n.q) (dC n.q) (aJ (cJ (dE n.q)) (dR (dM n.q)) (eZ n (eY n))))))) (fB (aJ (eE n1.s) (eD n1.s) (aJ (bV n1.params) (cJ n1.q.op) (aJ (cX n1.q) (dC n1.q) (aJ (cJ (dE n1.q)) (dR (dM n1.q)) (eZ n1 (eY n1)))))))) (u5 h s p q k n1) (∀(r:Bool),(lN r↔HG k q)->branch (!r) (K lU m h) (dA n.args 0 (λb o y=>aI m h b (o+0) (aM y)/\pU K y m h))))
def Gt(n:NV)(m:MH)(h:PH)(K:CV->MH->PH->Prop):Prop:=
  ∃(n1:NV),xC (fB (aJ (eE n.s) (eD n.s) (aJ (bV n.params) (cJ n.q.op) (aJ (cX n.q) (dC n.q) (aJ (cJ (dE n.q)) (dR (dM n.q)) (eZ n (eY n))))))::aK (dY 2) (fB zV)) (λk u=>fB (aJ (eE n1.s) (eD n1.s) (aJ (bV n1.params) (cJ n1.q.op) (aJ (cX n1.q) (dC n1.q) (aJ (cJ (dE n1.q)) (dR (dM n1.q)) (eZ n1 (eY n1))))))::aK (dY k) (cW u)) h n1 (λr=>branch (!r) (K lU m h) (dA n.args 0 (λb o y=>aI m h b (o+0) (aM y)/\dA n.args 1 (λb1 o1 y1=>aI m h b1 (o1+1) (aM y1)/\Cz y y1 h (λr1=>branch (!r1) (K lU m h) (dA n.args 0 (λb2 o2 y2=>aI m h b2 (o2+0) (aM y2)/\pU K y2 m h)))))))
abbrev MU(a:(List Int)->(List (Int×Bool))->Prop):Prop:=∃(x:List Int)(x1:List (Int×Bool)),a x x1
attribute [push_cast] MU
def C4(n:NV)(m:MH)(h:PH)(K:CV->MH->PH->Prop):Prop:=
  ∃(n1:NV),Af (λs p q k=>aA (eV (fB (aJ (eE n.s) (eD n.s) (aJ (bV n.params) (cJ n.q.op) (aJ (cX n.q) (dC n.q) (aJ (cJ (dE n.q)) (dR (dM n.q)) (eZ n (eY n))))))) (fB (aJ (eE n1.s) (eD n1.s) (aJ (bV n1.params) (cJ n1.q.op) (aJ (cX n1.q) (dC n1.q) (aJ (cJ (dE n1.q)) (dR (dM n1.q)) (eZ n1 (eY n1)))))))) (u5 h s p q k n1) (∃(n2:NV),xC (fB (aJ (eE n.s) (eD n.s) (aJ (bV n.params) (cJ n.q.op) (aJ (cX n.q) (dC n.q) (aJ (cJ (dE n.q)) (dR (dM n.q)) (eZ n (eY n))))))::aK (dY 1) (fB (CE (HO n1.q)))) (λk1 u=>fB (aJ (eE n2.s) (eD n2.s) (aJ (bV n2.params) (cJ n2.q.op) (aJ (cX n2.q) (dC n2.q) (aJ (cJ (dE n2.q)) (dR (dM n2.q)) (eZ n2 (eY n2))))))::aK (dY k1) (cW u)) h n2
 (λr=>branch (!r) (K lU m h) (∃(n3:NV),Af (λs1 p1 q1 k1=>∃(a:List Int),aA (eV (fB (aJ (eE n.s) (eD n.s) (aJ (bV n.params) (cJ n.q.op) (aJ (cX n.q) (dC n.q) (aJ (cJ (dE n.q)) (dR (dM n.q)) (eZ n (eY n))))))) (fB (aJ (eE n3.s) (eD n3.s) (aJ (bV n3.params) (cJ n3.q.op) (aJ (cX n3.q) (dC n3.q) (aJ (cJ (dE n3.q)) (dR (dM n3.q)) (eZ n3 (eY n3)))))))) (u5 h s1 p1 q1 k1 n3) (k1[0]? =Option.some a/\∀(r1:Bool),(lN r1↔(∃(o t:Int)(w:Pred)(c:List Int)(o1:List (Int×Int)),MU (λg o2=>∃(l:Int)(a1:List Query),q1=Query.mk o t w c o1 g o2 l a1/\D0 a g o2 l)))->branch (!r1) (K lU m h) (dA n.args 0 (λb o y=>aI m h b (o+0) (aM y)/\pU K y m h))))))))
def C3(n:NV)(m:MH)(h:PH)(K:CV->MH->PH->Prop):Prop:=
  ∃(n1:NV),Af (λs p q k=>aA (eV (fB (aJ (eE n.s) (eD n.s) (aJ (bV n.params) (cJ n.q.op) (aJ (cX n.q) (dC n.q) (aJ (cJ (dE n.q)) (dR (dM n.q)) (eZ n (eY n))))))) (fB (aJ (eE n1.s) (eD n1.s) (aJ (bV n1.params) (cJ n1.q.op) (aJ (cX n1.q) (dC n1.q) (aJ (cJ (dE n1.q)) (dR (dM n1.q)) (eZ n1 (eY n1)))))))) (u5 h s p q k n1) (∃(n2:NV),xC (fB (aJ (eE n.s) (eD n.s) (aJ (bV n.params) (cJ n.q.op) (aJ (cX n.q) (dC n.q) (aJ (cJ (dE n.q)) (dR (dM n.q)) (eZ n (eY n))))))::aK (dY 2) (fB (CE (HO n1.q)))) (λk1 u=>fB (aJ (eE n2.s) (eD n2.s) (aJ (bV n2.params) (cJ n2.q.op) (aJ (cX n2.q) (dC n2.q) (aJ (cJ (dE n2.q)) (dR (dM n2.q)) (eZ n2 (eY n2))))))::aK (dY k1) (cW u)) h n2
 (λr=>branch (!r) (K lU m h) (dA n.args 0 (λb o y=>aI m h b (o+0) (aM y)/\dA n.args 1 (λb1 o1 y1=>aI m h b1 (o1+1) (aM y1)/\Cz y y1 h (λr1=>branch (!r1) (aA (bF h b (o+0) (aM y)) (bF h b1 (o1+1) (aM y1)) (K lU m h)) (aA (bF h b (o+0) (aM y)) (bF h b1 (o1+1) (aM y1)) (∃(n3:NV),Af (λs1 p1 q1 k1=>∃(a:List Int),aA (eV (fB (aJ (eE n.s) (eD n.s) (aJ (bV n.params) (cJ n.q.op) (aJ (cX n.q) (dC n.q) (aJ (cJ (dE n.q)) (dR (dM n.q)) (eZ n (eY n))))))) (fB (aJ (eE n3.s) (eD n3.s) (aJ (bV n3.params) (cJ n3.q.op) (aJ (cX n3.q) (dC n3.q) (aJ (cJ (dE n3.q)) (dR (dM n3.q)) (eZ n3 (eY n3)))))))) (u5 h s1 p1 q1 k1 n3) (k1[0]? =Option.some a/\∀(r2:Bool),(lN r2↔(∃(o2 t:Int)(w:
 Pred)(c:List Int)(o3:List (Int×Int)),MU (λg o4=>∃(l:Int)(a1:List Query),q1=Query.mk o2 t w c o3 g o4 l a1/\D0 a g o4 l)))->branch (!r2) (K lU m h) (dA n.args 0 (λb2 o2 y2=>aI m h b2 (o2+0) (aM y2)/\pU K y2 m h)))))))))))))
theorem XK{e:Int}(h:e≠0):fin (kC e)=kC e:=by unfold fin;rw[if_neg (by simpa[kC]using h)];rfl
theorem XJ(l:List Int):fin (l,0)=zC l:=by unfold fin;rw[if_pos rfl]
structure U4(K:CV->MH->PH->Prop)(m:MH)(h:PH)(full:List Int×Int):Prop where
 all:∀r,fin r=full->KR K m h r
theorem U4.err{f:List Int×Int}{e:Int}(x:U4 K m h f)(he:f=kC e)(h0:e≠0)(hle:PH.le h h'):K (.tup [.val (.slice none 0 0),.val (.int .i64 e)]) m h':=
 (x.all (kC e) (by rw[he,XK h0])).err hle rfl
theorem U4.ok{f:List Int×Int}{sl:Sl}(x:U4 K m h f)(he:f=zC l)(hle:PH.le h h')(hi:Ints h' sl l):K (.tup [.val (.slice sl.a sl.len sl.cap),.val (.int .i64 0)]) m h':=
 x.all (l,0) (by rw[he,XJ]) sl h' hle hi
theorem rY(h:¬((ks.length:Int)=arity q.op/\eN q)):u7 s ps q ks=kC 100:=by
 unfold u7;by_cases h1:(ks.length:Int)=arity q.op
 .rw[if_pos h1];unfold kW;rw[if_pos (.inr λe=>h ⟨h1,e⟩)]
 .rw[if_neg h1]
theorem mO{s:jR}{ps:List Int}{op ta:Int}{w:Pred}{co:List Int}{on:List (Int×Int)}{gr:List Int}{od:List (Int×Bool)}{li:Int}{args:List Query}{ks:List (List Int)}(h1:(ks.length:Int)=arity op)(h2:eN (.mk op ta w co on gr od li args))(h0:0<=arity op):
 u7 s ps (.mk op ta w co on gr od li args) ks=kW s ps (.mk op ta w co on gr od li args) (ks.getD 0 []) (ks.getD 1 [])/\¬(arity op<0\/¬eN (.mk op ta w co on gr od li args)):=by
 unfold u7;rw[if_pos (show(ks.length:Int)=arity (Query.op (.mk op ta w co on gr od li args))from h1)];exact⟨rfl,λe=>e.elim (λe=>by omega) λe=>e h2⟩
section
variable{n:NV}{s:jR}{ps:List Int}{ta:Int}{w:Pred}{co:List Int}{on:List (Int×Int)}{gr:List Int}{od:List (Int×Bool)}{li:Int}{args:List Query}{ks:List (List Int)}{m:MH}{h:PH}{K:CV->MH->PH->Prop}
theorem Qi(hk:(ks.length:Int)=1):∃a,ks=[a]:=by
 match ks,hk with
 |[a],_=>exact⟨a,rfl⟩
 |[],h=>simp at h
 |_::_::_,h=>simp at h;omega
theorem Mz(hk:(ks.length:Int)=2):∃a b,ks=[a,b]:=by
 match ks,hk with
 |[a,b],_=>exact⟨a,b,rfl⟩
 |[],h=>simp at h
 |[_],h=>simp at h
 |_::_::_::_,h=>simp at h;omega
theorem Yr(hn:u5 h s ps (.mk 1 ta w co on gr od li args) ks n)(h8:uP s)(hT:U4 K m h (u7 s ps (.mk 1 ta w co on gr od li args) ks)):C9 n m h K:=by
 dsimp only[C9,push_cast];have x:=hn.q_.parts;have et:=x.table_;have sl:=hn.s_.tables.slen;refine⟨n,0,⟨0,n.q.table,⟨0,0,iR,iR,⟨none,0,0⟩⟩,⟨none,0,0⟩,⟨none,0,0⟩,⟨none,0,0⟩,⟨none,0,0⟩,0,⟨none,0,0⟩⟩,s,ps,_,ks,.mk 0 ta jS [] [] [] [] 0 [],rfl,hn,nR.rep ⟨rfl,et,Ce h,⟨.nil _ _,by simp⟩,⟨.nil _ _,by simp⟩,⟨.nil _ _,by simp⟩,⟨.nil _ _,by simp⟩,rfl,.nil _ _ _ _⟩,λr hr=>aB (λh1=>hT.err (rY λe=>?_) aC (.refl _)) (λh1=>?_)⟩
 .have:r=true:=hr.2 ⟨e.1,by have:=e.2;simp[eN]at this;obtain⟨rfl,rfl,rfl,rfl,rfl,rfl⟩:=this;rfl⟩;rw[this]at h1;cases h1
 obtain⟨hk,heq⟩:=hr.1 (by simpa using h1);simp only[Query.withOf,Query.mk.injEq]at heq;obtain⟨_,_,rfl,rfl,rfl,rfl,rfl,rfl,_⟩:=heq;obtain⟨hf,hg⟩:=mO (s:=s) (ps:=ps) (op:=1) (ta:=ta) (w:=jS) (co:=[]) (on:=[]) (gr:=[]) (od:=[]) (li:=0) (args:=args) (ks:=ks) hk (by simp[eN]) (by decide);rw[hf]at hT;unfold kW at hT;rw[if_neg hg]at hT;dsimp only at hT;rw[if_pos rfl]at hT;refine aE (λd1=>hT.err (if_neg aC) aC (.refl _)) (λd1=>aE (λd2=>hT.err (if_neg aC) aC (.refl _)) (λd2=>⟨n.s,s,n.q.table,rfl,hn.s_,h8,λsl h' hle hi=>?_⟩));rw[et]at hi;exact hT.ok (if_pos aC) hle hi
theorem Yq(hn:u5 h s ps (.mk 2 ta w co on gr od li args) ks n)(hT:U4 K m h (u7 s ps (.mk 2 ta w co on gr od li args) ks)):C8 n m h K:=by
 dsimp only[C8,push_cast];have x:=hn.q_.parts;refine⟨n,1,⟨0,0,n.q.where_,⟨none,0,0⟩,⟨none,0,0⟩,⟨none,0,0⟩,⟨none,0,0⟩,0,⟨none,0,0⟩⟩,s,ps,_,ks,.mk 0 0 w [] [] [] [] 0 [],rfl,hn,nR.rep ⟨rfl,rfl,x.where_,⟨.nil _ _,by simp⟩,⟨.nil _ _,by simp⟩,⟨.nil _ _,by simp⟩,⟨.nil _ _,by simp⟩,rfl,.nil _ _ _ _⟩,λr hr=>aB (λh1=>hT.err (rY λe=>?_) aC (.refl _)) (λh1=>?_)⟩
 .have:r=true:=hr.2 ⟨e.1,by have:=e.2;simp[eN]at this;obtain⟨rfl,rfl,rfl,rfl,rfl,rfl⟩:=this;rfl⟩;rw[this]at h1;cases h1
 obtain⟨hk,heq⟩:=hr.1 (by simpa using h1);simp only[Query.withOf,Query.mk.injEq]at heq;obtain⟨_,rfl,_,rfl,rfl,rfl,rfl,rfl,_⟩:=heq;obtain⟨hf,hg⟩:=mO (s:=s) (ps:=ps) (op:=2) (ta:=0) (w:=w) (co:=[]) (on:=[]) (gr:=[]) (od:=[]) (li:=0) (args:=args) (ks:=ks) hk (by simp[eN]) (by decide);rw[hf]at hT;unfold kW at hT;rw[if_neg hg]at hT;dsimp only at hT;rw[if_neg (by decide),if_pos rfl]at hT;obtain⟨a,rfl⟩:=Qi hk;obtain⟨b0,o0,s0,e0,r0,i0,l0,j0⟩:=hn.arg (j:=0) rfl;simp only[List.getD_cons_zero]at hT;refine⟨b0,o0,e0,aC,aC,s0,.imm (by simpa using r0),s0,n.params,n.q.where_,a,ps,w,rfl,i0,hn.ps_,x.where_,aB (λd1=>hT.err (if_neg (by simpa using d1)) (by simpa using d1) (.refl _)) (λd1=>⟨b0,o0,e0,aC,aC,s0,.imm (by simpa using r0),hT.ok (if_pos (by simpa using d1)) (.refl _) i0⟩)⟩
theorem Yn(hn:u5 h s ps (.mk 5 ta w co on gr od li args) ks n)(hT:U4 K m h (u7 s ps (.mk 5 ta w co on gr od li args) ks)):C5 n m h K:=by
 dsimp only[C5,push_cast];refine⟨n,s,ps,_,ks,rfl,hn,λr hr=>aB (λh1=>hT.err ?_ aC (.refl _)) (λh1=>?_)⟩
 .by_cases hb:((ks.length:Int)=arity 5/\eN (.mk 5 ta w co on gr od li args))
  .obtain⟨hf,hg⟩:=mO (s:=s) (ps:=ps) hb.1 hb.2 (by decide);rw[hf];unfold kW;rw[if_neg hg];dsimp only;rw[if_neg (by decide),if_neg (by decide),if_neg (by decide),if_neg (by decide),if_pos rfl,if_neg];intro hgood;have h2:=hb.2;simp[eN]at h2;have:r=true:=hr.2 ⟨by have:=hb.1;simp[arity]at this;omega,h2.1,h2.2.1,h2.2.2.1,h2.2.2.2.1,h2.2.2.2.2.1,h2.2.2.2.2.2,hgood⟩;rw[this]at h1;cases h1
  .exact rY hb
 obtain⟨hk,rfl,rfl,rfl,rfl,rfl,rfl,hgood⟩:=hr.1 (by simpa using h1);obtain⟨hf,hg⟩:=mO (s:=s) (ps:=ps) (op:=5) (ta:=0) (w:=jS) (co:=[]) (on:=on) (gr:=[]) (od:=[]) (li:=0) (args:=args) (ks:=ks) (by rw[hk];rfl) (by simp[eN]) (by decide);rw[hf]at hT;unfold kW at hT;rw[if_neg hg]at hT;dsimp only at hT;rw[if_neg (by decide),if_neg (by decide),if_neg (by decide),if_neg (by decide),if_pos rfl,if_pos hgood]at hT;obtain⟨a,b,rfl⟩:=Mz (ks:=ks) aC;obtain⟨b0,o0,s0,e0,r0,i0,l0,j0⟩:=hn.arg (j:=0) rfl;exact⟨b0,o0,e0,aC,aC,s0,.imm (by simpa using r0),hT.ok rfl (.refl _) i0⟩
theorem Yo(hn:u5 h s ps (.mk 4 ta w co on gr od li args) ks n)(hT:U4 K m h (u7 s ps (.mk 4 ta w co on gr od li args) ks)):C6 n m h K:=by
 dsimp only[C6,push_cast];refine⟨n,s,ps,_,ks,rfl,hn,λr hr=>aB (λh1=>hT.err ?_ aC (.refl _)) (λh1=>?_)⟩
 .by_cases hb:((ks.length:Int)=arity 4/\eN (.mk 4 ta w co on gr od li args))
  .obtain⟨hf,hg⟩:=mO (s:=s) (ps:=ps) hb.1 hb.2 (by decide);rw[hf];unfold kW;rw[if_neg hg];dsimp only;rw[if_neg (by decide),if_neg (by decide),if_neg (by decide),if_pos rfl,if_neg];intro hgood;have h2:=hb.2;simp[eN]at h2;have:r=true:=hr.2 ⟨by have:=hb.1;simp[arity]at this;omega,h2.1,h2.2.1,h2.2.2.1,h2.2.2.2.1,h2.2.2.2.2.1,h2.2.2.2.2.2,hgood⟩;rw[this]at h1;cases h1
  .exact rY hb
 obtain⟨hk,rfl,rfl,rfl,rfl,rfl,rfl,hgood⟩:=hr.1 (by simpa using h1);obtain⟨hf,hg⟩:=mO (s:=s) (ps:=ps) (op:=4) (ta:=0) (w:=jS) (co:=[]) (on:=on) (gr:=[]) (od:=[]) (li:=0) (args:=args) (ks:=ks) (by rw[hk];rfl) (by simp[eN]) (by decide);rw[hf]at hT;unfold kW at hT;rw[if_neg hg]at hT;dsimp only at hT;rw[if_neg (by decide),if_neg (by decide),if_neg (by decide),if_pos rfl,if_pos hgood]at hT;obtain⟨a,b,rfl⟩:=Mz (ks:=ks) aC;obtain⟨b0,o0,s0,e0,r0,i0,l0,j0⟩:=hn.arg (j:=0) rfl;obtain⟨b1,o1,s1,e1,r1,i1,l1,j1⟩:=hn.arg (j:=1) rfl;refine⟨b0,o0,e0,aC,aC,s0,.imm (by simpa using r0),b1,o1,e1,aC,aC,s1,.imm (by simpa using r1),by simpa using r0,by simpa using r1,λsl h' hle hrow=>⟨sl,[a,b],rfl,⟨⟨[s0,s1],hrow,rfl,λj k hk=>?_⟩,by simp⟩,by simp,λk hk=>hn.len k hk,λsl2 h2 hle2 hi2=>hT.ok (l:=a++b) (by simp) (hle.trans hle2) (by simpa using hi2)⟩⟩
 match j,hk with
 |0,hk=>simp at hk;subst hk;exact⟨s0,rfl,i0.mono hle⟩
 |1,hk=>simp at hk;subst hk;exact⟨s1,rfl,i1.mono hle⟩
 |_+2,hk=>simp at hk
theorem Ym{op:Int}(hop:op=6\/op=7\/op=8)(hn:u5 h s ps (.mk op ta w co on gr od li args) ks n)(hT:U4 K m h (u7 s ps (.mk op ta w co on gr od li args) ks)):Gt n m h K:=by
 dsimp only[Gt,push_cast];have x:=hn.q_.parts;have ha:arity op=2:=by rcases hop with rfl|rfl|rfl<;>rfl
 have hne:op≠1/\op≠2/\op≠3/\op≠4/\op≠5/\op≠9/\op≠10:=by omega
 refine⟨n,2,⟨0,0,⟨0,0,iR,iR,⟨none,0,0⟩⟩,⟨none,0,0⟩,⟨none,0,0⟩,⟨none,0,0⟩,⟨none,0,0⟩,0,⟨none,0,0⟩⟩,s,ps,_,ks,.mk 0 0 jS [] [] [] [] 0 [],rfl,hn,nR.rep ⟨rfl,rfl,Ce h,⟨.nil _ _,by simp⟩,⟨.nil _ _,by simp⟩,⟨.nil _ _,by simp⟩,⟨.nil _ _,by simp⟩,rfl,.nil _ _ _ _⟩,λr hr=>aB (λh1=>hT.err (rY λe=>?_) aC (.refl _)) (λh1=>?_)⟩
 .have e1:(ks.length:Int)=arity op:=e.1;have:r=true:=hr.2 ⟨aC,by have:=e.2;simp[eN,hne]at this;obtain⟨rfl,rfl,rfl,rfl,rfl,rfl,rfl⟩:=this;rfl⟩;rw[this]at h1;cases h1
 obtain⟨hk,heq⟩:=hr.1 (by simpa using h1);simp only[Query.withOf,Query.mk.injEq]at heq;obtain⟨_,rfl,rfl,rfl,rfl,rfl,rfl,rfl,_⟩:=heq;obtain⟨hf,hg⟩:=mO (s:=s) (ps:=ps) (op:=op) (ta:=0) (w:=jS) (co:=[]) (on:=[]) (gr:=[]) (od:=[]) (li:=0) (args:=args) (ks:=ks) aC (by simp[eN]) aC;rw[hf]at hT;unfold kW at hT;rw[if_neg hg]at hT;dsimp only at hT;rw[if_neg hne.1,if_neg hne.2.1,if_neg hne.2.2.1,if_neg hne.2.2.2.1,if_neg hne.2.2.2.2.1,if_neg hne.2.2.2.2.2.1,if_neg hne.2.2.2.2.2.2]at hT;obtain⟨a,b,rfl⟩:=Mz hk;obtain⟨b0,o0,s0,e0,r0,i0,l0,j0⟩:=hn.arg (j:=0) rfl;obtain⟨b1,o1,s1,e1,r1,i1,l1,j1⟩:=hn.arg (j:=1) rfl;refine⟨b0,o0,e0,aC,aC,s0,.imm (by simpa using r0),b1,o1,e1,aC,aC,s1,.imm (by simpa using r1),s0,s1,a,b,rfl,i0,i1,λr2 hr2=>aB (λd1=>hT.err (if_neg λe=>?_) aC (.refl _)) (λd1=>⟨b0,o0,e0,aC,aC,s0,.imm (by simpa using r0),hT.ok (if_pos (hr2.1 (by simpa using d1))) (.refl _) i0⟩)⟩;have e:a=b:=e;rw[hr2.2 e]at d1;cases d1
theorem Yp(hn:u5 h s ps (.mk 3 ta w co on gr od li args) ks n)(hT:U4 K m h (u7 s ps (.mk 3 ta w co on gr od li args) ks)):C7 n m h K:=by
 dsimp only[C7,push_cast];have x:=hn.q_.parts;have cl:=x.columns_.slen;have clen:=x.columns_.len;refine⟨n,1,⟨0,0,⟨0,0,iR,iR,⟨none,0,0⟩⟩,n.q.columns,⟨none,0,0⟩,⟨none,0,0⟩,⟨none,0,0⟩,0,⟨none,0,0⟩⟩,s,ps,_,ks,.mk 0 0 jS co [] [] [] 0 [],rfl,hn,nR.rep ⟨rfl,rfl,Ce h,x.columns_,⟨.nil _ _,by simp⟩,⟨.nil _ _,by simp⟩,⟨.nil _ _,by simp⟩,rfl,.nil _ _ _ _⟩,λr hr=>aB (λh1=>hT.err (rY λe=>?_) aC (.refl _)) (λh1=>?_)⟩
 .have:r=true:=hr.2 ⟨e.1,by have:=e.2;simp[eN]at this;obtain⟨rfl,rfl,rfl,rfl,rfl,rfl⟩:=this;rfl⟩;rw[this]at h1;cases h1
 obtain⟨hk,heq⟩:=hr.1 (by simpa using h1);simp only[Query.withOf,Query.mk.injEq]at heq;obtain⟨_,rfl,rfl,_,rfl,rfl,rfl,rfl,_⟩:=heq;obtain⟨hf,hg⟩:=mO (s:=s) (ps:=ps) (op:=3) (ta:=0) (w:=jS) (co:=co) (on:=[]) (gr:=[]) (od:=[]) (li:=0) (args:=args) (ks:=ks) hk (by simp[eN]) (by decide);rw[hf]at hT;unfold kW at hT;rw[if_neg hg]at hT;dsimp only at hT;rw[if_neg (by decide),if_neg (by decide),if_pos rfl]at hT;obtain⟨a,rfl⟩:=Qi hk;obtain⟨b0,o0,s0,e0,r0,i0,l0,j0⟩:=hn.arg (j:=0) rfl;have sl0:=i0.slen;simp only[List.getD_cons_zero]at hT;refine aB (λd1=>hT.err (if_neg λe=>e.1 ((ZX cl).1 d1)) aC (.refl _)) (λd1=>?_);have hne:co≠[]:=λe=>by rw[(ZX cl).2 e]at d1;cases d1
 refine⟨aC,aC,aC,aC,λ⟨i,l⟩=>i<=co.length/\l=(co.take i).map (λc=>a.getD c.toNat 0)/\iP (λ_ c=>SG a c=true) co i,λ⟨i,_⟩=>co.length-i,⟨(0,[]),⟨aC,by simp,.zero⟩,MT⟩,?_⟩;rintro⟨i,_⟩ ⟨hi,rfl,hgo⟩;dsimp only;refine aE (λhlt=>?_) (λhge sl h' hle hrow=>?_)
 .obtain⟨c,hc⟩:=fS cl hlt;obtain⟨b1,o1,ea1,r1⟩:=x.columns_.at' hc;have cbad:¬SG a c=true->K (.tup [.val (.slice none 0 0),.val (.int .i64 100)]) m h:=λhx=>hT.err (if_neg λe=>hx (e.2 i c hc)) aC (.refl _);refine⟨b1,o1,ea1,aC,hlt,c,.imm r1,aE (λd2=>cbad λe=>?_) (λd2=>⟨b0,o0,e0,aC,aC,s0,.imm (by simpa using r0),aE (λd3=>cbad λe=>?_) (λd3=>?_)⟩)⟩
  .have:=mF.1 e;omega
  .have:=mF.1 e;omega
  obtain⟨b2,o2,ea2,r2⟩:=i0.inb (n:=c) aC aC;refine⟨b0,o0,e0,aC,aC,s0,.imm (by simpa using r0),b2,o2,ea2,aC,aC,_,.imm r2,?_,?_,(i+1,(co.take (i+1)).map (λc=>a.getD c.toNat 0)),⟨aC,rfl,hgo.succ hc (mF.2 ⟨aC,aC⟩)⟩,by show co.length-(i+1)<co.length-i;omega,?_⟩
  .simp;omega
  .simp;omega
  .rw[jL hc,List.map_append];exact MT
 .rw[List.take_of_length_le aC]at hrow;exact hT.ok (if_pos ⟨hne,hgo.all aC⟩) hle ⟨hrow,by simp;omega⟩
theorem Yl(hn:u5 h s ps (.mk 9 ta w co on gr od li args) ks n)(hT:U4 K m h (u7 s ps (.mk 9 ta w co on gr od li args) ks)):C4 n m h K:=by
 dsimp only[C4,push_cast];have x:=hn.q_.parts;refine⟨n,s,ps,_,ks,rfl,hn,n,1,⟨0,0,⟨0,0,iR,iR,⟨none,0,0⟩⟩,⟨none,0,0⟩,⟨none,0,0⟩,n.q.group,n.q.order,n.q.limit,⟨none,0,0⟩⟩,s,ps,_,ks,.mk 0 0 jS [] [] gr od li [],rfl,hn,nR.rep ⟨rfl,rfl,Ce h,⟨.nil _ _,by simp⟩,⟨.nil _ _,by simp⟩,x.group_,x.order_,x.limit_,.nil _ _ _ _⟩,λr hr=>aB (λh1=>hT.err (rY λe=>?_) aC (.refl _)) (λh1=>?_)⟩
 .have:r=true:=hr.2 ⟨e.1,by have:=e.2;simp[eN]at this;obtain⟨rfl,rfl,rfl,rfl⟩:=this;rfl⟩;rw[this]at h1;cases h1
 obtain⟨hk,heq⟩:=hr.1 (by simpa using h1);simp only[Query.withOf,Query.mk.injEq]at heq;obtain⟨_,rfl,rfl,rfl,rfl,_,_,_,_⟩:=heq;obtain⟨hf,hg⟩:=mO (s:=s) (ps:=ps) (op:=9) (ta:=0) (w:=jS) (co:=[]) (on:=[]) (gr:=gr) (od:=od) (li:=li) (args:=args) (ks:=ks) hk (by simp[eN]) (by decide);rw[hf]at hT;unfold kW at hT;rw[if_neg hg]at hT;dsimp only at hT;rw[if_neg (by decide),if_neg (by decide),if_neg (by decide),if_neg (by decide),if_neg (by decide),if_pos rfl]at hT;obtain⟨a,rfl⟩:=Qi hk;obtain⟨b0,o0,s0,e0,r0,i0,l0,j0⟩:=hn.arg (j:=0) rfl;refine⟨n,s,ps,_,[a],a,rfl,hn,rfl,λr2 hr2=>aB (λd1=>hT.err (if_neg λe=>?_) aC (.refl _)) (λd1=>⟨b0,o0,e0,aC,aC,s0,.imm (by simpa using r0),hT.ok (if_pos ?_) (.refl _) i0⟩)⟩
 .rw[hr2.2 ⟨_,_,_,_,_,_,_,_,_,rfl,e⟩]at d1;cases d1
 .obtain⟨_,_,_,_,_,_,_,_,_,e,hh⟩:=hr2.1 (by simpa using d1);cases e;exact hh
theorem Yj(hn:u5 h s ps (.mk 10 ta w co on gr od li args) ks n)(hT:U4 K m h (u7 s ps (.mk 10 ta w co on gr od li args) ks)):C3 n m h K:=by
 dsimp only[C3,push_cast];have x:=hn.q_.parts;refine⟨n,s,ps,_,ks,rfl,hn,n,2,⟨0,0,⟨0,0,iR,iR,⟨none,0,0⟩⟩,⟨none,0,0⟩,⟨none,0,0⟩,n.q.group,n.q.order,n.q.limit,⟨none,0,0⟩⟩,s,ps,_,ks,.mk 0 0 jS [] [] gr od li [],rfl,hn,nR.rep ⟨rfl,rfl,Ce h,⟨.nil _ _,by simp⟩,⟨.nil _ _,by simp⟩,x.group_,x.order_,x.limit_,.nil _ _ _ _⟩,λr hr=>aB (λh1=>hT.err (rY λe=>?_) aC (.refl _)) (λh1=>?_)⟩
 .have:r=true:=hr.2 ⟨e.1,by have:=e.2;simp[eN]at this;obtain⟨rfl,rfl,rfl,rfl⟩:=this;rfl⟩;rw[this]at h1;cases h1
 obtain⟨hk,heq⟩:=hr.1 (by simpa using h1);simp only[Query.withOf,Query.mk.injEq]at heq;obtain⟨_,rfl,rfl,rfl,rfl,_,_,_,_⟩:=heq;obtain⟨hf,hg⟩:=mO (s:=s) (ps:=ps) (op:=10) (ta:=0) (w:=jS) (co:=[]) (on:=[]) (gr:=gr) (od:=od) (li:=li) (args:=args) (ks:=ks) hk (by simp[eN]) (by decide);rw[hf]at hT;unfold kW at hT;rw[if_neg hg]at hT;dsimp only at hT;rw[if_neg (by decide),if_neg (by decide),if_neg (by decide),if_neg (by decide),if_neg (by decide),if_neg (by decide),if_pos rfl]at hT;obtain⟨a,b,rfl⟩:=Mz hk;obtain⟨b0,o0,s0,e0,r0,i0,l0,j0⟩:=hn.arg (j:=0) rfl;obtain⟨b1,o1,s1,e1,r1,i1,l1,j1⟩:=hn.arg (j:=1) rfl;refine⟨b0,o0,e0,aC,aC,s0,.imm (by simpa using r0),b1,o1,e1,aC,aC,s1,.imm (by simpa using r1),s0,s1,a,b,rfl,i0,i1,λr3 hr3=>aB (λd2=>⟨by simpa using r0,by simpa using r1,hT.err (if_neg λe=>?_) aC (.refl _)⟩) (λd2=>⟨by simpa using r0,by simpa using r1,n,s,ps,_,[a,b],a,rfl,hn,rfl,λr2 hr2=>aB (λd1=>hT.err (if_neg λe=>?_) aC (.refl _)) (λd1=>⟨b0,o0,e0,aC,aC,s0,.imm (by simpa using r0),hT.ok (if_pos ⟨hr3.1 (by simpa using d2),?_⟩) (.refl _) i0⟩)⟩)⟩
 .have e:a=b:=e.1;rw[hr3.2 e]at d2;cases d2
 .rw[hr2.2 ⟨_,_,_,_,_,_,_,_,_,rfl,e.2⟩]at d1;cases d1
 .obtain⟨_,_,_,_,_,_,_,_,_,e,hh⟩:=hr2.1 (by simpa using d1);cases e;exact hh
end
def fv(f:Nat):CV:=.val (.func (.func f) #[] #[])
def Mj:Vc.Spec:=λcvs m h K=>∃op,cvs=[cI op]/\
 branch (op==1) (K (fv 163) m h) (branch (op==2) (K (fv 164) m h) (branch (op==3) (K (fv 165) m h) (branch (op==4) (K (fv 166) m h) (branch (op==5) (K (fv 167) m h) (branch (op==6) (K (fv 168) m h) (branch (op==7) (K (fv 168) m h) (branch (op==8) (K (fv 168) m h) (branch (op==9) (K (fv 169) m h) (branch (op==10) (K (fv 170) m h) (K (.val .nilFunc) m h))))))))))
noncomputable def Wy(N:Nat)(sc:bN)(p:Sl)(v:QV)(m:MH):Ctx:=
 dL [(112,Di N),(149,Mj),(163,u9 (· =1)),(164,u9 (· =2)),(165,u9 (· =3)),(166,u9 (· =4)),(167,u9 (· =5)),(168,u9 (λop=>op=6\/op=7\/op=8)),(169,u9 (· =9)),(170,u9 (· =10))] [(3,{A:=Nat×List Sl×PH,st:=λ⟨i,ss,h⟩=>cM 62 65 [(1,sv p),(3,.at (.ptr 3 0)),(5,.at (.ptr 5 0)),(8,.at (.ptr 8 0)),(21,sv v.args),(22,iv v.args.len),(23,iv i)] [(3,.cells 29 (sc.enc.map .val)),(5,.cells 68 (v.enc.map .val)),(8,.cells 206 ((sc.enc++eS p++v.enc).map .val++[.lst 41])),(41,.lst 31 1 (ss.map eS))] m h})] [] [] false
abbrev Co(a:MH)(b:Nat->Nat->Option Value)(c:List Value)(d e:Nat)(g:(Array Value)->List Value)(i:Nat->MH->Prop):Prop:=gA (λx x1=>bY a b x->bG a x1 x c d->iE (λx2 x3=>aA (wS x1 x (fN x2 x3 0)) (e<=x2.size) (∀(x4:MH),bG x1 x4 x (g x2) x3->i x x4)))
noncomputable abbrev HV:List Value:=l9 Value.nilFunc
noncomputable abbrev nA(a:Nat):Value:=Value.func (Fn.func a) oI oI
noncomputable abbrev E9:CV:=CV.val Value.nilFunc
attribute [push_cast] Co HV nA E9
def Gw(op:Int)(m:MH)(h:PH)(K:CV->MH->PH->Prop):Prop:=
  Co m h (aJ Value.nilFunc Value.nilFunc (aJ Value.nilFunc Value.nilFunc (aJ Value.nilFunc Value.nilFunc (aJ Value.nilFunc Value.nilFunc (aJ Value.nilFunc Value.nilFunc HV))))) 228 11 (λc=>aJ Value.nilFunc (nA 163) (aJ (nA 164) (nA 165) (aJ (nA 166) (nA 167) (aJ (nA 168) (nA 168) (aJ (nA 168) (nA 169) (gN (nA 170) 11 c)))))) (λb m1=>bE op 0 (K E9 m1 h) (iH op 11 K E9 m1 h (aA (cQ op) (op<11) (∃(y:Option Nat),aI m1 h b (0+eM op 1) (l9 (WG y))/\K (CV.val (WG y)) m1 h))))
abbrev dJ:Prop:=eP 5
abbrev pK(a:QV):Prop:=eQ (oQ 68 (G2 a.enc))
noncomputable abbrev qE(a:List Sl):List (List Value):=List.map eS a
abbrev EX(a:bN->Sl->QV->jR->(List Int)->Query->Prop):Prop:=∃(x:bN)(x1:Sl)(x2:QV)(x3:jR)(x4:List Int)(x5:Query),a x x1 x2 x3 x4 x5
noncomputable abbrev xP(a:CV):CV:=CV.tup (aK uO a)
abbrev fA(a b:Int):Prop:=eV (dY a) (dY b)
abbrev rL(a:Nat×List Sl×PH)(b:Nat)(c:Sl->NV->Prop)(d:Query->Prop)(e:PH->(List Int×Int)->Prop):Prop:=aY a.2.2 b (qE a.2.1) (λx x1=>∃(x2:NV),Af (λx3 x4 x5 x6=>aA (c x x2) (u5 x1 x3 x4 x5 x6 x2) (aA (uP x3) (d x5) (∀(x7:List Int×Int),fin x7=u7 x3 x4 x5 x6->e x1 x7))))
noncomputable abbrev rP(a:QV)(b:List Value):List Value:=DL (dM a) (j7 a) b
abbrev rJ(a:PH)(b:List Int×Int)(c:CV->MH->PH->Prop)(d:MH):Prop:=gT (λx x1=>dZ a x1 (Ints x1 x b.1) (branch (b.2 !=0) (c (wH b.2) d x1) (branch (decide (aH x>12)) (c (wH 2) d x1) (pU c x d x1))))
attribute [push_cast] dJ pK qE EX xP fA rL rP rJ
def LX(N:Nat)(sc:bN)(p:Sl)(v:QV)(m:MH)(h:PH)(K:CV->MH->PH->Prop):Prop:=
  ∃(I:Nat×List Sl×PH->Prop)(m1:Nat×List Sl×PH->Nat),(∃(x:Nat×List Sl×PH),aA (I x) (aL p) (aA dT dJ (aA (eP 8) (aL v.args) (aA (aX v.args) (bI x.1) (aA (bO sc) (pK v) (aA (HU sc (Ac p v.op v v.on (dP (sS v) (yY v.args) (Be (At.lst 41))))) (Option.some (Own.lst 31 1 [])=Option.some (Own.lst 31 1 (qE x.2.1))) (bZ m m h x.2.2)))))))/\∀(x:Nat×List Sl×PH),I x->bE (↑x.1:Int) (aH v.args) (bK (λb o=>aA (bL v.args.a b o) (0<=(↑x.1:Int)) ((↑x.1:Int)<aH v.args/\∃(y:QV),aI m x.2.2 b (o+aZ x.1 21) y.enc/\EX (λs p1 v1 s1 p2 q=>aA (bJ sc::aK (dG p) (cW y)=bJ s::aK (dG p1) (cW v1)) (dV x.2.2 s1 s) (aA (uP s1) (Ints x.2.2 p1 p2) (aA (fF x.2.2 q v1) (uU q N) (gT (λs2 h1=>dZ x.2.2 h1
 (Ints h1 s2 (cR s1 p2 q).1) (branch ((cR s1 p2 q).2 !=0) (K (xP (CV.val (cJ (cR s1 p2 q).2))) m h1) (aA (dD ((qE x.2.1).length+1) 24) (eF (qE x.2.1)) (∃(x1:Nat×List Sl×PH),aA (I x1) (m1 x1<m1 x) (aA (aL p) dT (aA dJ (eP 8) (aA (aL v.args) (aX v.args) (aA (bD (gI (bC x.1 1)) x1.1) (bO sc) (aA (pK v) (HU sc (Ac p v.op v v.on (dP (sS v) (yY v.args) (Be (At.lst 41))))) (bT (Option.some (Own.lst 31 1 (eR (qE x.2.1) (aM s2)))=Option.some (Own.lst 31 1 (qE x1.2.1))) m m h1 x1.2.2))))))))))))))))) (∃(o:Int),fA v.op o/\bQ o 1 (rL x 1 (λs n=>eV (fB (aJ (eE sc) (eD sc) (aJ (bV p) (cJ v.op) (aJ (cX v) (dC v) (aJ (cJ (dE v)) (dR (dM v)) (rP v (aJ (iI (j7 v)) (oR v) (aJ (oW v) (bV
 v.on) (aJ (oU v) (oV v) (aJ (cJ v.limit) (rI v) (aM s))))))))))) (fB (aJ (eE n.s) (eD n.s) (aJ (bV n.params) (cJ n.q.op) (aJ (cX n.q) (dC n.q) (aJ (cJ (dE n.q)) (dR (dM n.q)) (eZ n (eY n)))))))) (λq=>q.op=1) (λh1 r=>rJ h1 r K m)) (bQ o 2 (rL x 1 (λs n=>eV (fB (aJ (eE sc) (eD sc) (aJ (bV p) (cJ v.op) (aJ (cX v) (dC v) (aJ (cJ (dE v)) (dR (dM v)) (rP v (aJ (iI (j7 v)) (oR v) (aJ (oW v) (bV v.on) (aJ (oU v) (oV v) (aJ (cJ v.limit) (rI v) (aM s))))))))))) (fB (aJ (eE n.s) (eD n.s) (aJ (bV n.params) (cJ n.q.op) (aJ (cX n.q) (dC n.q) (aJ (cJ (dE n.q)) (dR (dM n.q)) (eZ n (eY n)))))))) (λq=>q.op=2) (λh1 r=>rJ h1 r K m)) (bQ o 3 (rL x 1 (λs n=>
 eV (fB (aJ (eE sc) (eD sc) (aJ (bV p) (cJ v.op) (aJ (cX v) (dC v) (aJ (cJ (dE v)) (dR (dM v)) (rP v (aJ (iI (j7 v)) (oR v) (aJ (oW v) (bV v.on) (aJ (oU v) (oV v) (aJ (cJ v.limit) (rI v) (aM s))))))))))) (fB (aJ (eE n.s) (eD n.s) (aJ (bV n.params) (cJ n.q.op) (aJ (cX n.q) (dC n.q) (aJ (cJ (dE n.q)) (dR (dM n.q)) (eZ n (eY n)))))))) (λq=>q.op=3) (λh1 r=>rJ h1 r K m)) (bQ o 4 (rL x 1 (λs n=>eV (fB (aJ (eE sc) (eD sc) (aJ (bV p) (cJ v.op) (aJ (cX v) (dC v) (aJ (cJ (dE v)) (dR (dM v)) (rP v (aJ (iI (j7 v)) (oR v) (aJ (oW v) (bV v.on) (aJ (oU v) (oV v) (aJ (cJ v.limit) (rI v) (aM s))))))))))) (fB (aJ (eE n.s) (eD n.s) (aJ (bV n.params) (cJ
 n.q.op) (aJ (cX n.q) (dC n.q) (aJ (cJ (dE n.q)) (dR (dM n.q)) (eZ n (eY n)))))))) (λq=>q.op=4) (λh1 r=>rJ h1 r K m)) (bQ o 5 (rL x 1 (λs n=>eV (fB (aJ (eE sc) (eD sc) (aJ (bV p) (cJ v.op) (aJ (cX v) (dC v) (aJ (cJ (dE v)) (dR (dM v)) (rP v (aJ (iI (j7 v)) (oR v) (aJ (oW v) (bV v.on) (aJ (oU v) (oV v) (aJ (cJ v.limit) (rI v) (aM s))))))))))) (fB (aJ (eE n.s) (eD n.s) (aJ (bV n.params) (cJ n.q.op) (aJ (cX n.q) (dC n.q) (aJ (cJ (dE n.q)) (dR (dM n.q)) (eZ n (eY n)))))))) (λq=>q.op=5) (λh1 r=>rJ h1 r K m)) (bQ o 6 (rL x 1 (λs n=>eV (fB (aJ (eE sc) (eD sc) (aJ (bV p) (cJ v.op) (aJ (cX v) (dC v) (aJ (cJ (dE v)) (dR (dM v)) (rP v
 (aJ (iI (j7 v)) (oR v) (aJ (oW v) (bV v.on) (aJ (oU v) (oV v) (aJ (cJ v.limit) (rI v) (aM s))))))))))) (fB (aJ (eE n.s) (eD n.s) (aJ (bV n.params) (cJ n.q.op) (aJ (cX n.q) (dC n.q) (aJ (cJ (dE n.q)) (dR (dM n.q)) (eZ n (eY n)))))))) (λq=>q.op=6\/q.op=7\/q.op=8) (λh1 r=>rJ h1 r K m)) (bQ o 7 (rL x 1 (λs n=>eV (fB (aJ (eE sc) (eD sc) (aJ (bV p) (cJ v.op) (aJ (cX v) (dC v) (aJ (cJ (dE v)) (dR (dM v)) (rP v (aJ (iI (j7 v)) (oR v) (aJ (oW v) (bV v.on) (aJ (oU v) (oV v) (aJ (cJ v.limit) (rI v) (aM s))))))))))) (fB (aJ (eE n.s) (eD n.s) (aJ (bV n.params) (cJ n.q.op) (aJ (cX n.q) (dC n.q) (aJ (cJ (dE n.q)) (dR (dM n.q)) (eZ n (eY n)))))))) (λq=>
 q.op=6\/q.op=7\/q.op=8) (λh1 r=>rJ h1 r K m)) (bQ o 8 (rL x 1 (λs n=>eV (fB (aJ (eE sc) (eD sc) (aJ (bV p) (cJ v.op) (aJ (cX v) (dC v) (aJ (cJ (dE v)) (dR (dM v)) (rP v (aJ (iI (j7 v)) (oR v) (aJ (oW v) (bV v.on) (aJ (oU v) (oV v) (aJ (cJ v.limit) (rI v) (aM s))))))))))) (fB (aJ (eE n.s) (eD n.s) (aJ (bV n.params) (cJ n.q.op) (aJ (cX n.q) (dC n.q) (aJ (cJ (dE n.q)) (dR (dM n.q)) (eZ n (eY n)))))))) (λq=>q.op=6\/q.op=7\/q.op=8) (λh1 r=>rJ h1 r K m)) (bQ o 9 (rL x 1 (λs n=>eV (fB (aJ (eE sc) (eD sc) (aJ (bV p) (cJ v.op) (aJ (cX v) (dC v) (aJ (cJ (dE v)) (dR (dM v)) (rP v (aJ (iI (j7 v)) (oR v) (aJ (oW v) (bV v.on) (aJ (oU v)
 (oV v) (aJ (cJ v.limit) (rI v) (aM s))))))))))) (fB (aJ (eE n.s) (eD n.s) (aJ (bV n.params) (cJ n.q.op) (aJ (cX n.q) (dC n.q) (aJ (cJ (dE n.q)) (dR (dM n.q)) (eZ n (eY n)))))))) (λq=>q.op=9) (λh1 r=>rJ h1 r K m)) (bQ o 10 (rL x 1 (λs n=>eV (fB (aJ (eE sc) (eD sc) (aJ (bV p) (cJ v.op) (aJ (cX v) (dC v) (aJ (cJ (dE v)) (dR (dM v)) (rP v (aJ (iI (j7 v)) (oR v) (aJ (oW v) (bV v.on) (aJ (oU v) (oV v) (aJ (cJ v.limit) (rI v) (aM s))))))))))) (fB (aJ (eE n.s) (eD n.s) (aJ (bV n.params) (cJ n.q.op) (aJ (cX n.q) (dC n.q) (aJ (cJ (dE n.q)) (dR (dM n.q)) (eZ n (eY n)))))))) (λq=>q.op=10) (λh1 r=>rJ h1 r K m)) (K lU m x.2.2)))))))))))
theorem RC:Sound Tryz.prog 149 Mj:=by
 refine Fh Tryz.func149 ?_;rintro cvs m h K ⟨op,rfl,hK⟩;refine⟨sY [] [] [] [] [228] [] false,rfl,aF,Gw op m h (kY h K),by kernel_rfl,?_⟩;show Gw op m h (kY h K);dsimp only[Gw,push_cast];intro b m1 hb hm1;refine⟨_,_,⟨hm1.at_⟩,by decide,λm2 hm2=>?_⟩;have hsub:Sub m m2:=((Sub.refl m).upd hb.m_ hm1.other).upd hb.m_ hm2.other;have e:=hm2.at_
 have none_:∀k,¬(1<=op/\op<=10)->op=k->K (.val .nilFunc) m h:=λk hn _=>by
  have:(op==1)=false/\(op==2)=false/\(op==3)=false/\(op==4)=false/\(op==5)=false/\(op==6)=false/\(op==7)=false/\(op==8)=false/\(op==9)=false/\(op==10)=false:=by
   simp only[beq_eq_false_iff_ne];omega
  obtain⟨e1,e2,e3,e4,e5,e6,e7,e8,e9,e10⟩:=this;rw[e1,e2,e3,e4,e5,e6,e7,e8,e9,e10]at hK;exact hK
 refine aE (λh1=>.sub hsub (none_ _ aC rfl)) (λh1=>aE (λh2=>.sub hsub (none_ _ aC rfl)) (λh2=>⟨aC,aC,?_⟩));have:op=0\/op=1\/op=2\/op=3\/op=4\/op=5\/op=6\/op=7\/op=8\/op=9\/op=10:=by omega
 rcases this with rfl|rfl|rfl|rfl|rfl|rfl|rfl|rfl|rfl|rfl|rfl
 .exact⟨none,.lent _ _ _ e rfl,.sub hsub (none_ 0 aC rfl)⟩
 .exact⟨some 163,.lent _ _ _ e rfl,.sub hsub hK⟩
 .exact⟨some 164,.lent _ _ _ e rfl,.sub hsub hK⟩
 .exact⟨some 165,.lent _ _ _ e rfl,.sub hsub hK⟩
 .exact⟨some 166,.lent _ _ _ e rfl,.sub hsub hK⟩
 .exact⟨some 167,.lent _ _ _ e rfl,.sub hsub hK⟩
 .exact⟨some 168,.lent _ _ _ e rfl,.sub hsub hK⟩
 .exact⟨some 168,.lent _ _ _ e rfl,.sub hsub hK⟩
 .exact⟨some 168,.lent _ _ _ e rfl,.sub hsub hK⟩
 .exact⟨some 169,.lent _ _ _ e rfl,.sub hsub hK⟩
 .exact⟨some 170,.lent _ _ _ e rfl,.sub hsub hK⟩
theorem Rv:Sound Tryz.prog 163 (u9 (· =1)):=by
 refine jK Tryz.func163 ?_;rintro cvs m h K ⟨n,s,ps,q,ks,rfl,hn,h8,hop,hT⟩;obtain⟨op,ta,w,co,on,gr,od,li,args⟩:=q;refine⟨dL [(191,yH),(109,FG)] [] [] [] false,rfl,(aD qJ (aD DU aF)),C9 n m h K,by kernel_rfl,?_⟩;dsimp only[C9,push_cast];cases (show op=1 from hop);exact Yr hn h8 ⟨hT⟩
theorem Ru:Sound Tryz.prog 164 (u9 (· =2)):=by
 refine jK Tryz.func164 ?_;rintro cvs m h K ⟨n,s,ps,q,ks,rfl,hn,h8,hop,hT⟩;obtain⟨op,ta,w,co,on,gr,od,li,args⟩:=q;refine⟨dL [(191,yH),(110,D1)] [] [] [] false,rfl,(aD qJ (aD JJ aF)),C8 n m h K,by kernel_rfl,?_⟩;dsimp only[C8,push_cast];cases (show op=2 from hop);exact Yq hn ⟨hT⟩
theorem Rt:Sound Tryz.prog 165 (u9 (· =3)):=by
 refine jK Tryz.func165 ?_;rintro cvs m h K ⟨n,s,ps,q,ks,rfl,hn,h8,hop,hT⟩;obtain⟨op,ta,w,co,on,gr,od,li,args⟩:=q;refine⟨Wj n m h,rfl,(aD qJ aF),C7 n m h K,by kernel_rfl,?_⟩;dsimp only[C7,push_cast];cases (show op=3 from hop);exact Yp hn ⟨hT⟩
theorem Rs(h101:Sound Tryz.prog 193 Ia):Sound Tryz.prog 166 (u9 (· =4)):=by
 refine jK Tryz.func166 ?_;rintro cvs m h K ⟨n,s,ps,q,ks,rfl,hn,h8,hop,hT⟩;obtain⟨op,ta,w,co,on,gr,od,li,args⟩:=q;refine⟨dL [(192,J5),(193,Ia)] [] [] [] false,rfl,(aD Jy (aD h101 aF)),C6 n m h K,by kernel_rfl,?_⟩;dsimp only[C6,push_cast];cases (show op=4 from hop);exact Yo hn ⟨hT⟩
theorem Rr:Sound Tryz.prog 167 (u9 (· =5)):=by
 refine jK Tryz.func167 ?_;rintro cvs m h K ⟨n,s,ps,q,ks,rfl,hn,h8,hop,hT⟩;obtain⟨op,ta,w,co,on,gr,od,li,args⟩:=q;refine⟨dL [(192,J5)] [] [] [] false,rfl,(aD Jy aF),C5 n m h K,by kernel_rfl,?_⟩;dsimp only[C5,push_cast];cases (show op=5 from hop);exact Yn hn ⟨hT⟩
theorem Rq:Sound Tryz.prog 168 (u9 (λop=>op=6\/op=7\/op=8)):=by
 refine jK Tryz.func168 ?_;rintro cvs m h K ⟨n,s,ps,q,ks,rfl,hn,h8,hop,hT⟩;obtain⟨op,ta,w,co,on,gr,od,li,args⟩:=q;refine⟨dL [(191,yH),(69,B0)] [] [] [] false,rfl,(aD qJ (aD CZ aF)),Gt n m h K,by kernel_rfl,?_⟩;exact Ym hop hn ⟨hT⟩
theorem Rp:Sound Tryz.prog 169 (u9 (· =9)):=by
 refine jK Tryz.func169 ?_;rintro cvs m h K ⟨n,s,ps,q,ks,rfl,hn,h8,hop,hT⟩;obtain⟨op,ta,w,co,on,gr,od,li,args⟩:=q;refine⟨dL [(191,yH),(194,J3),(195,J4)] [] [] [] false,rfl,(aD qJ (aD Jx (aD Jw aF))),C4 n m h K,by kernel_rfl,?_⟩;dsimp only[C4,push_cast];cases (show op=9 from hop);exact Yl hn ⟨hT⟩
theorem Ro:Sound Tryz.prog 170 (u9 (· =10)):=by
 refine jK Tryz.func170 ?_;rintro cvs m h K ⟨n,s,ps,q,ks,rfl,hn,h8,hop,hT⟩;obtain⟨op,ta,w,co,on,gr,od,li,args⟩:=q;refine⟨dL [(191,yH),(69,B0),(194,J3),(195,J4)] [] [] [] false,rfl,(aD qJ (aD CZ (aD Jx (aD Jw aF)))),C3 n m h K,by kernel_rfl,?_⟩;dsimp only[C3,push_cast];cases (show op=10 from hop);exact Yj hn ⟨hT⟩
theorem PC(h101:Sound Tryz.prog 193 Ia):∀N,Sound Tryz.prog 112 (Di N)
 |0=>by
  refine fU (fn:=Tryz.f112) (c:=bU Tryz.f112) Tryz.func112 rfl (by decide) ?_;rintro cvs m h K ⟨sc,p,v,s,ps,q,rfl,_,_,_,_,hN,_⟩;omega
 |N+1=>by
  refine jK Tryz.func112 ?_;rintro cvs m h K ⟨sc,p,v,s,ps,q,rfl,hs,h8,hp,hq,hN,hK⟩;refine⟨Wy N sc p v m,rfl,(aD (PC h101 N) (aD RC (aD Rv (aD Ru (aD Rt (aD (Rs h101) (aD Rr (aD Rq (aD Rp (aD Ro aF)))))))))),LX N sc p v m h K,by kernel_rfl,?_⟩;dsimp only[LX,push_cast];have hlt:=@Ep q;have hqr:=hq;obtain⟨op,ta,w,co,on,gr,od,li,args⟩:=q;have x:=hq.parts;have e0:=x.op_;have hl:=x.args_.slen;have hlen:=x.args_.len;simp only[Query.args]at hlt;simp only[cR]at hK;refine⟨λ⟨i,ss,hx⟩=>i<=args.length/\PH.le h hx/\∃ks,Slices hx ss ks/\(args.take i).map (cR s ps)=ks.map (λk=>(k,0)),λ⟨i,_,_⟩=>args.length-i,⟨(0,[],h),⟨aC,.refl _,[],⟨rfl,λj s k h1=>by simp at h1⟩,by simp⟩,MT⟩,?_⟩;rintro⟨i,ss,hx⟩ ⟨hi,hle,ks,hS,hks⟩;have hkl:ks.length=i:=by have:=congrArg List.length hks;simp at this;omega
  have hsl:ss.length=i:=by rw[hS.1,hkl]
  dsimp only;refine aE (λhlt2=>?_) (λhge=>?_)
  .obtain⟨q',hq'⟩:=fS hl hlt2;obtain⟨b1,o1,u,ea1,r1,hru⟩:=(x.args_.mono hle).at hq';refine⟨b1,o1,ea1,aC,hlt2,u,.imm r1,sc,p,u,s,ps,q',rfl,hs.mono hle,h8,hp.mono hle,hru,?_,λsl h' hle' hi'=>aB (λh1=>?_) (λh1=>?_)⟩
   .have:=hlt (List.mem_of_getElem? hq');omega
   .have he:(cR s ps q').2≠0:=by simpa using h1
    rw[G6 he hks hq' rfl]at hK;exact hK.err (hle.trans hle') (if_neg he)
   .have he:(cR s ps q').2=0:=by simpa using h1
    refine⟨by simp;omega,by simp;omega,(i+1,ss++[sl],h'),⟨aC,hle.trans hle',ks++[(cR s ps q').1],(hS.mono hle').snoc hi',?_⟩,by show args.length-(i+1)<args.length-i;omega,?_⟩
    .rw[jL hq',hks,List.map_append];simp only[List.map_cons,List.map_nil];rw[<-he]
    .rw[List.map_append];exact MT
  .rw[List.take_of_length_le aC]at hks;rw[AR hks]at hK;simp only[if_true]at hK;have hK:KR K m h (u7 s ps (.mk op ta w co on gr od li args) ks):=hK
   have hrep:∀(sl:Sl)(h':PH),PH.le hx h'->bH h' sl 1 (ss.map eS)->u5 h' s ps (.mk op ta w co on gr od li args) ks ⟨sc,p,v,sl⟩:=λsl h' hle' hrow=>by
    refine⟨(hs.mono hle).mono hle',(hp.mono hle).mono hle',(hqr.mono hle).mono hle',⟨⟨ss,hrow,hS.1.symm,λj k hk=>?_⟩,aC⟩,λk hk=>?_⟩
    .have hj:j<ss.length:=by rw[hS.1];exact(List.getElem?_eq_some_iff.1 hk).1
     exact⟨ss[j],List.getElem?_eq_getElem hj,(hS.2 j _ _ (List.getElem?_eq_getElem hj) hk).mono hle'⟩
    .obtain⟨j,hj⟩:=List.mem_iff_getElem?.1 hk;have:=TL hks j
     rwa [List.getD_eq_getElem?_getD,hj]at this
   have tail:∀(h':PH),PH.le hx h'->∀r,fin r=u7 s ps (.mk op ta w co on gr od li args) ks->∀(sl:Sl)(h'':PH),PH.le h' h''->Ints h'' sl r.1->
    branch (r.2 !=0) (K (.tup [.val (.slice none 0 0),.val (.int .i64 r.2)]) m h'') (branch (decide ((sl.len:Int)>12)) (K (.tup [.val (.slice none 0 0),.val (.int .i64 2)]) m h'') (K (.tup [.val (.slice sl.a sl.len sl.cap),.val (.int .i64 0)]) m h'')):=by
    intro h' hle' r hr sl h'' hle2 hi';have hl3:PH.le h h'':=(hle.trans hle').trans hle2;rw[<-hr]at hK;have hsl:=hi'.slen;refine aB (λd1=>?_) (λd1=>aE (λd2=>?_) (λd2=>?_))
    .have d1:r.2≠0:=by simpa using d1
     exact hK.err hl3 (by unfold fin;rw[if_neg d1])
    .have d1:r.2=0:=by simpa using d1
     exact hK.big (l:=r.1) hl3 (by unfold fin;rw[if_pos d1]) aC
    .have d1:r.2=0:=by simpa using d1
     exact hK.ok (l:=r.1) hl3 (by unfold fin;rw[if_pos d1]) aC hi'.row
   refine⟨v.op,rfl,?_⟩;rw[e0];refine aB (λc1 sl h' hle' hrow=>⟨⟨sc,p,v,sl⟩,s,ps,_,ks,by rw[<-e0],hrep sl h' hle' hrow,h8,beq_iff_eq.1 c1,tail h' hle'⟩) (λc1=>?_);refine aB (λc2 sl h' hle' hrow=>⟨⟨sc,p,v,sl⟩,s,ps,_,ks,by rw[<-e0],hrep sl h' hle' hrow,h8,beq_iff_eq.1 c2,tail h' hle'⟩) (λc2=>?_);refine aB (λc3 sl h' hle' hrow=>⟨⟨sc,p,v,sl⟩,s,ps,_,ks,by rw[<-e0],hrep sl h' hle' hrow,h8,beq_iff_eq.1 c3,tail h' hle'⟩) (λc3=>?_);refine aB (λc4 sl h' hle' hrow=>⟨⟨sc,p,v,sl⟩,s,ps,_,ks,by rw[<-e0],hrep sl h' hle' hrow,h8,beq_iff_eq.1 c4,tail h' hle'⟩) (λc4=>?_);refine aB (λc5 sl h' hle' hrow=>⟨⟨sc,p,v,sl⟩,s,ps,_,ks,by rw[<-e0],hrep sl h' hle' hrow,h8,beq_iff_eq.1 c5,tail h' hle'⟩) (λc5=>?_);refine aB (λc6 sl h' hle' hrow=>⟨⟨sc,p,v,sl⟩,s,ps,_,ks,by rw[<-e0],hrep sl h' hle' hrow,h8,.inl (beq_iff_eq.1 c6),tail h' hle'⟩) (λc6=>?_);refine aB (λc7 sl h' hle' hrow=>⟨⟨sc,p,v,sl⟩,s,ps,_,ks,by rw[<-e0],hrep sl h' hle' hrow,h8,.inr (.inl (beq_iff_eq.1 c7)),tail h' hle'⟩) (λc7=>?_);refine aB (λc8 sl h' hle' hrow=>⟨⟨sc,p,v,sl⟩,s,ps,_,ks,by rw[<-e0],hrep sl h' hle' hrow,h8,.inr (.inr (beq_iff_eq.1 c8)),tail h' hle'⟩) (λc8=>?_);refine aB (λc9 sl h' hle' hrow=>⟨⟨sc,p,v,sl⟩,s,ps,_,ks,by rw[<-e0],hrep sl h' hle' hrow,h8,beq_iff_eq.1 c9,tail h' hle'⟩) (λc9=>?_);refine aB (λc10 sl h' hle' hrow=>⟨⟨sc,p,v,sl⟩,s,ps,_,ks,by rw[<-e0],hrep sl h' hle' hrow,h8,beq_iff_eq.1 c10,tail h' hle'⟩) (λc10=>hK.err hle ?_);refine rY λe=>?_;have:arity op= -1:=by simp only[arity];simp only[*,Bool.or_false,Bool.false_or,Bool.or_true,Bool.true_or,Bool.and_true,Bool.true_and,Bool.and_false,Bool.false_and,Bool.not_true,Bool.not_false,Bool.false_eq_true,if_true,if_false, ↓reduceIte]
   have:=e.1;simp only[Query.op]at this;omega
def qT:PV:=⟨0,0,iR,iR,⟨none,0,0⟩⟩
theorem MN(l:List (Int×Int)):dU 2 (l.map Et):=by
 constructor
 .intro e he;obtain⟨x,_,rfl⟩:=List.mem_map.1 he;rfl
 .intro e he u hu;obtain⟨x,_,rfl⟩:=List.mem_map.1 he;simp[Et]at hu;rcases hu with rfl|rfl<;>rfl
theorem ML(l:List (Int×Bool)):dU 2 (l.map Cc):=by
 constructor
 .intro e he;obtain⟨x,_,rfl⟩:=List.mem_map.1 he;rfl
 .intro e he u hu;obtain⟨x,_,rfl⟩:=List.mem_map.1 he;simp[Cc]at hu;rcases hu with rfl|rfl<;>rfl
theorem Iw{n c:Nat}{α:Type}{enc:α->List Value}{l:List α}(r:bH h ⟨none,n,c⟩ sz (l.map enc)):l=[]:=by
 rcases r.row with e|⟨b,o,e,_⟩
 .simpa using e
 .cases e
def bB(h:PH)(s:Sl)(l:List VV):Prop:=aR h 3 VV.enc Eq s l
theorem bB.mono{s:Sl}{l:List VV}(x:bB h s l)(le:PH.le h h'):bB h' s l:=aR.mono x le λ_ _ e=>e
def kX(ps:List VV)(o:OV):OV:=if o.kind=2/\0<=o.index/\o.index<ps.length then⟨3,0,ps.getD o.index.toNat zeroV⟩else o
mutual
def Dw(ps:List VV):Pred->Pred
 |.mk op cmp l r args=>.mk op cmp (kX ps l) (kX ps r) (JU ps args)
def JU(ps:List VV):List Pred->List Pred
 |[]=>[]
 |p::r=>Dw ps p::JU ps r
end
theorem JT(ps:List VV):∀l,JU ps l=l.map (Dw ps)
 |[]=>by simp[JU]
 |p::r=>by simp[JU,JT ps r]
def Zj:QV:=⟨0,0,qT,⟨none,0,0⟩,⟨none,0,0⟩,⟨none,0,0⟩,⟨none,0,0⟩,0,⟨none,0,0⟩⟩
def Xi:Vc.Spec:=λcvs m h K=>∃o s ps,cvs=[aO o,cS s]/\bB h s ps/\K (aO (kX ps o)) m h
def Zg(N:Nat):Vc.Spec:=λcvs m h K=>∃v s p ps,cvs=[aP v,cS s]/\fZ h p v/\bB h s ps/\SizeOf.sizeOf p<N/\∀v' h',PH.le h h'->fZ h' (Dw ps p) v'->K (aP v') m h'
def Zh:Vc.Spec:=λcvs m h K=>∃v s p ps,cvs=[aP v,cS s]/\fZ h p v/\bB h s ps/\∀v' h',PH.le h h'->fZ h' (Dw ps p) v'->K (aP v') m h'
theorem FY{α β:Type}{ps:List α}{us:List β}{i:Nat}{R R':α->β->Prop}{q:α}{v:β}(hi:i<=ps.length)(hul:us.length=i)(hq:ps[i]? =some q)(hus:∀(j:Nat) x,(ps.take i)[j]? =some x->∃u,us[j]? =some u/\R x u)(hR:∀x u,R x u->R' x u)(hv:R' q v):
 ∀(j:Nat) x,(ps.take (i+1))[j]? =some x->∃u,(us++[v])[j]? =some u/\R' x u:=by
 intro j x hx;rw[List.take_add_one,hq]at hx;by_cases hj:j<i
 .rw[List.getElem?_append_left (by simp;omega)]at hx;obtain⟨u',h1,h2⟩:=hus j x hx;exact⟨u',by rw[List.getElem?_append_left aC];exact h1,hR _ _ h2⟩
 .rw[List.getElem?_append_right (by simp;omega)]at hx;have hjl:=(List.getElem?_eq_some_iff.1 hx).1;simp at hjl;have:j=i:=by omega
  subst this;simp only[List.length_take,Nat.min_eq_left hi,Nat.sub_self]at hx;simp at hx;subst hx;exact⟨v,by rw[List.getElem?_append_right aC,hul];simp,hv⟩
def Tl:Vc.Spec:=λcvs m h K=>∃s l,cvs=[cS s]/\Ints h s l/\∀s' h',PH.le h h'->Ints h' s' l->K (cS s') m h'
def Tj:Vc.Spec:=λcvs m h K=>∃s l,cvs=[cS s]/\nS h s l/\∀s' h',PH.le h h'->nS h' s' l->K (cS s') m h'
def Ti:Vc.Spec:=λcvs m h K=>∃s l,cvs=[cS s]/\jY h s l/\∀s' h',PH.le h h'->jY h' s' l->K (cS s') m h'
def T6(n c:Nat)(m:MH)(h:PH)(K:CV->MH->PH->Prop):Prop:=
  K uO m h
theorem XU(n c:Nat)(m:MH)(h:PH)(K:CV->MH->PH->Prop):T6 n c m h K=(qI (dL [] [] [] [] false) Tryz.f78 (bU Tryz.f78) (entry Tryz.f78.ntmps [.val (.slice none n c)] m h) K):=by kernel_rfl
noncomputable abbrev mC(a:List (List Value)):Nat:=0+a.length
noncomputable abbrev Bz(a:List (List Value)):List (List Value):=[]++a
attribute [push_cast] mC Bz
def T5(a:Addr)(n c:Nat)(m:MH)(h:PH)(K:CV->MH->PH->Prop):Prop:=
  ∃(y:List (List Value)),aA (dU 1 y) (bH h (Sl.mk (Option.some a) n c) 1 y) (aA (dD (mC y) 8) (w7 (mC y)) (aY h 1 (Bz y) (λs h1=>K (dG s) m h1)))
theorem XT(a:Addr)(n c:Nat)(m:MH)(h:PH)(K:CV->MH->PH->Prop):T5 a n c m h K=(qI (dL [] [] [] [] false) Tryz.f78 (bU Tryz.f78) (entry Tryz.f78.ntmps [.val (.slice (some a) n c)] m h) K):=by kernel_rfl
def T3(n c:Nat)(m:MH)(h:PH)(K:CV->MH->PH->Prop):Prop:=
  K uO m h
theorem XS(n c:Nat)(m:MH)(h:PH)(K:CV->MH->PH->Prop):T3 n c m h K=(qI (dL [] [] [] [] false) Tryz.f79 (bU Tryz.f79) (entry Tryz.f79.ntmps [.val (.slice none n c)] m h) K):=by kernel_rfl
def T2(a:Addr)(n c:Nat)(m:MH)(h:PH)(K:CV->MH->PH->Prop):Prop:=
  ∃(y:List (List Value)),aA (dU 2 y) (bH h (Sl.mk (Option.some a) n c) 2 y) (aA (dD (mC y) 16) (w7 (mC y)) (aY h 2 (Bz y) (λs h1=>K (dG s) m h1)))
theorem XR(a:Addr)(n c:Nat)(m:MH)(h:PH)(K:CV->MH->PH->Prop):T2 a n c m h K=(qI (dL [] [] [] [] false) Tryz.f79 (bU Tryz.f79) (entry Tryz.f79.ntmps [.val (.slice (some a) n c)] m h) K):=by kernel_rfl
def T0(n c:Nat)(m:MH)(h:PH)(K:CV->MH->PH->Prop):Prop:=
  K uO m h
theorem XQ(n c:Nat)(m:MH)(h:PH)(K:CV->MH->PH->Prop):T0 n c m h K=(qI (dL [] [] [] [] false) Tryz.f80 (bU Tryz.f80) (entry Tryz.f80.ntmps [.val (.slice none n c)] m h) K):=by kernel_rfl
def TZ(a:Addr)(n c:Nat)(m:MH)(h:PH)(K:CV->MH->PH->Prop):Prop:=
  ∃(y:List (List Value)),aA (dU 2 y) (bH h (Sl.mk (Option.some a) n c) 2 y) (aA (dD (mC y) 16) (w7 (mC y)) (aY h 2 (Bz y) (λs h1=>K (dG s) m h1)))
theorem XP(a:Addr)(n c:Nat)(m:MH)(h:PH)(K:CV->MH->PH->Prop):TZ a n c m h K=(qI (dL [] [] [] [] false) Tryz.f80 (bU Tryz.f80) (entry Tryz.f80.ntmps [.val (.slice (some a) n c)] m h) K):=by kernel_rfl
theorem T8:Sound Tryz.prog 78 Tl:=by
 refine fU (fn:=Tryz.f78) (c:=bU Tryz.f78) Tryz.func78 rfl (by decide) ?_;rintro cvs m h K ⟨⟨a,n,c⟩,l,rfl,hl,hK⟩;refine⟨dL [] [] [] [] false,rfl,aF,?_⟩;have hlen:=hl.len;cases a with
 |none=>
  have e:=Iw hl.row;subst e;show qI _ _ _ (entry Tryz.f78.ntmps [.val (.slice none n c)] m h) K;rw[<-XU n c m h K];exact hK ⟨none,0,0⟩ h (.refl _) ⟨.nil _ _,by simp⟩
 |some a=>
  show qI _ _ _ (entry Tryz.f78.ntmps [.val (.slice (some a) n c)] m h) K;rw[<-XT a n c m h K];exact⟨_,GX l,hl.row,by simp;omega,by simp;omega,λs' h' hle hrow=>hK s' h' hle ⟨hrow,hlen⟩⟩
theorem T4:Sound Tryz.prog 79 Tj:=by
 refine fU (fn:=Tryz.f79) (c:=bU Tryz.f79) Tryz.func79 rfl (by decide) ?_;rintro cvs m h K ⟨⟨a,n,c⟩,l,rfl,hl,hK⟩;refine⟨dL [] [] [] [] false,rfl,aF,?_⟩;have hlen:=hl.len;cases a with
 |none=>
  have e:=Iw hl.row;subst e;show qI _ _ _ (entry Tryz.f79.ntmps [.val (.slice none n c)] m h) K;rw[<-XS n c m h K];exact hK ⟨none,0,0⟩ h (.refl _) ⟨.nil _ _,by simp⟩
 |some a=>
  show qI _ _ _ (entry Tryz.f79.ntmps [.val (.slice (some a) n c)] m h) K;rw[<-XR a n c m h K];exact⟨_,MN l,hl.row,by simp;omega,by simp;omega,λs' h' hle hrow=>hK s' h' hle ⟨hrow,hlen⟩⟩
theorem T1:Sound Tryz.prog 80 Ti:=by
 refine fU (fn:=Tryz.f80) (c:=bU Tryz.f80) Tryz.func80 rfl (by decide) ?_;rintro cvs m h K ⟨⟨a,n,c⟩,l,rfl,hl,hK⟩;refine⟨dL [] [] [] [] false,rfl,aF,?_⟩;have hlen:=hl.len;cases a with
 |none=>
  have e:=Iw hl.row;subst e;show qI _ _ _ (entry Tryz.f80.ntmps [.val (.slice none n c)] m h) K;rw[<-XQ n c m h K];exact hK ⟨none,0,0⟩ h (.refl _) ⟨.nil _ _,by simp⟩
 |some a=>
  show qI _ _ _ (entry Tryz.f80.ntmps [.val (.slice (some a) n c)] m h) K;rw[<-XP a n c m h K];exact⟨_,ML l,hl.row,by simp;omega,by simp;omega,λs' h' hle hrow=>hK s' h' hle ⟨hrow,hlen⟩⟩
mutual
def dW(ps:List VV):Query->Query
 |.mk op ta w co on gr od li args=>.mk op ta (Dw ps w) co on gr od li (JS ps args)
def JS(ps:List VV):List Query->List Query
 |[]=>[]
 |q::r=>dW ps q::JS ps r
end
theorem JR(ps:List VV):∀l,JS ps l=l.map (dW ps)
 |[]=>by simp[JS]
 |p::r=>by simp[JS,JR ps r]
def Xj(N:Nat):Vc.Spec:=λcvs m h K=>∃v s q ps,cvs=[aQ v,cS s]/\fF h q v/\bB h s ps/\SizeOf.sizeOf q<N/\∀v' h',PH.le h h'->fF h' (dW ps q) v'->K (aQ v') m h'
def Xk:Vc.Spec:=λcvs m h K=>∃v s q ps,cvs=[aQ v,cS s]/\fF h q v/\bB h s ps/\∀v' h',PH.le h h'->fF h' (dW ps q) v'->K (aQ v') m h'
noncomputable def XV(N:Nat)(v:PV)(s:Sl)(m:MH)(h:PH):Ctx:=
 dL [(77,Zg N),(123,Xi)] [(5,{A:=Nat×OV×OV×List PV×PH,st:=λ⟨i,l,r,us,h⟩=>cM 37 39 [(1,sv s),(4,.at (.ptr 4 0)),(5,.at (.ptr 5 0)),(21,sv v.args),(22,iv v.args.len),(23,iv i)] [(4,.cells 63 (qT.enc.map .val)),(5,.cells 63 (([Value.int .i64 v.op,Value.int .i64 v.cmp]++l.enc++r.enc).map .val++[.lst 33])),(33,.lst 63 13 (us.map PV.enc))] m h})] [(3,{A:=OV×OV,st:=λ⟨l,r⟩=>cM 37 39 [(1,sv s),(2,.at (.ptr 2 0)),(4,.at (.ptr 4 0)),(5,.at (.ptr 5 0))] [(2,.cells 63 (v.enc.map .val)),(4,.cells 63 (qT.enc.map .val)),(5,.cells 63 (([Value.int .i64 v.op,Value.int .i64 v.cmp]++l.enc++r.enc++[Value.slice v.args.a v.args.len v.args.cap]).map .val))] m h})] [] false
noncomputable def X7(N:Nat)(v:QV)(s:Sl)(m:MH):Ctx:=
 dL [(77,Zh),(78,Tl),(79,Tj),(80,Ti),(41,Xj N)] [(9,{A:=Nat×PV×Sl×Sl×Sl×Sl×List QV×PH,st:=λ⟨i,w,c,o,g,d,us,h⟩=>cM 48 50 [(1,sv s),(4,.at (.ptr 4 0)),(5,.at (.ptr 5 0)),(32,sv v.args),(33,iv v.args.len),(34,iv i)] [(4,.cells 68 (Zj.enc.map .val)),(5,.cells 68 (([Value.int .i64 v.op,Value.int .i64 v.table]++w.enc++[bV c,bV o,bV g,bV d,cJ v.limit]).map .val++[.lst 44])),(44,.lst 68 21 (us.map QV.enc))] m h})] [] [] false
def LN(o:OV)(s:Sl)(m:MH)(h:PH)(K:CV->MH->PH->Prop):Prop:=
  branch (o.kind !=2) (K (fB o.enc) m h) (bE o.index 0 (K (fB o.enc) m h) (iH o.index (aH s) K (fB o.enc) m h (bK (λb o1=>aA (bL s.a b o1) (0<=o.index) (o.index<aH s/\∃(y:VV),aI m h b (o1+eM o.index 3) y.enc/\K (fB (aJ (cJ 3) cK (aJ (cJ y.kind) (cJ y.int) (l9 (Value.string y.text))))) m h)))))
abbrev pA(a:Sl->(List VV)->Prop):Prop:=∃(x:Sl)(x1:List VV),a x x1
noncomputable abbrev rQ(a:OV):At:=aQt a.value.text
noncomputable abbrev kL(a:Nat×OV×OV×List PV×PH):OV:=a.2.1
noncomputable abbrev kM(a:Nat×OV×OV×List PV×PH):OV:=a.2.2.1
noncomputable abbrev As(a:Nat×OV×OV×List PV×PH):List (List Value):=List.map PV.enc a.2.2.2.1
noncomputable abbrev xH(a:Nat×OV×OV×List PV×PH):Nat->Nat->Option Value:=a.2.2.2.2
abbrev AA(a:PV->Sl->Pred->(List VV)->Prop):Prop:=∃(x:PV)(x1:Sl)(x2:Pred)(x3:List VV),a x x1 x2 x3
attribute [push_cast] pA rQ kL kM As xH AA
def O8(N:Nat)(v:PV)(s:Sl)(m:MH)(h:PH)(K:CV->MH->PH->Prop):Prop:=
  ∃(I:OV×OV->Prop),(∃(o:OV),pA (λs1 p=>aA (aK (fB v.left.enc) (dG s)=aK (fB o.enc) (dG s1)) (bB h s1 p) (∃(o1:OV),pA (λs2 p1=>aA (aK (fB v.right.enc) (dG s)=aK (fB o1.enc) (dG s2)) (bB h s2 p1) (∃(x:OV×OV),aA (I x) (aL s) (aA (eP 2) (eP 4) (aA dJ (yM v) (aA (eQ (oQ 63 zP)) (gO 63 (dP (iQ v.op) (iQ v.cmp) (dP (At.val (dR (kX p o))) (At.val (wF (kX p o))) (dP (At.val (cJ (lO (kX p o)))) (At.val (qH (kX p o))) (dP (At.val (iI (kX p o))) (At.val (dR (kX p1 o1))) (dP (At.val (wF (kX p1 o1))) (At.val (cJ (lO (kX p1 o1)))) (dP (At.val (qH (kX p1 o1))) (At.val (iI (kX p1 o1))) (jX v.args))))))) (dP (iQ v.op) (iQ v.cmp) (dP (iQ x.1.kind) (iQ x.1.index) (dP (iQ (lO x.1)) (iQ (A8 x.1)) (dP (rQ
 x.1) (iQ x.2.kind) (dP (iQ x.2.index) (iQ (lO x.2)) (dP (iQ (A8 x.2)) (rQ x.2) (jX v.args)))))))) (bZ m m h h)))))))))/\∀(x:OV×OV),I x->∃(I1:Nat×OV×OV×List PV×PH->Prop)(m1:Nat×OV×OV×List PV×PH->Nat),(∃(x1:Nat×OV×OV×List PV×PH),aA (I1 x1) (aL s) (aA (eP 4) dJ (aA (aL v.args) (aX v.args) (aA (bI x1.1) (eQ (oQ 63 zP)) (uW (gO 63 (dP (iQ v.op) (iQ v.cmp) (dP (iQ x.1.kind) (iQ x.1.index) (dP (iQ (lO x.1)) (iQ (A8 x.1)) (dP (rQ x.1) (iQ x.2.kind) (dP (iQ x.2.index) (iQ (lO x.2)) (dP (iQ (A8 x.2)) (rQ x.2) (Be (At.lst 33)))))))) (dP (iQ v.op) (iQ v.cmp) (dP (iQ (kL x1).kind) (iQ (kL x1).index) (dP (iQ (lO (kL x1))) (iQ (A8 (kL x1))) (dP (rQ (kL x1)) (iQ (kM x1).kind) (dP (iQ
 (kM x1).index) (iQ (lO (kM x1))) (dP (iQ (A8 (kM x1))) (rQ (kM x1)) (Be (At.lst 33))))))))) (Option.some (Own.lst 63 13 [])=Option.some (Own.lst 63 13 (As x1))) m m h (xH x1))))))/\∀(x1:Nat×OV×OV×List PV×PH),I1 x1->bE (↑x1.1:Int) (aH v.args) (bK (λb o=>aA (bL v.args.a b o) (0<=(↑x1.1:Int)) ((↑x1.1:Int)<aH v.args/\∃(y:PV),aI m (xH x1) b (o+aZ x1.1 13) y.enc/\AA (λv1 s1 p p1=>aA (aK (fB y.enc) (dG s)=aK (fB v1.enc) (dG s1)) (fZ (xH x1) p v1) (aA (bB (xH x1) s1 p1) (SizeOf.sizeOf p<N) (∀(v2:PV)(h1:PH),dZ (xH x1) h1 (fZ h1 (Dw p1 p) v2) (aA (dD ((As x1).length+1) 136) (eF (As x1)) (∃(x2:Nat×OV×OV×List PV×PH),aA (I1 x2) (m1 x2<m1 x1) (aA (aL s) (eP 4) (aA dJ (aL
 v.args) (aA (aX v.args) (bD (gI (bC x1.1 1)) x2.1) (aA (eQ (oQ 63 zP)) (gO 63 (dP (iQ v.op) (iQ v.cmp) (dP (iQ (kL x1).kind) (iQ (kL x1).index) (dP (iQ (lO (kL x1))) (iQ (A8 (kL x1))) (dP (rQ (kL x1)) (iQ (kM x1).kind) (dP (iQ (kM x1).index) (iQ (lO (kM x1))) (dP (iQ (A8 (kM x1))) (rQ (kM x1)) (Be (At.lst 33)))))))) (dP (iQ v.op) (iQ v.cmp) (dP (iQ (kL x2).kind) (iQ (kL x2).index) (dP (iQ (lO (kL x2))) (iQ (A8 (kL x2))) (dP (rQ (kL x2)) (iQ (kM x2).kind) (dP (iQ (kM x2).index) (iQ (lO (kM x2))) (dP (iQ (A8 (kM x2))) (rQ (kM x2)) (Be (At.lst 33))))))))) (aA (Option.some (Own.lst 63 13 (eR (As x1) v2.enc))=Option.some (Own.lst 63 13 (As x2))) (m=m) (bP h1 (xH
 x2))))))))))))))) (aY (xH x1) 13 (As x1) (λs1 h1=>K (fB (aJ (cJ v.op) (cJ v.cmp) (aJ (dR (kL x1)) (wF (kL x1)) (aJ (cJ (lO (kL x1))) (qH (kL x1)) (aJ (iI (kL x1)) (dR (kM x1)) (aJ (wF (kM x1)) (cJ (lO (kM x1))) (aJ (qH (kM x1)) (iI (kM x1)) (aM s1)))))))) m h1))
noncomputable abbrev mZ(a:Nat×PV×Sl×Sl×Sl×Sl×List QV×PH):PV:=a.2.1
noncomputable abbrev EP(a:Nat×PV×Sl×Sl×Sl×Sl×List QV×PH):Sl:=a.2.2.2.2.1
noncomputable abbrev ER(a:Nat×PV×Sl×Sl×Sl×Sl×List QV×PH):Sl:=a.2.2.2.2.2.1
noncomputable abbrev Au(a:Nat×PV×Sl×Sl×Sl×Sl×List QV×PH):List (List Value):=List.map QV.enc a.2.2.2.2.2.2.1
noncomputable abbrev xI(a:Nat×PV×Sl×Sl×Sl×Sl×List QV×PH):Nat->Nat->Option Value:=a.2.2.2.2.2.2.2
attribute [push_cast] mZ EP ER Au xI
def Ph(N:Nat)(v:QV)(s:Sl)(m:MH)(h:PH)(K:CV->MH->PH->Prop):Prop:=
  AA (λv1 s1 p p1=>aA (aK (fB v.where_.enc) (dG s)=aK (fB v1.enc) (dG s1)) (fZ h p v1) (bB h s1 p1/\∀(v2:PV)(h1:PH),dZ h h1 (fZ h1 (Dw p1 p) v2) (EB v.columns h1 (λl=>gT (λs2 h2=>dZ h1 h2 (Ints h2 s2 l) (∃(s3:Sl)(l1:List (Int×Int)),aA (nH v.on s3) (nS h2 s3 l1) (gT (λs4 h3=>dZ h2 h3 (nS h3 s4 l1) (EB v.group h3 (λl2=>gT (λs5 h4=>dZ h3 h4 (Ints h4 s5 l2) (∃(s6:Sl)(l3:List (Int×Bool)),aA (nH v.order s6) (jY h4 s6 l3) (gT (λs7 h5=>dZ h4 h5 (jY h5 s7 l3) (∃(I:Nat×PV×Sl×Sl×Sl×Sl×List QV×PH->Prop)(m1:Nat×PV×Sl×Sl×Sl×Sl×List QV×PH->Nat),(∃(x:Nat×PV×Sl×Sl×Sl×Sl×List QV×PH),aA (I x) (aL s) (aA (eP 4) dJ (aA (aL v.args) (aX v.args) (aA (bI x.1) (eQ (oQ 68 zQ)) (uW
 (gO 68 (dP (iQ v.op) (iQ v.table) (pQ v2 (dP (yY s2) (yY s4) (dP (yY s5) (yY s7) (sS v::Be (At.lst 44)))))) (dP (iQ v.op) (iQ v.table) (pQ (mZ x) (dP (yY x.2.2.1) (yY x.2.2.2.1) (dP (yY (EP x)) (yY (ER x)) (sS v::Be (At.lst 44))))))) (Option.some (Own.lst 68 21 [])=Option.some (Own.lst 68 21 (Au x))) m m h5 (xI x))))))/\∀(x:Nat×PV×Sl×Sl×Sl×Sl×List QV×PH),I x->bE (↑x.1:Int) (aH v.args) (bK (λb o=>aA (bL v.args.a b o) (0<=(↑x.1:Int)) ((↑x.1:Int)<aH v.args/\∃(y:QV),aI m (xI x) b (o+aZ x.1 21) y.enc/\∃(v3:QV)(s8:Sl)(q:Query)(p2:List VV),aA (aK (cW y) (dG s)=aK (cW v3) (dG s8)) (fF (xI x) q v3) (aA (bB (xI x) s8 p2) (uU q N) (∀(v4:QV)(h6:PH),dZ (xI x) h6 (fF h6 (dW p2 q)
 v4) (aA (dD ((Au x).length+1) 280) (eF (Au x)) (∃(x1:Nat×PV×Sl×Sl×Sl×Sl×List QV×PH),aA (I x1) (m1 x1<m1 x) (aA (aL s) (eP 4) (aA dJ (aL v.args) (aA (aX v.args) (bD (gI (bC x.1 1)) x1.1) (aA (eQ (oQ 68 zQ)) (gO 68 (dP (iQ v.op) (iQ v.table) (pQ (mZ x) (dP (yY x.2.2.1) (yY x.2.2.2.1) (dP (yY (EP x)) (yY (ER x)) (sS v::Be (At.lst 44)))))) (dP (iQ v.op) (iQ v.table) (pQ (mZ x1) (dP (yY x1.2.2.1) (yY x1.2.2.2.1) (dP (yY (EP x1)) (yY (ER x1)) (sS v::Be (At.lst 44))))))) (aA (Option.some (Own.lst 68 21 (eR (Au x) v4.enc))=Option.some (Own.lst 68 21 (Au x1))) (m=m) (bP h6 (xI x1)))))))))))))) (aY (xI x) 21 (Au x) (λs8 h6=>K (fB (aJ (cJ v.op) (cX v) (aJ (cJ (mZ x).op) (cJ (mZ
 x).cmp) (aJ (dR (mZ x).left) (wF (mZ x).left) (aJ (cJ (lO (mZ x).left)) (qH (mZ x).left) (aJ (iI (mZ x).left) (dR (mZ x).right) (aJ (wF (mZ x).right) (cJ (lO (mZ x).right)) (aJ (qH (mZ x).right) (iI (mZ x).right) (aJ (bV (mZ x).args) (bV x.2.2.1) (aJ (bV x.2.2.2.1) (bV (EP x)) (aJ (bV (ER x)) (cJ v.limit) (aM s8)))))))))))) m h6)))))))))))))))))
theorem RI:Sound Tryz.prog 123 Xi:=by
 refine jK Tryz.func123 ?_;rintro cvs m h K ⟨o,s,ps,rfl,hs,hK⟩;refine⟨dL [] [] [] [] false,rfl,aF,LN o s m h K,by kernel_rfl,?_⟩;dsimp only[LN,push_cast];have hl:=aR.slen hs;unfold kX at hK;refine aB (λh1=>?_) (λh1=>aE (λh2=>?_) (λh2=>aE (λh3=>?_) (λh3=>?_)))
 .have h1:o.kind≠2:=by simpa using h1
  rw[if_neg (λe=>h1 e.1)]at hK;exact hK
 .rw[if_neg (λe=>by omega)]at hK;exact hK
 .rw[if_neg (λe=>by omega)]at hK;exact hK
 .have h1:o.kind=2:=by simpa using h1
  rw[if_pos ⟨h1,aC,aC⟩]at hK
  have hx:ps[o.index.toNat]? =some (ps.getD o.index.toNat zeroV):=by
   rw[List.getD_eq_getElem?_getD,List.getElem?_eq_getElem aC];simp
  obtain⟨b,off,v,e,r,rfl⟩:=aR.at hs hx;exact⟨b,off,e,aC,aC,_,.imm r,hK⟩
theorem SQ:∀N,Sound Tryz.prog 77 (Zg N)
 |0=>by
  refine fU (fn:=Tryz.f77) (c:=bU Tryz.f77) Tryz.func77 rfl (by decide) ?_;rintro cvs m h K ⟨v,s,p,ps,rfl,_,_,hN,_⟩;omega
 |N+1=>by
  refine jK Tryz.func77 ?_;rintro cvs m h K ⟨v,s,p,ps,rfl,hp,hs,hN,hK⟩;refine⟨XV N v s m h,rfl,aD (SQ N) (aD RI aF),O8 N v s m h K,by kernel_rfl,?_⟩;dsimp only[O8,push_cast];have hargs:=@FB p;obtain⟨op,cmp,l,r,qs⟩:=p;obtain⟨rfl,rfl,rfl,rfl,ha⟩:=hp.parts;have hl:=ha.slen;have hlen:=ha.len;simp only[Pred.args]at hargs;simp only[Dw,JT]at hK;refine⟨λx=>x=(kX ps v.left,kX ps v.right),?_,?_⟩
  .repeat' (first|exact⟨(kX ps v.left,kX ps v.right),rfl,MT⟩|refine⟨v.left,s,ps,rfl,hs,?_⟩|refine⟨v.right,s,ps,rfl,hs,?_⟩|apply And.intro)
  rintro _ rfl;dsimp only;refine⟨λ⟨i,l,r,us,hx⟩=>l=kX ps v.left/\r=kX ps v.right/\i<=qs.length/\PH.le h hx/\us.length=i/\∀(j:Nat) x,(qs.take i)[j]? =some x->∃u,us[j]? =some u/\fZ hx (Dw ps x) u,λ⟨i,_,_,_,_⟩=>qs.length-i,⟨(0,kX ps v.left,kX ps v.right,[],h),⟨rfl,rfl,aC,.refl _,rfl,λj x hx=>by simp at hx⟩,MT⟩,?_⟩;rintro⟨i,_,_,us,hx⟩ ⟨rfl,rfl,hi,hle,hul,hus⟩;dsimp only;refine aE (λhlt=>?_) (λhge sl h' hle' hrow=>hK ⟨v.op,v.cmp,kX ps v.left,kX ps v.right,sl⟩ h' (hle.trans hle') (fZ.mk (v:=⟨v.op,v.cmp,kX ps v.left,kX ps v.right,sl⟩) ⟨⟨us,hrow,by simp;omega,λj x hx=>?_⟩,by simp;omega⟩))
  .obtain⟨q,hq⟩:=fS hl hlt;obtain⟨b1,o1,u,e1,r1,hru⟩:=(ha.mono hle).at hq;refine⟨b1,o1,e1,aC,hlt,u,.imm r1,u,s,q,ps,rfl,hru,hs.mono hle,?_,λv' h' hle' hr'=>⟨by simp;omega,by simp;omega,(i+1,kX ps v.left,kX ps v.right,us++[v'],h'),⟨rfl,rfl,by show i+1<=qs.length;omega,hle.trans hle',by simp[hul],FY (R':=λx u=>fZ h' (Dw ps x) u) hi hul hq hus (λ_ _ h2=>h2.mono hle') hr'⟩,by show qs.length-(i+1)<qs.length-i;omega,?_⟩⟩
   .have:=hargs (List.mem_of_getElem? hq);omega
   .rw[List.map_append];exact MT
  .rw[List.take_of_length_le aC]at hus;rw[List.getElem?_map,Option.map_eq_some_iff]at hx;obtain⟨y,hy,rfl⟩:=hx;obtain⟨u,h1,h2⟩:=hus j y hy;exact⟨u,h1,h2.mono hle'⟩
theorem T9:Sound Tryz.prog 77 Zh:=qU SQ λ_ _ _ _⟨v,s,p,ps,e,h1,h2,h3⟩=>⟨SizeOf.sizeOf p+1,v,s,p,ps,e,h1,h2,aC,h3⟩
theorem SS:∀N,Sound Tryz.prog 41 (Xj N)
 |0=>by
  refine fU (fn:=Tryz.f41) (c:=bU Tryz.f41) Tryz.func41 rfl (by decide) ?_;rintro cvs m h K ⟨v,s,q,ps,rfl,_,_,hN,_⟩;omega
 |N+1=>by
  refine jK Tryz.func41 ?_;rintro cvs m h K ⟨v,s,q,ps,rfl,hq,hs,hN,hK⟩;refine⟨X7 N v s m,rfl,aD T9 (aD T8 (aD T4 (aD T1 (aD (SS N) aF)))),Ph N v s m h K,by kernel_rfl,?_⟩;dsimp only[Ph,push_cast];have hargs:=@Ep q;obtain⟨op,ta,w,co,on,gr,od,li,args⟩:=q;have x:=hq.parts;have hl:=x.args_.slen;have hlen:=x.args_.len;simp only[Query.args]at hargs;simp only[dW,JR]at hK;refine⟨v.where_,s,w,ps,rfl,x.where_,hs,λwv h1 le1 hw=>⟨v.columns,co,rfl,x.columns_.mono le1,λs1 h2 le2 r1=>⟨v.on,on,rfl,x.on_.mono (le1.trans le2),λs2 h3 le3 r2=>⟨v.group,gr,rfl,x.group_.mono (le1.trans (le2.trans le3)),λs3 h4 le4 r3=>⟨v.order,od,rfl,x.order_.mono (le1.trans (le2.trans (le3.trans le4))),λs4 h5 le5 r4=>?_⟩⟩⟩⟩⟩;have L:=le1.trans (le2.trans (le3.trans (le4.trans le5)));refine⟨λ⟨i,w',c,o,g,d,us,hx⟩=>w'=wv/\c=s1/\o=s2/\g=s3/\d=s4/\i<=args.length/\PH.le h5 hx/\us.length=i/\∀(j:Nat) q,(args.take i)[j]? =some q->∃u,us[j]? =some u/\fF hx (dW ps q) u,λz=>args.length-z.1,⟨(0,wv,s1,s2,s3,s4,[],h5),⟨rfl,rfl,rfl,rfl,rfl,aC,.refl _,rfl,λj x hx=>by simp at hx⟩,MT⟩,?_⟩;rintro⟨i,wv,s1,s2,s3,s4,us,hx⟩ ⟨rfl,rfl,rfl,rfl,rfl,hi,hle,hul,hus⟩;dsimp only;refine aE (λhlt=>?_) (λhge sl h6 le6 hrow=>?_)
  .obtain⟨q,hq⟩:=fS hl hlt;obtain⟨b1,o1,u,e1,r1,hru⟩:=(x.args_.mono (L.trans hle)).at hq;refine⟨b1,o1,e1,aC,hlt,u,.imm r1,u,s,q,ps,rfl,hru,hs.mono (L.trans hle),?_,λv' h' hle' hr'=>⟨by simp;omega,by simp;omega,(i+1,wv,s1,s2,s3,s4,us++[v'],h'),⟨rfl,rfl,rfl,rfl,rfl,by show i+1<=args.length;omega,hle.trans hle',by simp[hul],FY (R':=λx u=>fF h' (dW ps x) u) hi hul hq hus (λ_ _ h2=>h2.mono hle') hr'⟩,by show args.length-(i+1)<args.length-i;omega,?_⟩⟩
   .have:=hargs (q:=q) (List.mem_of_getElem? hq);omega
   .rw[List.map_append];exact MT
  .rw[List.take_of_length_le aC]at hus;have a0:=hle.trans le6
   exact hK ⟨v.op,v.table,wv,s1,s2,s3,s4,v.limit,sl⟩ h6 (L.trans a0) (nR.rep ⟨x.op_,x.table_,hw.mono (le2.trans (le3.trans (le4.trans (le5.trans a0)))),r1.mono (le3.trans (le4.trans (le5.trans a0))),r2.mono (le4.trans (le5.trans a0)),r3.mono (le5.trans a0),r4.mono a0,x.limit_,⟨⟨us,hrow,by simp;omega,λj q hq=>by
    rw[List.getElem?_map,Option.map_eq_some_iff]at hq;obtain⟨y,hy,rfl⟩:=hq;obtain⟨u,e1,e2⟩:=hus j y hy;exact⟨u,e1,e2.mono le6⟩⟩,by simp;omega⟩⟩)
theorem Uh:Sound Tryz.prog 41 Xk:=qU SS λ_ _ _ _⟨v,s,q,ps,e,h1,h2,h3⟩=>⟨SizeOf.sizeOf q+1,v,s,q,ps,e,h1,h2,aC,h3⟩
mutual
def AZ:Query->Nat
 |.mk _ _ _ _ _ _ _ _ args=>1+wO args
def wO:List Query->Nat
 |[]=>0
 |q::qs=>AZ q+wO qs
end
mutual
def qK(c:Nat):Query->Nat
 |.mk op _ _ _ _ _ _ _ args=>if op=1 then c else if op=4 then Aa c args else Dm c args
def Dm(c:Nat):List Query->Nat
 |[]=>0
 |q::qs=>qK c q+Dm c qs
def Aa(c:Nat):List Query->Nat
 |[]=>1
 |q::qs=>qK c q*Aa c qs
end
mutual
theorem IK:∀(p:Query)(n:Int),qX p n<=n+AZ p/\(qX p n<=24->qX p n=n+AZ p)
 |.mk _ _ _ _ _ _ _ _ args,n=>by
  have:=G1 args (n+1);simp only[qX,AZ];omega
theorem G1:∀(ps:List Query)(n:Int),lR ps n<=n+wO ps/\(lR ps n<=24->lR ps n=n+wO ps)
 |[],n=>by simp[lR,wO]
 |p::ps,n=>by
  have h1:=IK p n;have h2:=G1 ps (qX p n);simp only[lR,wO];split<;>omega
end
theorem Ty(h:zZ q=true):AZ q<=24:=by
 simp only[zZ,Bool.and_eq_true,decide_eq_true_eq]at h;have:=(IK q 0).2 h.1;omega
def Dl(n:Int):Prop:= -9223372036854775808<=n/\n<=9223372036854775807
theorem Qj:Bu ⟨#[]⟩=true:=by simp[Bu,ByteArray.toList_eq]
theorem Mt(k:Int):kK ⟨4,k,⟨#[]⟩⟩=true:=by simp[kK,Qj]
def pv(b:Nat):SV:=vv (.pointer (some ⟨b,0,none⟩))
theorem OJ{h:PH}{v:PV}(ha:v.args=⟨none,0,0⟩):fZ h (.mk v.op v.cmp v.left v.right []) v:=fZ.mk (by rw[ha];exact .nil _ _ _ _)
def eC:Sl:=⟨none,0,0⟩
theorem MO(l:List UInt8):dU 1 (bX l):=by
 constructor
 .intro e he;obtain⟨x,_,rfl⟩:=List.mem_map.1 he;rfl
 .intro e he u hu;obtain⟨x,_,rfl⟩:=List.mem_map.1 he;simp at hu;subst hu;rfl
theorem bH.cut{s:Sl}(r:bH h s sz xs)(n:Nat)(hn:n<=xs.length):bH h ⟨s.a,n,s.cap⟩ sz (xs.take n):=by
 refine⟨by simp;omega,?_,by have h1:=r.len;have h2:=r.cap;show n<=s.cap;omega⟩;rcases r.row with e|⟨b,o,ha,k⟩
 .left;rw[e];simp
 .right;refine⟨b,o,ha,λi e hi=>?_⟩;rw[List.getElem?_take]at hi;split at hi
  .exact k i e hi
  .cases hi
def Y5:Vc.Spec:=λcvs m h K=>∃n:Nat,cvs=[.val (.slice none 0 0),cI n]/\n<=1000/\K (.lst 3 1 []) m h
noncomputable def Wb(ss:Sl)(m:MH)(h:PH):Ctx:=
 dL [(218,Y5)] [(3,{A:=Nat×Nat,st:=λ⟨i,n⟩=>cM 36 37 [(0,sv ss),(3,iv n),(9,sv ss),(10,iv ss.len),(11,iv i)] [] m h}),
  (11,{A:=Nat×List Int,st:=λ⟨i,l⟩=>cM 36 37 [(6,.at (.lst 24)),(25,sv ss),(26,iv ss.len),(27,iv i)] [(24,.lst 3 1 (l.map eI))] m h})] [] [] false
abbrev sT(a b:Int)(c d:Prop):Prop:=branch (decide (a>b)) c d
noncomputable abbrev qD(a:Nat)(b:Int):Int:=qO ((↑a:Int)-b)
abbrev IN(a:Int):Prop:=a<=140737488355328
noncomputable abbrev uV(a:List (List Value)):Int:=(↑a.length:Int)
attribute [push_cast] sT qD IN uV
def Lm(n:Nat)(m:MH)(h:PH)(K:CV->MH->PH->Prop):Prop:=
  sT (qD n (qO ((0:Int)-0))) 0 (aA (cQ 0) (cQ 0) (aA (0<qD n 0) (IN (qD n 0*8)) (aA (IN (qD n 0)) ((0:Int)<=0) (cQ (uV (List.replicate (qD n 0).toNat (l9 cK)))/\K (CV.lst 3 1 []) m h)))) (K (CV.lst 3 1 []) m h)
abbrev HR(a:(Nat×Nat->Prop)->(Nat×Nat)->Prop)(b:(Nat×Nat->Prop)->(Nat×Nat->Nat)->(Nat×Nat)->Prop):Prop:=∃(x:Nat×Nat->Prop)(x1:Nat×Nat->Nat),(∃(x2:Nat×Nat),a x x2)/\∀(x2:Nat×Nat),b x x1 x2
noncomputable abbrev cV(a:Sl):Sl:=Sl.mk a.a a.len a.cap
abbrev Ad(a b:List (List Value))(c:Nat):Prop:=dD (a.length+b.length) c
abbrev nC(a:List (List Value))(b:Nat):Prop:=w7 (a.length+b)
attribute [push_cast] HR cV Ad nC
def Lw(ss:Sl)(m:MH)(h:PH)(K:CV->MH->PH->Prop):Prop:=
  HR (λI x=>aA (I x) (aL ss) (aA (bI x.2) (aL ss) (aA (aX ss) (bI x.1) (aA (m=m) (h=h) True)))) (λI m1 x=>I x->bE (↑x.1:Int) (aH ss) (dA ss (↑x.1:Int) (λb o y=>aI m h b (o+aZ x.1 1) (aM y)/\bE (bC x.2 (aH y)) 0 False (∃(x1:Nat×Nat),aA (I x1) (m1 x1<m1 x) (aA (aL ss) (bD (gI (bC x.2 (aH y))) x1.2) (aA (aL ss) (aX ss) (aA (bD (gI (bC x.1 1)) x1.1) (m=m) (bP h h))))))) (∃(n:Nat),aA (aK uO (dY (↑x.2:Int))=aK uO (dY (↑n:Int))) (n<=1000) (∃(I1:Nat×List Int->Prop)(m2:Nat×List Int->Nat),(∃(x1:Nat×List Int),aA (I1 x1) (eL 24) (aA (aL ss) (aX ss) (aA (bI x1.1) (Cn (oE x1)) (aA (m=m) (h=h) True))))/\∀(x1:Nat×List Int),I1 x1->bE (↑x1.1:Int) (aH ss) (dA ss (↑x1.1:Int)
 (λb o y=>aI m h b (o+aZ x1.1 1) (aM y)/\∃(y1:List (List Value)),aA (dU 1 y1) (bH h (cV y) 1 y1) (aA (Ad (oE x1) y1 8) (nC (oE x1) y1.length) (∃(x2:Nat×List Int),aA (I1 x2) (m2 x2<m2 x1) (aA (eL 24) (aL ss) (aA (aX ss) (bD (gI (bC x1.1 1)) x2.1) (aA (Option.some (Own.lst 3 1 (oE x1++y1))=Option.some (Own.lst 3 1 (oE x2))) (m=m) (bP h h)))))))) (aY h 1 (oE x1) (λs h1=>K (dG s) m h1)))))
theorem QY:Sound Tryz.prog 218 Y5:=by
 refine jK Tryz.func218 ?_;rintro cvs m h K ⟨n,rfl,hn,hK⟩;refine⟨dL [] [] [] [] true,rfl,aF,Lm n m h K,by kernel_rfl,?_⟩;dsimp only[Lm,push_cast];have h0:IntKind.i64.wrap ((n:Int)-0)=n:=by rw[gD aC aC];omega
 have h1:IntKind.i64.wrap ((n:Int)-IntKind.i64.wrap (0-0))=n:=by rw[show IntKind.i64.wrap (0-0)=0 from by rw[gD aC aC];rfl,h0]
 exact aE (λhp=>⟨aC,aC,aC,aC,aC,aC,aC,hK⟩) (λ_=>hK)
def sJ(ks:List (List Int)):Nat:=(ks.map List.length).sum
theorem GU{k:List Int}(hk:ks[i]? =some k):sJ (ks.take (i+1))=sJ (ks.take i)+k.length:=by
 unfold sJ;rw[List.take_add_one,hk];simp
theorem FN{ks:List (List Int)}(h:∀k∈ks,k.length<=12):∀i,sJ (ks.take i)<=12*i
 |0=>by simp[sJ]
 |i+1=>by
  have ih:=FN h i;cases e:ks[i]? with
  |none=>rw[List.take_add_one,e];simp[sJ]at ih⊢;omega
  |some k=>rw[GU e];have:=h k (List.mem_of_getElem? e);omega
theorem Q9:Sound Tryz.prog 193 Ia:=by
 refine jK Tryz.func193 ?_;rintro cvs m h K ⟨ss,ks,rfl,hs,hl,h12,hK⟩;refine⟨Wb ss m h,rfl,aD QY aF,Lw ss m h K,by kernel_rfl,?_⟩;dsimp only[Lw,push_cast];have hsl:=aR.slen hs;refine⟨λ⟨i,n⟩=>i<=ks.length/\n=sJ (ks.take i),λ⟨i,_⟩=>ks.length-i,⟨(0,0),⟨aC,by simp[sJ]⟩,MT⟩,?_⟩;rintro⟨i,n⟩ ⟨hi,rfl⟩;dsimp only;have hb:=FN h12 i;refine aE (λhlt=>?_) (λhge=>?_)
 .obtain⟨k,hk⟩:=fS hsl hlt;obtain⟨b,o,sl,ea,r,hki⟩:=aR.at hs hk;have hkl:=hki.slen;have hk12:=h12 k (List.mem_of_getElem? hk)
  have hw:IntKind.i64.wrap ((sJ (ks.take i):Int)+(sl.len:Int))=((sJ (ks.take (i+1)):Nat):Int):=by
   rw[GU hk,gD aC aC];omega
  refine⟨b,o,ea,aC,hlt,sl,.imm r,?_⟩;rw[hw];exact aE (λhneg=>by omega) (λ_=>⟨(i+1,sJ (ks.take (i+1))),⟨aC,rfl⟩,by show ks.length-(i+1)<ks.length-i;omega,MT⟩)
 .refine⟨sJ (ks.take i),rfl,aC,?_⟩;refine⟨λ⟨i,l⟩=>i<=ks.length/\l=(ks.take i).flatten,λ⟨i,_⟩=>ks.length-i,⟨(0,[]),⟨aC,by simp⟩,MT⟩,?_⟩;clear hb hge hi;rintro⟨i,l⟩ ⟨hi,rfl⟩;dsimp only;have hfl:(ks.take i).flatten.length<=12*i:=by have:=FN h12 i;simpa[sJ,List.length_flatten]using this
  refine aE (λhlt=>?_) (λhge sl h' hle hrow=>hK sl h' hle ⟨?_,?_⟩)
  .obtain⟨k,hk⟩:=fS hsl hlt;obtain⟨b,o,sl,ea,r,hki⟩:=aR.at hs hk;have hk12:=h12 k (List.mem_of_getElem? hk);refine⟨b,o,ea,aC,hlt,sl,.imm r,k.map eI,GX k,hki.row,?_,?_,(i+1,(ks.take (i+1)).flatten),⟨aC,rfl⟩,by show ks.length-(i+1)<ks.length-i;omega,?_⟩
   .rw[List.length_map,List.length_map];omega
   .rw[List.length_map,List.length_map];omega
   .rw[List.take_add_one,hk,Option.toList_some,List.flatten_append,List.map_append,List.flatten_cons,List.flatten_nil,List.append_nil];exact MT
  .rw[List.take_of_length_le aC]at hrow;exact hrow
  .rw[List.take_of_length_le aC]at hfl;omega
theorem RO:∀N,Sound Tryz.prog 112 (Di N):=PC Q9
mutual
def pZ:Query->Nat->Int->Bool×Int
 |.mk _ _ _ _ _ _ _ _ args,k,n=>if 24<n+1\/k=0 then(false,0)else A6 args (k-1) (n+1)
def A6:List Query->Nat->Int->Bool×Int
 |[],_,n=>(true,n)
 |q::qs,k,n=>match pZ q k n with|(false,_)=>(false,0)|(true,n')=>A6 qs k n'
end
mutual
def U1:Query->Int
 |.mk _ _ _ _ _ _ _ _ args=>1+Ea args
def Ea:List Query->Int
 |[]=>0
 |p::ps=>U1 p+Ea ps
end
mutual
theorem MB:∀p:Query,1<=U1 p
 |.mk _ _ _ _ _ _ _ _ args=>by have:=Bj args;simp only[U1];omega
theorem Bj:∀ps:List Query,0<=Ea ps
 |[]=>by simp[Ea]
 |p::ps=>by have:=MB p;have:=Bj ps;simp only[Ea];omega
end
mutual
theorem KO:∀(p:Query)(n:Int),n<=24->(n+U1 p<=24->qX p n=n+U1 p)/\(24<n+U1 p->qX p n=25)
 |.mk _ _ _ _ _ _ _ _ args,n,h=>by
  obtain⟨h1,h2⟩:=IJ args (n+1) aC;simp only[qX,U1];exact⟨λe=>by rw[h1 aC];omega,λe=>h2 aC⟩
theorem IJ:∀(ps:List Query)(n:Int),n<=25->(n+Ea ps<=24->lR ps n=n+Ea ps)/\(24<n+Ea ps->lR ps n=25)
 |[],n,h=>by
  simp only[lR,Ea];omega
 |p::ps,n,h=>by
  have h1:=MB p;have h2:=Bj ps;simp only[lR,Ea];by_cases h3:n<=24
  .rw[if_pos h3];have h4:=KO p n h3;have h5:=(Ew p n h3).2;have h6:=IJ ps _ h5;by_cases h7:n+U1 p<=24
   .have h8:=h4.1 h7;rw[h8]at h6⊢
    exact⟨λe=>by rw[h6.1 aC];omega,λe=>h6.2 aC⟩
   .have h8:=h4.2 aC;rw[h8]at h6⊢
    exact⟨λe=>by omega,λe=>h6.2 aC⟩
  .rw[if_neg h3];omega
end
mutual
theorem Ms:∀(p:Query)(k:Nat)(n:Int),n<=24->((pZ p k n).1=true↔n+U1 p<=24/\Ft p k=false)/\((pZ p k n).1=true->(pZ p k n).2=n+U1 p)
 |.mk _ _ _ _ _ _ _ _ args,k,n,h=>by
  have hp:=Bj args;simp only[pZ,U1];by_cases h0:24<n+1\/k=0
  .rw[if_pos h0];refine⟨⟨λe=>(by cases e),λe=>?_⟩,λe=>(by cases e)⟩;rcases h0 with h0|h0
   .omega
   .subst h0;simp[Ft]at e
  .rw[if_neg h0];obtain⟨k',rfl⟩:∃k',k=k'+1:=⟨k-1,aC⟩
   obtain⟨h1,h2⟩:=NX args k' (n+1) aC;simp only[Ft,Nat.add_sub_cancel];refine⟨⟨λe=>?_,λe=>h1.2 ⟨aC,e.2⟩⟩,λe=>by have:=h2 e;omega⟩;have:=h1.1 e;exact⟨aC,this.2⟩
theorem NX:∀(ps:List Query)(k:Nat)(n:Int),n<=24->((A6 ps k n).1=true↔n+Ea ps<=24/\BU ps k=false)/\((A6 ps k n).1=true->(A6 ps k n).2=n+Ea ps)
 |[],k,n,h=>by simp[A6,Ea,BU,h]
 |p::ps,k,n,h=>by
  obtain⟨h1,h2⟩:=Ms p k n h;have hp:=Bj ps;simp only[A6,Ea,BU];cases e:pZ p k n with
  |mk r n'=>
   rw[e]at h1 h2;cases r with
   |false=>
    refine⟨⟨λe=>(by cases e),λe=>?_⟩,λe=>(by cases e)⟩;have:=h1.2 ⟨aC,(Bool.or_eq_false_iff.1 e.2).1⟩;cases this
   |true=>
    have h3:=h2 rfl;have h1:=h1.1 rfl;simp only at h3;obtain⟨h4,h5⟩:=NX ps k n' aC;refine⟨⟨λe=>?_,λe=>?_⟩,λe=>by have:=h5 e;simp only;omega⟩
    .have:=h4.1 e;exact⟨aC,by rw[h1.2,this.2];rfl⟩
    .exact h4.2 ⟨aC,(Bool.or_eq_false_iff.1 e.2).2⟩
end
theorem Ku(q:Query):(pZ q 8 0).1=zZ q:=by
 have h1:=(Ms q 8 0 aC).1;have h2:=KO q 0 aC;rw[Bool.eq_iff_iff,h1];simp only[zZ,Bool.and_eq_true,decide_eq_true_eq,Bool.not_eq_true'];refine and_congr_left λ_=>⟨λe=>?_,λe=>?_⟩
 .rw[h2.1 aC];omega
 .by_cases h3:0+U1 q<=24
  .exact h3
  .rw[h2.2 aC]at e;omega
def Eo:Code->Option (Code×Code)
 |.rangeFunc _ _ a b=>some (a,b)
 |.seq x y=>match Eo x with|some p=>some p|none=>Eo y
 |.block _ c=>Eo c
 |_=>none
noncomputable def Zs:Code:=match Eo (bU Tryz.f68)with|some p=>p.1|none=>.skip
noncomputable def Zr:Code:=match Eo (bU Tryz.f68)with|some p=>p.2|none=>.skip
structure LR where
 fn:FuncId
 tmps:Array Value
 bn:Nat
 b6:Nat
 b7:Nat
 D:Nat
noncomputable def lL(R:LR)(st:LoopState)(pe:Option Code):Loop:={state:=st,pending:=pe,fn:=R.fn,tmps:=R.tmps,params:= #[37,38],assign:=Zs,body:=Zr,defers:=R.D}
def Dv:Obj:=.cells #[.slice none 0 0] 31 (0,0)
def BY(n:Int):Obj:=.cells #[.int .i64 n] 47 (0,0)
structure tB(m:MH)(l:Nat)(R:LR)(n:Int):Prop where
 loop:m l=some (.loop (lL R .ready none))
 n_:m R.bn=some (nM n)
 k_:m R.b6=some Dv
 e_:m R.b7=some (BY 0)
 size:R.tmps.size=53
 t11:R.tmps[11]? =some (.pointer (some ⟨R.bn,0,none⟩))
 t6:R.tmps[6]? =some (.pointer (some ⟨R.b6,0,none⟩))
 t7:R.tmps[7]? =some (.pointer (some ⟨R.b7,0,none⟩))
structure uC(m m':MH)(l:Nat)(R:LR):Prop where
 loop:m' l=some (.loop (lL R .done (some .ret)))
 k_:m' R.b6=some Dv
 e_:m' R.b7=some (BY 2)
 n_:∃x,m' R.bn=some x
 other:∀b,b≠l->b≠R.bn->b≠R.b6->b≠R.b7->m' b=m b
theorem tB.ne{l:Nat}{R:LR}{n:Int}(x:tB m l R n):l≠R.bn/\l≠R.b6/\l≠R.b7/\R.b6≠R.bn/\R.b7≠R.bn/\R.b6≠R.b7:=by
 have h1:=x.loop;have h2:=x.n_;have h3:=x.k_;have h4:=x.e_;refine⟨λe=>?_,λe=>?_,λe=>?_,λe=>?_,λe=>?_,λe=>?_⟩
 .rw[e,h2]at h1;cases h1
 .rw[e,h3]at h1;cases h1
 .rw[e,h4]at h1;cases h1
 .rw[e,h2]at h3;cases h3
 .rw[e,h2]at h4;cases h4
 .rw[e,h4]at h3;cases h3
theorem tB.next{l:Nat}{R:LR}{n n':Int}(x:tB m l R n)(hu:eW m m' R.bn (nM n')):tB m' l R n':=by
 obtain⟨h1,h2,h3,h4,h5,h6⟩:=x.ne;exact⟨by rw[hu.other l h1];exact x.loop,hu.at_,by rw[hu.other _ h4];exact x.k_,by rw[hu.other _ h5];exact x.e_,x.size,x.t11,x.t6,x.t7⟩
theorem uC.from{m1:MH}{l:Nat}{R:LR}{n':Int}(hu:eW m m1 R.bn (nM n'))(h:uC m1 m' l R):uC m m' l R:=
 ⟨h.loop,h.k_,h.e_,h.n_,λb h1 h2 h3 h4=>(h.other b h1 h2 h3 h4).trans (hu.other b h2)⟩
def yv(l:Nat):CV:=.val (.func (.yield l) #[] #[])
def YS:Vc.Spec:=λcvs m h K=>∃l level v R n,cvs=[yv l,cI level,aQ v]/\tB m l R n/\0<=n/\n<=24/\
 (∀m',(24<n+1\/8<level)->uC m m' l R->K (cB false) m' h)/\(∀m',¬(24<n+1\/8<level)->eW m m' R.bn (nM (n+1))->K (cB true) m' h)
def R7(N:Nat):Vc.Spec:=λcvs m h K=>∃v q,∃k l:Nat,∃R n,cvs=[aQ v,cI (9-k),yv l]/\fF h q v/\SizeOf.sizeOf q<N/\k<=9/\tB m l R n/\0<=n/\n<=24/\
 (∀m',(pZ q k n).1=false->uC m m' l R->K (cB false) m' h)/\(∀m',(pZ q k n).1=true->eW m m' R.bn (nM (pZ q k n).2)->K (cB true) m' h)
def R0(b:Nat):CV:=.val (.pointer (some ⟨b,0,none⟩))
def aaZ:Vc.Spec:=λcvs m h K=>∃v q l bq R,cvs=[yv l,R0 bq]/\m bq=some (.cells ⟨v.enc⟩ 68 (0,0))/\fF h q v/\tB m l R 0/\
 (∀m',(pZ q 8 0).1=false->uC m m' l R->K (.tup []) m' h)/\(∀m',(pZ q 8 0).1=true->eW m m' R.bn (nM (pZ q 8 0).2)->K (.tup []) m' h)
def Mk:Vc.Spec:=λcvs m h K=>∃v,cvs=[aQ v]/\∀b m',bY m h b->eW m m' b (.cells ⟨v.enc⟩ 68 (0,0))->K (.val (.func (.func 147) #[] #[.pointer (some ⟨b,0,none⟩)])) m' h
noncomputable def Wm(N:Nat)(v:QV)(k l:Nat)(h:PH):Ctx:=
 {dL [(148,R7 N)] [(4,{A:=Nat×MH,st:=λ⟨i,m⟩=>cM 28 31 [(1,iv (9-k)),(2,vv (.func (.yield l) #[] #[])),(15,sv v.args),(16,iv v.args.len),(17,iv i)] [] m h})] [] [] false with yield:=some YS}
abbrev HX(a:List CV->MH->PH->(CV->MH->PH->Prop)->Prop):Prop:=GM Proofs.Tryz.prog a
noncomputable abbrev Bw(a:Nat):CV:=CV.val (Value.func (Fn.yield a) oI oI)
abbrev jJ(a:Prop):Prop:=a->False
abbrev AN(a:Nat):Prop:=eQ (BA (Fn.yield a) oI)
noncomputable abbrev vK(a:QV)(b:Int)(c:Nat):List CV:=fB a.enc::aK (dY b) (Bw c)
attribute [push_cast] HX Bw jJ AN vK
def LF(N:Nat)(v:QV)(k l:Nat)(m:MH)(h:PH)(K:CV->MH->PH->Prop):Prop:=
  HX YS/\∃(l1:Nat)(l2:Int)(v1:QV)(R:LR)(n:Int),aA (Bw l::aK (dY (nZ k)) (cW v)=Bw l1::aK (dY l2) (cW v1)) (tB m l1 R n) (aA (cQ n) (n<=24) ((∀(m1:MH),24<n+1\/8<l2->uC m m1 l1 R->K aT m1 h)/\∀(m1:MH),jJ (24<n+1\/8<l2)->bG m m1 R.bn (bR (n+1)) 3->∃(I:Nat×MH->Prop)(m2:Nat×MH->Nat),(∃(x:Nat×MH),aA (I x) (aW (nZ k)) (aA (AN l) (aL v.args) (aA (aX v.args) (bI x.1) (aA (m1=x.2) (h=h) True))))/\∀(x:Nat×MH),I x->bE (↑x.1:Int) (aH v.args) (bK (λb o=>aA (bL v.args.a b o) (0<=(↑x.1:Int)) ((↑x.1:Int)<aH v.args/\∃(y:QV),aI x.2 h b (o+aZ x.1 21) y.enc/\uY (λv2 q=>bK (λk1 l3=>∃(R1:LR)(n1:Int),aA (vK y (qO (nZ k+1)) l=vK v2
 (nZ k1) l3) (fF h q v2) (aA (uU q N) (k1<=9) (aA (tB x.2 l3 R1 n1) (cQ n1) (aA (n1<=24) (∀(m3:MH),(pZ q k1 n1).1=false->uC x.2 m3 l3 R1->K aT m3 h) (∀(m3:MH),lN (pZ q k1 n1).1->bG x.2 m3 R1.bn (bR (pZ q k1 n1).2) 3->∃(x1:Nat×MH),aA (I x1) (m2 x1<m2 x) (aA (aW (nZ k)) (AN l) (aA (aL v.args) (aX v.args) (aA (bD (gI (bC x.1 1)) x1.1) (m3=x1.2) (bP h h))))))))))))) (K gF x.2 h)))
noncomputable abbrev uX:CV:=CV.tup []
attribute [push_cast] uX
def UF(N:Nat)(l bq:Nat)(m:MH)(h:PH)(K:CV->MH->PH->Prop):Prop:=
  ∃(y:QV),aI m h bq 0 y.enc/\uY (λv q=>bK (λk l1=>∃(R:LR)(n:Int),aA (vK y 1 l=vK v (nZ k) l1) (fF h q v) (aA (uU q N) (k<=9) (aA (tB m l1 R n) (cQ n) (aA (n<=24) (∀(m1:MH),(pZ q k n).1=false->uC m m1 l1 R->K uX m1 h) (∀(m1:MH),lN (pZ q k n).1->bG m m1 R.bn (bR (pZ q k n).2) 3->K uX m1 h))))))
noncomputable abbrev lY(a:Nat):Array Value:=Array.mk (l9 (U8 a 0))
attribute [push_cast] lY
def Gz(v:QV)(m:MH)(h:PH)(K:CV->MH->PH->Prop):Prop:=
  gA (λb m1=>bY m h b->bG m m1 b v.enc 68->K (gL 147 (lY b)) m1 h)
theorem Pv(hY:GM Tryz.prog YS):∀N,Sound Tryz.prog 148 (R7 N)
 |0=>by
  refine fU (fn:=Tryz.f148) (c:=bU Tryz.f148) Tryz.func148 rfl (by decide) ?_;rintro cvs m h K ⟨v,q,k,l,R,n,rfl,_,hN,_⟩;omega
 |N+1=>by
  refine jK Tryz.func148 ?_;rintro cvs m h K ⟨v,q,k,l,R,n,rfl,hq,hN,hk,hL,h0,h1,hf,ht⟩;refine⟨Wm N v k l h,rfl,aD (Pv hY N) aF,LF N v k l m h K,by kernel_rfl,?_⟩;dsimp only[LF,push_cast];have hargs:=hq.args;have hlen:=hargs.slen;have hl:=hargs.len;refine⟨hY,l,9-k,v,R,n,rfl,hL,h0,h1,λm' hc hs=>hf m' ?_ hs,λm' hc hu=>?_⟩
  .cases q;simp only[pZ];rw[if_pos aC]
  have hc:¬(24<n+1\/8<9-(k:Int)):=hc;have hu':eW m m' R.bn (nM (n+1)):=hu;have hv:pZ q k n=A6 q.args (k-1) (n+1):=by cases q;simp only[pZ,Query.args];rw[if_neg aC]
  rw[hv]at hf ht;refine⟨λ⟨i,mx⟩=>∃n',i<=q.args.length/\0<=n'/\n'<=24/\eW m mx R.bn (nM n')/\A6 (q.args.drop i) (k-1) n'=A6 q.args (k-1) (n+1),λ⟨i,_⟩=>q.args.length-i,⟨(0,m'),⟨n+1,aC,aC,aC,hu',by simp⟩,MT⟩,?_⟩;rintro⟨i,mx⟩ ⟨n',hi,hn0,hn1,hmx,he⟩;dsimp only;refine aE (λhlt=>?_) (λhge=>?_)
  .obtain⟨p,hp⟩:=fS hlen hlt;obtain⟨b,o,u,ea,hrd,hru⟩:=hargs.at hp;have hd:=drop_cons hp;rw[hd,A6]at he;refine⟨b,o,ea,aC,hlt,u,.imm hrd,u,p,k-1,l,R,n',?_,hru,?_,aC,hL.next hmx,hn0,hn1,λm2 hx hs=>?_,λm2 hx hu2=>?_⟩
   .rw[gD aC aC,show(9-((k-1:Nat):Int))=9-(k:Int)+1 by omega]
   .have:=Ep (List.mem_of_getElem? hp);omega
   .refine hf m2 ?_ (hs.from hmx);rw[<-he];cases e:pZ p (k-1) n' with
    |mk r x=>rw[e]at hx;simp only at hx;subst hx;rfl
   .have hu2':eW mx m2 R.bn (nM (pZ p (k-1) n').2):=hu2;have hs:=Ms p (k-1) n' hn1;have hs1:=hs.1.1 hx;have hs2:=hs.2 hx;have hp1:=MB p;cases e:pZ p (k-1) n' with
    |mk r x=>
     rw[e]at hx he hs2 hu2';simp only at hx hs2 hu2';subst hx;exact⟨(i+1,m2),⟨x,aC,aC,aC,hmx.trans hu2',he⟩,by show q.args.length-(i+1)<q.args.length-i;omega,MT⟩
  .rw[List.drop_of_length_le aC,A6]at he;rw[<-he]at ht;exact ht mx rfl hmx
theorem RE(hY:GM Tryz.prog YS):Sound Tryz.prog 147 aaZ:=by
 refine jK Tryz.func147 ?_;rintro cvs m h K ⟨v,q,l,bq,R,rfl,hb,hq,hL,hf,ht⟩;refine⟨dL [(148,R7 (SizeOf.sizeOf q+1))] [] [] [] false,rfl,aD (Pv hY _) aF,UF (SizeOf.sizeOf q+1) l bq m h K,by kernel_rfl,?_⟩;exact⟨v,.of_m hb rfl,v,q,8,l,R,0,rfl,hq,aC,aC,hL,aC,aC,hf,ht⟩
theorem RP:Sound Tryz.prog 111 Mk:=by
 refine jK Tryz.func111 ?_;rintro cvs m h K ⟨v,rfl,hK⟩;refine⟨dL [] [] [] [] false,rfl,aF,Gz v m h K,by kernel_rfl,?_⟩;exact hK
end Go.Ps
