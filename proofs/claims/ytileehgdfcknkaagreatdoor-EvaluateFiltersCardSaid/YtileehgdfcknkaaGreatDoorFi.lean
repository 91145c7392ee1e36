/-
  Part 9 of a proof that a law of the given program returns true: a condition generator that is proved sound, and contracts of functions. No condition of its own. Own work, joined by a program (pack2.py).
-/
import Derived.Test.YtileehgdfcknkaaGreatDoorFh
set_option linter.unusedVariables false
set_option linter.unusedSimpArgs false
namespace Go.Ps
open Go Go.Vc Go.Proofs
variable{K:CV->MH->PH->Prop}{m:MH}{h:PH}{s:nS}{ps:List Int}{cb:Nat}{sc:bJ}{v:QV}{q:Query}{p:Pred}{l:List Int}{i:Nat}{N:Nat}{m':MH}{h':PH}{co:List Int}{gr:List Int}{od:List (Int×Bool)}{w:Pred}{ta:Int}{li:Int}{xs:List (List Value)}{sz:Nat}{k:Nat}{ks:List (List Int)}{rs:List Int}{r:Sl}{a:List Int}{b:Nat}
structure G7(s:nS)(st:List (List (List VV))):Prop where
 len:st.length=s.tables.length
 few:∀l∈st,l.length<=4
 ok:IS s st
 val:Zt st
def Wv:Vc.Spec:=λcvs m h K=>∃cb v s,cvs=[cP cb,aS v,cI 3]/\aK m h cb/\fV h s v/\oE s/\∀st sl m' h',PH.le h h'->Nz h' sl st->G7 s st->bB m m' cb->aK m' h' cb->K (Ze sl) m' h'
noncomputable def X1(cb:Nat)(v:bJ):Ctx:=uW [(15,FX),(44,uZ),(43,Zu),(46,WM),(45,Zw)]
 [(3,{A:=Nat×Sl×MH×PH,st:=λ⟨i,s,m,h⟩=>cD 51 54 [(0,pv cb),(2,iv 3),(4,.at (.ptr 4 0)),(6,.at (.ptr 6 0)),(7,.at (.ptr 7 0)),(18,iv v.tables.len),(19,iv i)] [(4,.cells 43 (v.enc.map .val)),(6,.cells 25 [.val bM.val]),(7,.cells 25 [.val (.slice s.a s.len s.cap)])] m h}),
  (6,{A:=Nat×Int×Sl×MH×PH,st:=λ⟨i,n,s,m,h⟩=>cD 51 54 [(0,pv cb),(2,iv 3),(4,.at (.ptr 4 0)),(6,.at (.ptr 6 0)),(7,.at (.ptr 7 0)),(8,iv i),(9,iv n),(18,iv v.tables.len),(19,iv i)] [(4,.cells 43 (v.enc.map .val)),(6,.cells 25 [.val bM.val]),(7,.cells 25 [.val (.slice s.a s.len s.cap)])] m h})] [] [] [2023] [] false
abbrev E6(a:List At)(b:Sl×MH×PH):Prop:=oQ 25 a=oQ 25 (qJ b.1)
noncomputable abbrev nU(a:Nat×Int×Sl×MH×PH):Sl×MH×PH:=a.2.2
attribute [push_cast] E6 nU
def JY(cb:Nat)(v:bJ)(m:MH)(h:PH)(K:CV->MH->PH->Prop):Prop:=
  aA (cA (gQ v)) (gQ v<=gQ v) (aA (qE (gQ v*24)) (qE (gQ v)) (gS (λs m1=>mT m m1 h s 53 1 (List.replicate (gQ v).toNat iD)->∃(I:Nat×Sl×MH×PH->Prop)(m2:Nat×Sl×MH×PH->Nat),(∃(x:Nat×Sl×MH×PH),aA (I x) (cV cb) (aA iZ (eP 4) (aA (eP 6) (eP 7) (aA (fY v) (bD x.1) (aA (bP v) oO (aA (E6 (qJ s) x.2) (cH m1 x.2.2) (j3 h x.2.2)))))))/\∀(x:Nat×Sl×MH×PH),I x->aZ (↑x.1:Int) (aG v.tables) (fZ cb 5 (lV x.2) (eN x.2) (λk m3=>∃(I1:Nat×Int×Sl×MH×PH->Prop)(m4:Nat×Int×Sl×MH×PH->Nat),(∃(x1:Nat×Int×Sl×MH×PH),aA (I1 x1) (cV cb) (aA iZ (eP 4) (aA (eP 6) (eP 7) (aA (bY x.1 x1.1) (cG k x1.2.1) (aA (fY v) (bY x.1 x1.1) (aA (bP v) oO (aA (E6
 (qJ x.2.1) (nU x1)) (cH m3 (nU x1).2) (eJ (eN x.2) (nU x1).2/\True))))))))/\∀(x1:Nat×Int×Sl×MH×PH),I1 x1->eF x1.2.1 0 (aR (λb o=>aA (aT (pD v) b o) (0<=(↑x1.1:Int)) ((↑x1.1:Int)<aG v.tables/\∃(y:Int),aA (aL (lV (nU x1)) (eN (nU x1)) b (bA o x1.1 5+2) (cL y)) (aY (eN (nU x1)) b (bA o x1.1 5+2) (cL y)) (A9 (cJ (bN v) (↑x1.1:Int)) (eN (nU x1)) (λs1 h1=>∃(c:Nat)(s2:Sl)(k1:Int)(k2:List Int),aA (Bx cb 0::dN s1::cJ (eD y) 3=Bx c 0::dN s2::cJ (eD k1) 3) (aK (lV (nU x1)) h1 c) (aA (Ints h1 s2 k2) (jI k2) ((∀(k3:Int),List.Mem k3 k2->k3=3\/k3=4\/k3=5)/\∀(s3:Sl)(r:List VV),eT (λm5 h2=>bE h1 h2 (cF h2 s3 r) (aM (NI k1 k2 r) (bB (lV (nU
 x1)) m5 c) (jG m5 h2 c (lE (λv1 s4=>∃(t:Int),nE (λs5 r1=>aA (bN v::bK (eD (↑x1.1:Int)) (dN s3)=bN v1::bK (eD t) (dN s5)) (fV h2 s4 v1) (aA (cF h2 s5 r1) (mL r1.length) (bZ (λs6 h3=>bE h2 h3 (cF h3 s6 (Fs s4 t r1)) (lE (λv2 s7=>aR (λt1 n=>Jp (λc1 u=>∃(u1:Sl)(t2:Nat)(t3:uX)(r2:List (List VV)),nE (λs8 k3=>nE (λs9 r3=>aA (bN v::lF (aU (nU x1).1)::eD (↑x1.1:Int)::bK (dN s6) (dN s3)=bN v2::lF (iO (Value.slice (j9 t1) n c1))::eD (↑t2:Int)::bK (dN s8) (dN s9)) (fV h3 s7 v2) (aA (Im s7 t2 t3) (UY m5 t1 u) (aA (n=u.length) (sX u t2 u1) (aA (Rows h3 u1 r2) (mL r2.length) (aA (C2 r2 (λr4=>mL r4.length)) (cF h3 s8 k3) (aA (cF h3 s9 r3) (0<r3.length) (mL r3.length
 /\∀(u2:Sl),eT (λm6 h4=>bE h3 h4 (Rows h4 u2 (xE t3 k3 r3 false r2)) (aM (UY m6 t1 (List.set u t2 u2)) (bB m5 m6 t1) (∃(x2:Nat×Int×Sl×MH×PH),aA (I1 x2) (m4 x2<m4 x1) (aA (cV cb) iZ (aA (eP 4) (eP 6) (aA (eP 7) (bY x1.1 x2.1) (aA (cG (dX (x1.2.1-1)) x2.2.1) (fY v) (aA (bY x1.1 x2.1) (bP v) (aA oO (E6 (pJ (At.val (Value.slice (j9 t1) n c1))) (nU x2)) (aA (cH m6 (nU x2).2) (eJ h4 (nU x2).2) True)))))))))))))))))))))))))))))))))))))) (∃(x2:Nat×Sl×MH×PH),aA (I x2) (m2 x2<m2 x) (aA (cV cb) iZ (aA (eP 4) (eP 6) (aA (eP 7) (fY v) (aA (fN (bG x1.1 1)=bV x2.1) (bP v) (aA oO (E6 (qJ (nU x1).1) x2.2) (jE (lV (nU x1)) x2.2.2 (eN (nU x1))))))))))) (K (lF (aU x.2.1)) (lV x.2) (eN
 x.2)))))
theorem cY.iceB{m1:MH}{hx:PH}{r:CV}{tb:Nat}{cur:Array Value}{E:TypeId}(hcur:m1 tb=some (.cells cur E (0,0)))(le:PH.le h hx)(hK:∀h2,PH.le hx h2->(∀i,h2 tb i=cur[i]?)->K r (λb=>if b=tb then none else m1 b) h2):cY h K r m1 hx:=by
 intro hdis;have hg0:∀i,hx tb i=none:=hdis tb _ hcur
 have hle3:PH.le hx (λx i=>if x=tb then cur[i]? else hx x i):=⟨λx i v e=>by
  have:x≠tb:=λe'=>by rw[e',hg0 i]at e;cases e
  simp[this,e]⟩
 refine⟨_,_,λb o e=>?_,le.trans hle3,λx i v e=>?_,hK _ hle3 (λi=>by simp)⟩
 .by_cases e':b=tb
  .simp[e']at e
  .simpa[e']using e
 .by_cases e':x=tb
  .subst e';simp at e;exact .inr ⟨cur,E,(0,0),hcur,e,by simp⟩
  .simp[e']at e;exact .inl e
structure Yl(h:PH)(s:nS)(m:MH)(tb:Nat)(us:List Sl)(st:List (List (List VV))):Prop where
 tbl:UY m tb us
 ulen:us.length=s.tables.length
 slen:st.length=s.tables.length
 rows:∀(j:Nat) u l,us[j]? =some u->st[j]? =some l->Rows h u l
 ok:IS s st
 val:Zt st
 few:∀l∈st,l.length<=4
theorem Yl.mono{tb:Nat}{us:List Sl}{st:List (List (List VV))}(x:Yl h s m tb us st)(le:PH.le h h')(e:m' tb=m tb):Yl h' s m' tb us st:=by
 obtain⟨cur,h1,h2,h3⟩:=x.tbl;exact⟨⟨cur,by rw[e];exact h1,h2,h3⟩,x.ulen,x.slen,λj u l a b=>bU.mono (x.rows j u l a b) le λr t hv=>cF.mono hv le,x.ok,x.val,x.few⟩
theorem Xh{t:uX}{r:List VV}(h:NI t.key (t.columns.map mC.kind) r):Ct t r=true:=by
 obtain⟨h1,_,h3⟩:=h;rw[List.length_map]at h1;refine Cs.2 ⟨h1,λi hi=>?_⟩;have e1:r[i]? =some (r.getD i zeroV):=by rw[List.getD_eq_getElem?_getD,List.getElem?_eq_getElem hi];rfl
 refine h3 i _ _ e1 ?_;rw[List.getElem?_map,List.getD_eq_getElem?_getD,List.getElem?_eq_getElem aC];rfl
theorem Vu{key k:Int}{v:VV}(h:wT key k i v=true)(hw:HS v):NG v.kind/\NG v.int:=by
 simp only[wT,Bool.and_eq_true]at h;have:=Hc h.1;exact⟨⟨aC,aC⟩,hw.int_⟩
theorem Yl.put{tb t:Nat}{us:List Sl}{st:List (List (List VV))}{u':Sl}{tab:uX}{l:List (List VV)}{row:List VV}(x:Yl h s m tb us st)(le:PH.le h h')(ht:s.tables[t]? =some tab)(hl:st[t]? =some l)(hT:UY m' tb (us.set t u'))(hr:Rows h' u' (xE tab (jK tab row) row false l))(hf:NI tab.key (tab.columns.map mC.kind) row)(h4:l.length<=3):
 Yl h' s m' tb (us.set t u') (st.set t (xE tab (jK tab row) row false l)):=by
 have hfr:=Xh hf;have htl:=(List.getElem?_eq_some_iff.1 hl).1;have hok:=x.ok t tab l ht hl;refine⟨hT,by rw[List.length_set];exact x.ulen,by rw[List.length_set];exact x.slen,λj u l' hu hl'=>?_,λj t' l' ht' hl'=>?_,λl' hl'=>?_,λl' hl'=>?_⟩
 .by_cases e:t=j
  .subst e;rw[List.getElem?_set_self (by rw[x.ulen, <-x.slen];exact htl)]at hu;rw[List.getElem?_set_self htl]at hl';cases hu;cases hl';exact hr
  .rw[List.getElem?_set_ne e]at hu hl';exact bU.mono (x.rows j u l' hu hl') le λr t hv=>cF.mono hv le
 .by_cases e:t=j
  .subst e;rw[List.getElem?_set_self htl]at hl';rw[ht]at ht';cases hl';cases ht';refine⟨λr hr=>?_,λi r r' e1 e2=>(Ja (KH.of hok.2)).adj i r r' e1 e2⟩;rcases HX hr with rfl|hr
   .exact hfr
   .exact hok.1 r hr
  .rw[List.getElem?_set_ne e]at hl';exact x.ok j t' l' ht' hl'
 .rcases List.mem_or_eq_of_mem_set hl' with h5|rfl
  .exact x.val l' h5
  .intro r hr v hv;rcases HX hr with rfl|hr
   .obtain⟨i,hi,rfl⟩:=List.mem_iff_getElem.1 hv;have hi2:i<(tab.columns.map mC.kind).length:=by rw[<-hf.1];exact hi
    exact Vu (hf.2.2 i _ _ (List.getElem?_eq_getElem hi) (List.getElem?_eq_getElem hi2)) (hf.2.1 _ hv)
   .exact x.val l (List.mem_of_getElem? hl) r hr v hv
 .rcases List.mem_or_eq_of_mem_set hl' with h5|rfl
  .exact x.few l' h5
  .have:=HY (t:=tab) (key:=jK tab row) (row:=row) (l:=l) (d:=false);simp at this;omega
theorem UD:Sound Tryz.prog 14 Wv:=by
 refine Xg Tryz.func14 ?_;rintro cvs m h K ⟨cb,v,s,rfl,hc,hs,hp,hK⟩;refine⟨X1 cb v,rfl,aD Gs (aD Dp (aD Uk (aD Lm (aD Uj aF)))),JY cb v m h (cY h K),by kernel_rfl,?_⟩;show JY cb v m h (cY h K);dsimp only[JY,push_cast];have htl:=hs.tables.slen;obtain⟨hse,hne⟩:=EI hp;have h8:=AF hse;have hs8:=sU hse;have hn0:0<s.tables.length:=List.length_pos_iff.2 hne;refine⟨aC,aC,aC,aC,λsl m1 hnew=>?_⟩;rw[show((v.tables.len:Int)).toNat=s.tables.length by omega]at hnew
 obtain⟨tb,cap,cur,hsl,hcur,_,_,hcs,hct⟩:∃b cap cur,sl=⟨some ⟨b,0,none⟩,s.tables.length,cap⟩/\m1 b=some (.cells cur 53 (0,0))/\s.tables.length<=cap/\cap<=maxLen/\cur.size=cap*1/\cur.toList.take (s.tables.length*1)=(List.replicate s.tables.length [u0]).flatten:=by
  rcases hnew.row.ex with⟨_,e⟩|⟨b,cap,cur,e1,e2,e3,e4,e5,e6⟩
  .have:=congrArg List.length e;rw[List.length_replicate,List.length_nil]at this;omega
  .rw[List.length_replicate]at e1 e3 e6;exact⟨b,cap,cur,e1,e2,e3,e4,e5,e6⟩
 have hcapn:s.tables.length<=cap:=by assumption
 have htb0:cC m h tb:=hnew.fresh tb 0 (by rw[hsl])
 have hne1:tb≠cb:=λe=>by
  obtain⟨cs,e2⟩:=hc.blk;rw[<-e,htb0.m_]at e2;cases e2
 have hoth:∀b,b≠tb->m1 b=m b:=λb hb=>hnew.other b λi e=>by
  rw[hsl]at e;injection e with e;injection e with e1 e2;exact hb e1.symm
 have hc1:aK m1 h cb:=hc.keep (hoth cb (Ne.symm hne1)) (.refl _)
 have hT0:Yl h s m1 tb (List.replicate s.tables.length ⟨none,0,0⟩) (List.replicate s.tables.length []):=by
  refine⟨⟨cur,hcur,by rw[List.length_replicate];omega,?_⟩,by simp,by simp,λj u l hu hl=>?_,λj t l ht hl=>?_,λl hl=>?_,λl hl=>?_⟩
  .rw[List.length_replicate, <-Nat.mul_one s.tables.length,hct,Nat.mul_one,List.map_replicate];generalize s.tables.length=k
   induction k with
   |zero=>rfl
   |succ k ih=>rw[List.replicate_succ,List.flatten_cons,ih,List.replicate_succ];rfl
  .have hu:=List.mem_of_getElem? hu;have hl:=List.mem_of_getElem? hl;rw[List.eq_of_mem_replicate hu,List.eq_of_mem_replicate hl];exact bU.nil _ _ _ _
  .rw[List.eq_of_mem_replicate (List.mem_of_getElem? hl)];exact⟨λr hr=>by simp at hr,λi r r' e=>by simp at e⟩
  .rw[List.eq_of_mem_replicate hl];intro r hr;simp at hr
  .rw[List.eq_of_mem_replicate hl];simp
 clear hct hcs hcur cur;refine⟨λz=>z.1<=s.tables.length/\z.2.1=sl/\PH.le h z.2.2.2/\aK z.2.2.1 z.2.2.2 cb/\(∀b,b≠tb->b≠cb->z.2.2.1 b=m b)/\∃us st,Yl z.2.2.2 s z.2.2.1 tb us st/\∀j l,z.1<=j->st[j]? =some l->l=[],λz=>s.tables.length-z.1,⟨(0,sl,m1,h),⟨by simp,rfl,.refl _,hc1,λb h1 _=>hoth b h1,_,_,hT0,λj l _ e=>List.eq_of_mem_replicate (List.mem_of_getElem? e)⟩,MT⟩,?_⟩;clear hT0 hc1;rintro⟨i,sl',m2,h2⟩ ⟨hi,e1,le2,c2,o2,us,st,hT,hnil⟩;dsimp only at hi e1 le2 c2 o2 hT hnil⊢
 rw[e1];clear e1 sl';refine aE (λhlt=>?_) (λhge=>?_)
 .obtain⟨tab,htab⟩:=fD htl hlt;have htabm:=List.mem_of_getElem? htab;obtain⟨tk,tc,tc4,tko⟩:=Gb hp htabm;have hil:=(List.getElem?_eq_some_iff.1 htab).1
  have hnil0:st[i]? =some []:=by
   have:=List.getElem?_eq_getElem (l:=st) (i:=i) (by rw[hT.slen];exact hil);rw[this,hnil i _ (Nat.le_refl _) this]
  refine⟨cb,5,rfl,c2,λk m3 k0 k1 o3 c3=>?_⟩;refine⟨λz=>z.1=i/\z.2.2.1=sl/\z.2.1<=4/\PH.le h z.2.2.2.2/\aK z.2.2.2.1 z.2.2.2.2 cb/\(∀b,b≠tb->b≠cb->z.2.2.2.1 b=m b)/\∃us st l,Yl z.2.2.2.2 s z.2.2.2.1 tb us st/\st[i]? =some l/\((l.length:Int)<=4-z.2.1)/\0<=z.2.1/\∀j l,i+1<=j->st[j]? =some l->l=[],λz=>z.2.1.toNat,⟨(i,k,sl,m3,h2),⟨rfl,rfl,by show k<=4;omega,le2,c3,λb h1 h2=>by show m3 b=m b;rw[o3.other b h2];exact o2 b h1 h2,us,st,[],hT.mono (.refl _) (o3.other tb hne1),hnil0,by simp;omega,k0,λj l hj=>hnil j l aC⟩,MT⟩,?_⟩;clear o3 c3 m3 k0 k1 hT hnil hnil0 us st k o2 c2 m2;rintro⟨i',n,sl',m3,h3⟩ ⟨e1,e2,hn4,le3,c3,o3,us,st,l,hT,hl,hll,hn0',hnil⟩;dsimp only at e1 e2 hn4 le3 c3 o3 hT hl hll hn0' hnil⊢
  rw[e1,e2];clear e1 e2 i' sl';refine aE (λhn=>?_) (λhn=>?_)
  .obtain⟨b,o,y,ea,rd,hy⟩:=bU.at (hs.mono le3).tables htab;have hkT:gT s (i:Int)=tab.columns.map mC.kind:=by rw[gT,if_neg aC,Int.toNat_natCast,htab]
   refine⟨b,o,ea,aC,aC,tab.key,.imm (by rw[<-hy.key];exact aY.part rd 2 1),by rw[<-hy.key];exact aY.part rd 2 1,v,s,i,rfl,hs.mono le3,hs8,λks h4 le4 hks=>?_⟩;rw[hkT]at hks;refine⟨cb,ks,tab.key,_,rfl,c3.mono le4,hks,by rw[List.length_map];omega,λk hk=>?_,λsr row m5 h5 le5 hrow hfit o5 c5=>?_⟩
   .obtain⟨c,hc,rfl⟩:=List.mem_map.1 hk;exact tko c hc
   have hrl:row.length=tab.columns.length:=by rw[hfit.1,List.length_map]
   refine⟨v,s,i,sr,row,rfl,hs.mono ((le3.trans le4).trans le5),hrow,aC,λsk h6 le6 hkey=>?_⟩;rw[Dl htab]at hkey;have hT6:=hT.mono ((le4.trans le5).trans le6) (o5.other tb hne1);obtain⟨u,hu⟩:∃u,us[i]? =some u:=⟨_,List.getElem?_eq_getElem (by rw[hT.ulen];exact hil)⟩
   have hlm:=List.mem_of_getElem? hl;refine⟨v,s,tb,s.tables.length,cap,us,u,i,tab,l,sk,jK tab row,sr,row,by rw[hsl],hs.mono (((le3.trans le4).trans le5).trans le6),htab,hT6.tbl,hT.ulen.symm,hu,hT6.rows i u l hu hl,by have:=hT.few l hlm;omega,λr hr=>?_,hkey,cF.mono hrow le6,aC,aC,λu' m7 h7 le7 hr7 hT7 o7=>?_⟩
   .have:=(Nb ((hT.ok i tab l htab hl).1 r hr)).1;omega
   have hw:IntKind.i64.wrap (n-1)=n-1:=eC aC aC;have hpl:=HY (t:=tab) (key:=jK tab row) (row:=row) (l:=l) (d:=false);simp at hpl;refine⟨(i,n-1,sl,m7,h7),⟨rfl,rfl,by show n-1<=4;omega,(((le3.trans le4).trans le5).trans le6).trans le7,(c5.mono (le6.trans le7)).keep (o7.other cb (Ne.symm hne1)) (.refl _),λb h1 h2=>by show m7 b=m b;rw[o7.other b h1,o5.other b h2];exact o3 b h1 h2,us.set i u',st.set i _,_,hT6.put le7 htab hl hT7 hr7 hfit aC,List.getElem?_set_self (List.getElem?_eq_some_iff.1 hl).1,by show(_:Int)<=4-(n-1);omega,by show 0<=n-1;omega,λj l' hj e=>?_⟩,by show(n-1).toNat<n.toNat;omega,?_⟩
   .rw[List.getElem?_set_ne aC]at e;exact hnil j l' hj e
   .rw[hw,hsl];exact MT
  .refine⟨(i+1,sl,m3,h3),⟨by show i+1<=s.tables.length;omega,rfl,le3,c3,o3,us,st,hT,hnil⟩,by show s.tables.length-(i+1)<s.tables.length-i;omega,?_⟩;rw[kE aC];exact MT
 .obtain⟨cur,hcur,hcs,hct⟩:=hT.tbl;refine cY.iceB hcur le2 λh3 le3 hice=>hK st sl _ h3 (le2.trans le3) ⟨⟨⟨us,⟨by rw[hsl,List.length_map];exact hT.ulen.symm,.inr ⟨tb,0,by rw[hsl],λj e hj=>⟨λn x hx=>?_⟩⟩,by rw[hsl];exact hcapn⟩,by rw[hT.slen,hT.ulen],λj l hl=>?_⟩,by rw[hT.slen];omega⟩,by rw[hT.slen];omega,hT.val⟩ ⟨hT.slen,hT.few,hT.ok,hT.val⟩ ⟨λb hb=>?_⟩ ?_
  .rw[List.getElem?_map,Option.map_eq_some_iff]at hj;obtain⟨u,hu,rfl⟩:=hj;have hn:n=0:=by have:=(List.getElem?_eq_some_iff.1 hx).1;simp[eS]at this;omega
   subst hn
   have hx:u.val=x:=by
    simp[eS]at hx;exact hx
   subst hx;have e:(cur.toList.take us.length)[j]? =some u.val:=by rw[hct,List.getElem?_map,hu];rfl
   rw[List.getElem?_take,if_pos (List.getElem?_eq_some_iff.1 hu).1,Array.getElem?_toList]at e;rw[hice,show 0+j*1+0=j by omega];exact e
  .have hjl:=(List.getElem?_eq_some_iff.1 hl).1;have hju:j<us.length:=by rw[hT.ulen, <-hT.slen];exact hjl
   have hu:us[j]? =some us[j]:=List.getElem?_eq_getElem hju;exact⟨_,hu,bU.mono (hT.rows j _ l hu hl) le3 λr t hv=>cF.mono hv le3⟩
  .by_cases e:b=tb
   .subst e;simp[htb0.m_]
   .simp only[e,if_false];exact o2 b e hb
  .refine aK.keep c2 ?_ le3;simp[Ne.symm hne1]
def WU:Vc.Spec:=λcvs m h K=>cvs=[]/\jZ m/\K (cB true) m h
def JP(m:MH)(h:PH)(K:CV->MH->PH->Prop):Prop:=
  bZ (λs h1=>bE h h1 (aX h1 s 2 (mK (vB Ii 4) (vB (Ij 99) 4))) (jM 1 (λn=>jM 10 (λn1=>jM 2 (λn2=>jM 10 (λn3=>jM 3 (λn4=>jM 20 (λn5=>bZ (λs1 h2=>bE h1 h2 (aX h2 s1 3 (mK (tS n) (tS n1))) (bZ (λs2 h3=>bE h2 h3 (aX h3 s2 3 (mK (tS n2) (tS n3))) (bZ (λs3 h4=>bE h3 h4 (aX h4 s3 3 (mK (tS n4) (tS n5))) (bZ (λs4 h5=>bE h4 h5 (aX h5 s4 1 (aU s1::mK (aU s2) (aU s3))) (bZ (λs5 h6=>bE h5 h6 (aX h6 s5 5 (fE (Db 116 97 115 107 (qD 115) s 1))) (bZ (λs6 h7=>bE h6 h7 (aX h7 s6 1 (fE (aU s4))) (bZ (λs7 h8=>bE h7 h8 (aX h8 s7 1 (fE (cL 1))) (bZ (λs8 h9=>bE h8 h9 (aX h9 s8 2 (fE (gL bC zU))) (bZ (λs9 a=>bE
 h9 a (aX a s9 21 (fE (aJ (dO 1) bC (aJ bC bC (aJ bC bC (aJ bC bC (sZ u0 (zN iD)))))))) (E7 (lF (gL bC (dT s5))::bK (lF (aU s6)) (lF (aJ (dO 9) bC (aJ bC bC (aJ bC bC (aJ bC bC (sZ u0 (aJ u0 (dT s7) (aJ (dT s8) (dO 1) (aU s9)))))))))) a m (λa1 a2 q=>bZ (λa3 a4=>bE a a4 (Rows a4 a3 (Ga a1 a2 q).1) (dH (Ga a1 a2 q).2 0 (dH (aG a3) 2 (aR (λb o=>aA (aT a3.a b o) ((0:Int)<=0) (0<aG a3/\∃(y:Sl),aL m a4 b (o+0) (aU y)/\aR (λb1 o1=>aA (aT y.a b1 o1) ((0:Int)<=0) (0<aG y/\∃(y1:VV),aA (aL m a4 b1 (o1+0) y1.enc) (aY a4 b (o+0) (aU y)) (aY a4 b1 (o1+0) y1.enc/\jM 2 (λn6=>lL 27 y1.enc (tS n6) (λr=>branch r (aR (λb2 o2=>aA (aT a3.a
 b2 o2) ((0:Int)<=1) (1<aG a3/\∃(y2:Sl),aL m a4 b2 (o2+1) (aU y2)/\aR (λb3 o3=>aA (aT y2.a b3 o3) ((0:Int)<=0) (0<aG y2/\∃(y3:VV),aA (aL m a4 b3 (o3+0) y3.enc) (aY a4 b (o+0) (aU y)) (aA (aY a4 b1 (o1+0) y1.enc) (aY a4 b2 (o2+1) (aU y2)) (aY a4 b3 (o3+0) y3.enc/\jM 3 (λn7=>lL 27 y3.enc (tS n7) (λr1=>branch r1 (aR (λb4 o4=>aA (aT a3.a b4 o4) ((0:Int)<=0) (0<aG a3/\∃(y4:Sl),aL m a4 b4 (o4+0) (aU y4)/\aR (λb5 o5=>aA (aT a3.a b5 o5) ((0:Int)<=1) (1<aG a3/\∃(y5:Sl),aA (aL m a4 b5 (o5+1) (aU y5)) (aY a4 b (o+0) (aU y)) (aA (aY a4 b1 (o1+0) y1.enc) (aY a4 b2 (o2+1) (aU y2)) (aY a4 b3 (o3+0) y3.enc/\iN (λo6 a5=>∃(t:Sl)(o7:List (Int×Bool))(a6 b6:List
 VV),aA (dN s8::bK (dN y4) (dN y5)=dN o6::bK (dN a5) (dN t)) (iI a4 o6 o7) (aA (cF a4 a5 a6) (cF a4 t b6) (K (By (j8 o7 a6 b6==1)) m a4)))))))))) (aA (aY a4 b (o+0) (aU y)) (aY a4 b1 (o1+0) y1.enc) (aA (aY a4 b2 (o2+1) (aU y2)) (aY a4 b3 (o3+0) y3.enc) (K aW m a4)))))))))))) (aA (aY a4 b (o+0) (aU y)) (aY a4 b1 (o1+0) y1.enc) (aA (aY a4 b (o+0) (aU y)) (aY a4 b1 (o1+0) y1.enc) (K aW m a4))))))))))) (K aW m a4)) (K aW m a4))))))))))))))))))))))))))))))
def nV(n:Int):VV:=⟨4,n,⟨#[]⟩⟩
def bS:nS:=⟨0,[⟨⟨⟨[116,97,115,107,115]⟩⟩,[⟨⟨⟨[105,100]⟩⟩,4⟩,⟨⟨⟨[112,114,111,106,101,99,116]⟩⟩,4⟩],1,[],[]⟩]⟩
def U1:List (List (List VV)):=[[[nV 1,nV 10],[nV 2,nV 10],[nV 3,nV 20]]]
def Wo:Query:=.mk 1 0 gV [] [] [] [] 0 []
def bQ:Query:=.mk 9 0 gV [] [] [1] [(0,true)] 1 [Wo]
theorem Yw:eE bS=0:=Vd (by decide) (λt ht=>by simp[bS]at ht;subst ht;exact⟨by simp,rfl,rfl⟩) (by decide) (by decide) (by
 refine wR ⟨⟨?_,?_,?_,?_,wR ⟨⟨?_,?_,?_⟩,⟨?_,?_,?_⟩,trivial⟩⟩,trivial⟩
 all_goals first|rfl|(simp;done)|decide)
theorem Qt{k:List Int}(h:bO s ps q=(k,0))(hr:vN k gr od li)(hk:k.length<=12):bO s ps (.mk 9 0 gV [] [] gr od li [q])=(k,0):=by
 rw[Gn (by decide) h];unfold hZ;rw[if_neg (by simp[arity,dE])];dsimp only;rw[if_neg (by decide),if_neg (by decide),if_neg (by decide),if_neg (by decide),if_neg (by decide),if_pos rfl,if_pos hr,Dk hk]
theorem Wp:bO bS [] bQ=([4,4],0):=by
 have e:gT bS 0=[4,4]:=rfl
 have h:bO bS [] Wo=([4,4],0):=by
  have:=JB (s:=bS) (ps:=[]) (t:=0) (by decide) (by decide) (by rw[e];decide);rw[e]at this;exact this
 exact Qt h ⟨wR ⟨⟨by decide,by simp⟩,trivial⟩,wR ⟨by show DK _ _=true;decide,trivial⟩,by decide,by decide,by decide⟩ (by decide)
theorem I8{k:List Int}(hs:eE s=0)(h:kZ q=true)(hk:bO s [] q=(k,0)):fG s [] q=(k,0):=by
 unfold fG;rw[if_pos hs,if_pos (by rfl),if_pos h,hk]
theorem Zr:fG bS [] bQ=([4,4],0):=I8 Yw (by rfl) Wp
theorem Zd:sN bS U1=0:=by
 unfold sN;rw[if_neg (by simp[Yw]),if_neg (by decide),if_neg (by decide),if_pos];intro i t l ht hl
 match i,ht,hl with
 |0,ht,hl=>
  simp[bS]at ht;simp[U1]at hl;subst ht hl;refine⟨λr hr=>?_,λi r r' e1 e2=>?_⟩
  .simp at hr;have hv:∀n,wT 1 4 0 (nV n)=true/\wT 1 4 1 (nV n)=true:=λn=>by simp[wT,nV,U5]
   rcases hr with rfl|rfl|rfl
   all_goals
    refine Cs.2 ⟨rfl,λi hi=>?_⟩
    match i,hi with
    |0,_=>exact(hv _).1
    |1,_=>exact(hv _).2
    |i+2,hi=>simp at hi;omega
  .match i,e1,e2 with
   |0,e1,e2=>simp at e1 e2;subst e1 e2;decide
   |1,e1,e2=>simp at e1 e2;subst e1 e2;decide
   |i+2,e1,e2=>simp at e2
 |i+1,ht,hl=>simp[bS]at ht
theorem Zq:oY U1 bQ=[[nV 2,nV 10],[nV 3,nV 20]]:=by rfl
theorem Mt{s:Sl}{l:List VV}(r:aX h s 3 (l.map VV.enc))(hl:l.length<=1000):cF h s l:=⟨⟨l,r,rfl,λi x hx=>⟨x,hx,rfl⟩⟩,aC⟩
theorem Ur:Sound Tryz.prog 23 WU:=by
 refine Fu Tryz.func23 ?_;rintro cvs m h K ⟨rfl,ht,hK⟩;refine⟨dL [(61,Tm),(21,WB),(34,FY)] [] [] [] false,rfl,aD Ui (aD Lt (aD GB aF)),JP m h (kD h K),by kernel_rfl,?_⟩;show JP m h (kD h K);dsimp only[JP,push_cast];intro s1 h1 le1 r1;refine⟨1,rfl,10,rfl,2,rfl,10,rfl,3,rfl,20,rfl,?_⟩;intro s2 h2 le2 r2 s3 h3 le3 r3 s4 h4 le4 r4 s5 h5 le5 r5 s6 h6 le6 r6 s7 h7 le7 r7 s8 h8 le8 r8 s9 h9 le9 r9 sa ha lea ra;have l9:=le9.trans lea;have l8:=le8.trans l9;have l7:=le7.trans l8;have l6:=le6.trans l7;have l5:=le5.trans l6;have l4:=le4.trans l5;have l3:=le3.trans l4;have l2:=le2.trans l3;have rs:cN ha Wo ⟨1,0,fF,bM,bM,bM,bM,0,bM⟩:=Af ha 0;have so:iI ha s9 [(0,true)]:=⟨r9.mono lea,by simp⟩
 have rq:cN ha bQ ⟨9,0,fF,bM,bM,s8,s9,1,sa⟩:=nI.rep ⟨rfl,rfl,wV ha,gX ha,oG ha,⟨r8.mono l9,by simp⟩,so,rfl,wW (v:=⟨1,0,fF,bM,bM,bM,bM,0,bM⟩) ra rs⟩;have rt:G8 ha ⟨⟨⟨[116,97,115,107,115]⟩⟩,[⟨⟨⟨[105,100]⟩⟩,4⟩,⟨⟨⟨[112,114,111,106,101,99,116]⟩⟩,4⟩],1,[],[]⟩ ⟨⟨⟨[116,97,115,107,115]⟩⟩,s1,1,bM,bM⟩:=⟨rfl,FL (l:=[⟨_,_⟩,⟨_,_⟩]) (r1.mono l2) (by simp),rfl,bU.nil _ _ _ _,bU.nil _ _ _ _⟩
 have rS:fV ha bS ⟨0,s6⟩:=⟨rfl,⟨⟨[⟨⟨⟨[116,97,115,107,115]⟩⟩,s1,1,bM,bM⟩],r6.mono l7,rfl,λi x e=>by
  match i,e with
  |0,e=>simp[bS]at e;subst e;exact⟨_,rfl,rt⟩
  |i+1,e=>simp[bS]at e⟩,by simp[bS]⟩⟩
 have v1:cF ha s2 [nV 1,nV 10]:=Mt (r2.mono l3) (by simp);have v2:cF ha s3 [nV 2,nV 10]:=Mt (r3.mono l4) (by simp);have v3:cF ha s4 [nV 3,nV 20]:=Mt (r4.mono l5) (by simp)
 have rr:Rows ha s5 [[nV 1,nV 10],[nV 2,nV 10],[nV 3,nV 20]]:=⟨⟨[s2,s3,s4],r5.mono l6,rfl,λi x e=>by
  match i,e with
  |0,e=>simp at e;subst e;exact⟨_,rfl,v1⟩
  |1,e=>simp at e;subst e;exact⟨_,rfl,v2⟩
  |2,e=>simp at e;subst e;exact⟨_,rfl,v3⟩
  |i+3,e=>simp at e⟩,by simp⟩
 have rst:Nz ha s7 U1:=⟨⟨⟨[s5],r7.mono l8,rfl,λi x e=>by
  match i,e with
  |0,e=>simp[U1]at e;subst e;exact⟨_,rfl,rr⟩
  |i+1,e=>simp[U1]at e⟩,by simp[U1]⟩,by simp[U1],λl hl r hr v hv=>by
   simp[U1]at hl;subst hl;simp at hr;rcases hr with rfl|rfl|rfl<;>simp at hv<;>rcases hv with rfl|rfl<;>exact⟨by constructor<;>decide,by constructor<;>decide⟩⟩
 have hres:Ga bS U1 bQ=([[nV 2,nV 10],[nV 3,nV 20]],0):=by
  unfold Ga;rw[Zr,if_neg (by simp),if_neg (by simp[Zd]),Zq]
 refine⟨⟨0,s6⟩,bS,s7,U1,⟨9,0,fF,bM,bM,s8,s9,1,sa⟩,bQ,rfl,rS,rst,rq,by rfl,ht,λ_ _=>⟨3,by decide,λl hl=>by simp[U1]at hl;subst hl;simp,by decide⟩,λs' hb leb hr=>?_⟩;rw[hres]at hr⊢
 dsimp only at hr⊢
 have hrl:=bU.slen hr;have hrl:s'.len=2:=hrl;obtain⟨b1,o1,u1,ea1,rd1,hv1⟩:=bU.at hr (i:=0) rfl;obtain⟨b2,o2,u2,ea2,rd2,hv2⟩:=bU.at hr (i:=1) rfl;obtain⟨b3,o3,x1,ea3,rd3,e3⟩:=bU.at hv1 (i:=0) rfl;obtain⟨b4,o4,x2,ea4,rd4,e4⟩:=bU.at hv2 (i:=0) rfl;subst e3 e4;have n1:u1.len=2:=bU.slen hv1;have n2:u2.len=2:=bU.slen hv2;have eq2:∀v:VV,UL v v=true:=λv=>by simp[UL]
 have rd1:aY hb b1 (o1+0) [dT u1]:=rd1;have rd2:aY hb b2 (o2+1) [dT u2]:=rd2;have rd3:aY hb b3 (o3+0) (VV.enc (nV 2)):=by simpa using rd3
 have rd4:aY hb b4 (o4+0) (VV.enc (nV 3)):=by simpa using rd4
 have hc:j8 [(0,true)] [nV 2,nV 10] [nV 3,nV 20]=1:=by decide
 refine aB (λ_=>aB (λ_=>⟨b1,o1,ea1,aC,aC,u1,.imm rd1,b3,o3,ea3,aC,aC,nV 2,.imm rd3,rd1,rd3,2,rfl,_,FC (nV 2) (nV 2),aB (λ_=>⟨b2,o2,ea2,aC,aC,u2,.imm rd2,b4,o4,ea4,aC,aC,nV 3,.imm rd4,rd1,rd3,rd2,rd4,3,rfl,_,FC (nV 3) (nV 3),aB (λ_=>⟨b1,o1,ea1,aC,aC,u1,.imm rd1,b2,o2,ea2,aC,aC,u2,.imm rd2,rd1,rd3,rd2,rd4,s9,u1,u2,[(0,true)],_,_,rfl,so.mono leb,hv1,hv2,?_⟩) (λe=>?_)⟩) (λe=>?_)⟩) (λe=>?_)) (λe=>?_)
 .rw[hc];exact .out (Sub.refl m) ((le1.trans l2).trans leb) hK
 .rw[eq2]at e;cases e
 .rw[eq2]at e;cases e
 .rw[hrl]at e;cases e
 .cases e
abbrev Rel:=List (List VV)
def TG(a b:Rel):Rel:=Ae (a++b)
def TQ(a b:Rel):Rel:=a.filter λx=>SG b x==false
def TX(a b:Rel):Rel:=a.filter λx=>SG b x==true
theorem Xe{l:Rel}{x:List VV}:SG l x=false↔x∉l:=by
 rw[<-IB];cases SG l x<;>simp
theorem W8{a b:Rel}{x:List VV}:x∈TG a b↔x∈a\/x∈b:=by simp[TG,BX]
theorem W9{a b:Rel}{x:List VV}:x∈TQ a b↔x∈a/\x∉b:=by simp only[TQ,List.mem_filter,beq_iff_eq,Xe]
theorem Xa{a b:Rel}{x:List VV}:x∈TX a b↔x∈a/\x∈b:=by simp only[TX,List.mem_filter,beq_iff_eq,IB]
theorem Sp(a b:Rel):lN (TG a b):=yA _
theorem Sq{a:Rel}(b:Rel)(h:lN a):lN (TQ a b):=h.filter _
theorem Sr{a:Rel}(b:Rel)(h:lN a):lN (TX a b):=h.filter _
theorem Xk(p:List VV->Bool)(a b:Rel):(TG a b).filter p=TG (a.filter p) (b.filter p):=xB ((Sp _ _).filter _) (Sp _ _) λy=>by
 simp only[List.mem_filter,W8];exact⟨λh=>h.1.imp (⟨·,h.2⟩) (⟨·,h.2⟩),λh=>h.elim (λh=>⟨.inl h.1,h.2⟩) (λh=>⟨.inr h.1,h.2⟩)⟩
theorem Xl(p:List VV->Bool){a:Rel}(b:Rel)(h:lN a):(TQ a b).filter p=TQ (a.filter p) (b.filter p):=xB ((Sq _ h).filter _) (Sq _ (h.filter _)) λy=>by
 simp only[List.mem_filter,W9];exact⟨λh=>⟨⟨h.1.1,h.2⟩,λh2=>h.1.2 h2.1⟩,λh=>⟨⟨h.1.1,λh2=>h.2 ⟨h2,h.1.2⟩⟩,h.1.2⟩⟩
theorem Xm(p:List VV->Bool){a:Rel}(b:Rel)(h:lN a):(TX a b).filter p=TX (a.filter p) (b.filter p):=xB ((Sr _ h).filter _) (Sr _ (h.filter _)) λy=>by
 simp only[List.mem_filter,Xa];exact⟨λh=>⟨⟨h.1.1,h.2⟩,h.1.2,h.2⟩,λh=>⟨⟨h.1.1,h.2.1⟩,h.1.2⟩⟩
theorem Vv(p r:List VV->Bool)(a:Rel):(a.filter r).filter p=(a.filter p).filter r:=by
 rw[List.filter_filter,List.filter_filter];congr 1;funext x;exact Bool.and_comm _ _
def ZH:Vc.Spec:=λcvs m h K=>∃s cs,cvs=[cS s]/\aX h s 1 (bH cs)/\s.len<=s.cap/\jZ m/\∀m' h',Sub m m'->K (cB true) m' h'
noncomputable def Oz:List (Nat×Vc.Spec):=[(11,Zx),(12,WE),(13,R9 5),(25,CD),(26,NB),(30,xU),(14,Wv),(27,YD),(28,NA),(29,YP),(24,Yz),(23,WU),(15,FX),(16,Ku)]
theorem TS:∀g S,assoc Oz g=some S->Sound Tryz.prog g S:=aD UH (aD UG (aD (SY 5) (aD Lq (aD Lp (aD Dq (aD UD (aD Up (aD Lo (aD Uo (aD Uq (aD Ur (aD Gs (aD wY aF)))))))))))))
def Sb(k:List Int):Prop:=k≠[]/\FZ k
theorem La{kss:List (List Int)}(h:∀k∈kss,Sb k)(hi:i<kss.length):Sb (kss.getD i []):=by
 rw[List.getD_eq_getElem?_getD,List.getElem?_eq_getElem hi];exact h _ (List.getElem_mem hi)
mutual
theorem OA{s:nS}{ps:List Int}(hk:Wy s)(hc:∀t∈s.tables,t.columns≠[]):∀{q:Query}{ks:List Int},bO s ps q=(ks,0)->Sb ks
 |.mk op ta w co on gr od li args,ks,h=>by
  obtain⟨kss,h1,h2,h3⟩:=xP h;have ih:=K3 hk hc h1;have ar:arity op=1\/arity op=2->Sb (kss.getD 0 []):=λe=>La ih aC;have ar2:arity op=2->Sb (kss.getD 1 []):=λe=>La ih aC;unfold hZ at h3;dsimp only at h3;split at h3
  .simp[iR]at h3
  rename_i hn;have hpos:0<=arity op:=by have:¬arity op<0:=λe=>hn (.inl e);omega
  split at h3
  .rename_i e1;subst e1;split at h3
   .rename_i h4;obtain⟨rfl,_⟩:=j6 h3;refine⟨λe=>?_,hk ta⟩;have ht:ta.toNat<s.tables.length:=by omega
    rw[gT,if_neg aC,List.getElem?_eq_getElem ht]at e;exact hc _ (List.getElem_mem ht) (List.map_eq_nil_iff.1 e)
   .simp[iR]at h3
  .rename_i e1
   have h12:arity op=1\/arity op=2:=by
    unfold arity at hpos⊢
    split
    .rename_i e;simp at e;exact absurd e e1
    .split
     .exact .inl rfl
     .split
      .exact .inr rfl
      .rename_i a b c;rw[if_neg a,if_neg b,if_neg c]at hpos;omega
   have k0:=ar h12;split at h3
   .split at h3
    .obtain⟨rfl,_⟩:=j6 h3;exact k0
    .rename_i e;simp only[iR,Prod.mk.injEq]at h3;exact absurd h3.2 e
   split at h3
   .split at h3
    .rename_i hg;obtain⟨rfl,_⟩:=j6 h3;refine⟨λe=>hg.1 (List.map_eq_nil_iff.1 e),λk hkm=>?_⟩;obtain⟨c,hcm,rfl⟩:=List.mem_map.1 hkm;obtain⟨_,h5⟩:=Cq hg.2 hcm;have h5:=JE h5;rw[List.getD_eq_getElem?_getD,List.getElem?_eq_getElem aC];exact k0.2 _ (List.getElem_mem _)
    .simp[iR]at h3
   split at h3
   .rename_i e4;subst e4;split at h3
    .obtain⟨rfl,_⟩:=j6 h3;refine⟨λe=>k0.1 (List.append_eq_nil_iff.1 e).1,λk hkm=>?_⟩;rcases List.mem_append.1 hkm with hkm|hkm
     .exact k0.2 k hkm
     .exact(ar2 rfl).2 k hkm
    .simp[iR]at h3
   all_goals
    repeat' split at h3
    all_goals first
     |(obtain⟨rfl,_⟩:=j6 h3;exact k0)
     |(simp[iR]at h3;done)
theorem K3{s:nS}{ps:List Int}(hk:Wy s)(hc:∀t∈s.tables,t.columns≠[]):∀{qs:List Query}{kss:List (List Int)},eU s ps qs=(kss,0)->∀k∈kss,Sb k
 |[],kss,h,k,hkm=>by rw[eU]at h;simp only[Prod.mk.injEq,and_true]at h;subst h;simp at hkm
 |q::qs,kss,h,k,hkm=>by
  obtain⟨k1,kss',h1,h2,rfl⟩:=jQ h;rcases List.mem_cons.1 hkm with rfl|hkm
  .exact OA hk hc h1
  .exact K3 hk hc h2 k hkm
end
theorem Om(h:oE s){ks:List Int}(hq:bO s ps q=(ks,0)):Sb ks:=OA (Jb h) (λt ht e=>by have:=(Gb h ht).2.1;rw[e]at this;simp at this) hq
def Ou(o:Int)(a b:Query):Query:=.mk o 0 gV [] [] [] [] 0 [a,b]
def Ap(p:Pred)(a:Query):Query:=.mk 2 0 p [] [] [] [] 0 [a]
structure FW(s:nS)(h:PH)(v:QV)(q:Query)(k:List Int)(b:Nat):Prop where
 rep:cN h q v
 kin:bO s [] q=(k,0)
 bnd:lZ 4 q<=b
theorem FW.mono{k:List Int}{b':Nat}(x:FW s h v q k b)(le:PH.le h h')(hb:b<=b'):FW s h' v q k b':=⟨x.rep.mono le,x.kin,Nat.le_trans x.bnd hb⟩
theorem TT{k:List Int}{o:Int}{a b:Query}(ho:o=6\/o=7\/o=8)(ha:bO s ps a=(k,0))(hb:bO s ps b=(k,0))(hk:k.length<=12):bO s ps (Ou o a b)=(k,0):=by
 have e:arity o=2:=by rcases ho with rfl|rfl|rfl<;>rfl
 rw[Ou,K4 e ha hb];unfold hZ;rw[if_neg (by simp[dE,e])];dsimp only;rw[if_neg aC,if_neg aC,if_neg aC,if_neg aC,if_neg aC,if_neg aC,if_neg aC,if_pos rfl,Dk hk]
theorem I7{s:Sl}{w:QV}{p:Query}(r:aX h s 21 [QV.enc v,QV.enc w])(hq:cN h q v)(hp:cN h p w):zG h s [q,p]:=⟨⟨[v,w],r,rfl,λi x e=>by
 match i,e with
 |0,e=>simp at e;subst e;exact⟨v,rfl,hq⟩
 |1,e=>simp at e;subst e;exact⟨w,rfl,hp⟩
 |i+2,e=>simp at e⟩,by simp⟩
theorem YZ{o:Int}{s:Sl}{w:QV}{p:Query}(r:aX h s 21 [QV.enc v,QV.enc w])(hq:cN h q v)(hp:cN h p w):cN h (Ou o q p) ⟨o,0,fF,bM,bM,bM,bM,0,s⟩:=
 nI.rep ⟨rfl,rfl,wV h,gX h,oG h,gX h,qN h,rfl,I7 r hq hp⟩
theorem FW.op{o:Int}{sl:Sl}{w:QV}{a c:Query}{k:List Int}{b':Nat}(x:FW s h v a k b)(y:FW s h w c k b')(ho:o=6\/o=7\/o=8)(le:PH.le h h')(r:aX h' sl 21 [QV.enc v,QV.enc w]):FW s h' ⟨o,0,fF,bM,bM,bM,bM,0,sl⟩ (Ou o a c) k (b+b'):=
 ⟨YZ r (x.rep.mono le) (y.rep.mono le),TT ho x.kin y.kin (by have:=tH s [] a;rw[x.kin]at this;exact this),by
  have h1:=x.bnd;have h2:=y.bnd;simp only[Ou,lZ,vO];rw[if_neg aC,if_neg aC];omega⟩
theorem OJ{st:List (List (List VV))}(hp:oE s)(h:G7 s st):sN s st=0:=by
 obtain⟨hse,hne⟩:=EI hp;have h8:=AF hse;have hl:=h.len
 have hsum:∀l:List (List (List VV)),(∀x∈l,x.length<=4)->(l.map λx=>(x.length:Int)).sum<=4*(l.length:Int):=λl=>by
  induction l with
  |nil=>intro _;simp
  |cons a l ih=>
   intro hx;have:=ih λx h=>hx x (List.mem_cons_of_mem _ h);have:=hx a (List.mem_cons_self ..);simp only[List.map_cons,List.sum_cons,List.length_cons];omega
 have:=hsum st h.few;unfold sN;rw[if_neg (by simp[hse]),if_neg aC,if_neg (by simp[hl]),if_pos h.ok]
theorem FW.res{k:List Int}{st:List (List (List VV))}(x:FW s h v q k b)(hp:oE s)(hst:G7 s st)(hs:kZ q=true):Ga s st q=(oY st q,0):=by
 unfold Ga;rw[I8 (EI hp).1 hs x.kin,if_neg (by simp),if_neg (by simp[OJ hp hst])]
theorem FW.bok{k:List Int}{st:List (List (List VV))}(x:FW s h v q k b)(hst:G7 s st)(hb:b<=1000000):Tz st q:=⟨4,aC,hst.few,Nat.le_trans x.bnd hb⟩
theorem FW.rel{k:List Int}{st:List (List (List VV))}(x:FW s h v q k b)(hp:oE s)(hst:G7 s st)(hb:b<=1000000):iH k.length (oY st q):=(Va (OJ hp hst) hst.val hst.few aC x.kin (Nat.le_trans x.bnd hb)).2.2.1
theorem WY(st:List (List (List VV)))(a b:Query):oY st (Ou 6 a b)=TG (oY st a) (oY st b):=by
 rw[Ou,oY,if_neg (by decide)];rfl
theorem WZ(st:List (List (List VV)))(a b:Query):oY st (Ou 7 a b)=TQ (oY st a) (oY st b):=by
 rw[Ou,oY,if_neg (by decide)];rfl
theorem W0(st:List (List (List VV)))(a b:Query):oY st (Ou 8 a b)=TX (oY st a) (oY st b):=by
 rw[Ou,oY,if_neg (by decide)];rfl
theorem HV(st:List (List (List VV)))(p:Pred)(a:Query):oY st (Ap p a)=(oY st a).filter λr=>j7 r p:=by
 rw[Ap,oY,if_neg (by decide)];rfl
theorem FW.of{d:Nat}(r:cN h q v)(e:(fG s [] q).2=0)(f:KI d q):FW s h v q (fG s [] q).1 (gB d):=by
 obtain⟨h1,h2,h3,h4⟩:=Hk e;have e2:bO s [] q=((bO s [] q).1,0):=Prod.ext rfl h4;have e3:=I8 h1 h3 e2;exact⟨r,by rw[e3];exact e2,f.b⟩
theorem jZ.new(ht:jZ m)(hc:m cb=none)(o:bB m m' cb):jZ m':=by
 obtain⟨T,fz,e⟩:=ht;refine⟨T,fz,?_⟩;rw[o.other 1 (λe2=>by rw[<-e2,e]at hc;cases hc)];exact e
noncomputable def f5_ctx:Ctx:=uW Oz
 [(11,{A:=Nat×bJ×QV×QV×PV×Sl×QV×QV×MH×PH,st:=λ⟨i,sc,a,b,p,st,fa,fb,m,h⟩=>cD 92 93 [(4,.at (.ptr 4 0)),(5,.at (.ptr 5 0)),(8,.at (.ptr 8 0)),(9,.at (.ptr 9 0)),(10,.at (.ptr 10 0)),(11,.at (.ptr 11 0)),(12,.at (.ptr 12 0)),(50,.at (.lst 50)),(51,iv 4),(52,iv i)] [(4,.cells 43 (sc.enc.map .val)),(5,.cells 38 (a.enc.map .val)),(8,.cells 38 (b.enc.map .val)),(9,.cells 32 (p.enc.map .val)),(10,.cells 25 [.val (.slice st.a st.len st.cap)]),(11,.cells 38 (fa.enc.map .val)),(12,.cells 38 (fb.enc.map .val)),(50,.lst 3 1 ([6,7,8,5].map eI))] m h})]
 [(7,{A:=Nat×bJ×QV×QV×PV×MH×PH,st:=λ⟨cb,sc,a,b,p,m,h⟩=>cD 92 93 [(3,pv cb),(4,.at (.ptr 4 0)),(5,.at (.ptr 5 0)),(8,.at (.ptr 8 0)),(9,.at (.ptr 9 0))] [(4,.cells 43 (sc.enc.map .val)),(5,.cells 38 (a.enc.map .val)),(8,.cells 38 (b.enc.map .val)),(9,.cells 32 (p.enc.map .val))] m h}),
  (14,{A:=Int×QV×QV×Nat×bJ×QV×QV×PV×Sl×QV×QV×MH×PH,st:=λ⟨o,x,y,i,sc,a,b,p,st,fa,fb,m,h⟩=>cD 92 93 [(4,.at (.ptr 4 0)),(5,.at (.ptr 5 0)),(8,.at (.ptr 8 0)),(9,.at (.ptr 9 0)),(10,.at (.ptr 10 0)),(11,.at (.ptr 11 0)),(12,.at (.ptr 12 0)),(14,iv o),(15,.at (.ptr 15 0)),(16,.at (.ptr 16 0)),(50,.at (.lst 50)),(51,iv 4),(52,iv i)] [(4,.cells 43 (sc.enc.map .val)),(5,.cells 38 (a.enc.map .val)),(8,.cells 38 (b.enc.map .val)),(9,.cells 32 (p.enc.map .val)),(10,.cells 25 [.val (.slice st.a st.len st.cap)]),(11,.cells 38 (fa.enc.map .val)),(12,.cells 38 (fb.enc.map .val)),(15,.cells 38 (x.enc.map .val)),(16,.cells 38 (y.enc.map .val)),(50,.lst 3 1 ([6,7,8,5].map eI))] m h}),
  (18,{A:=QV×QV×Nat×bJ×QV×QV×PV×Sl×QV×QV×MH×PH,st:=λ⟨x,y,i,sc,a,b,p,st,fa,fb,m,h⟩=>cD 92 93 [(4,.at (.ptr 4 0)),(5,.at (.ptr 5 0)),(8,.at (.ptr 8 0)),(9,.at (.ptr 9 0)),(10,.at (.ptr 10 0)),(11,.at (.ptr 11 0)),(12,.at (.ptr 12 0)),(15,.at (.ptr 15 0)),(16,.at (.ptr 16 0)),(50,.at (.lst 50)),(51,iv 4),(52,iv i)] [(4,.cells 43 (sc.enc.map .val)),(5,.cells 38 (a.enc.map .val)),(8,.cells 38 (b.enc.map .val)),(9,.cells 32 (p.enc.map .val)),(10,.cells 25 [.val (.slice st.a st.len st.cap)]),(11,.cells 38 (fa.enc.map .val)),(12,.cells 38 (fb.enc.map .val)),(15,.cells 38 (x.enc.map .val)),(16,.cells 38 (y.enc.map .val)),(50,.lst 3 1 ([6,7,8,5].map eI))] m h})] [] [100044,100048,100067,100078] [] false
set_option maxRecDepth 100000 in
noncomputable abbrev yQ(a:Nat×bJ×QV×QV×PV×MH×PH):MH×PH:=a.2.2.2.2.2
abbrev Fm(a:Prop)(b c:Nat)(d:Prop):Prop:=aA a (eP b) (aA (eP c) fI (aA (eP 9) hU (aA (eP 11) (eP 12) d)))
noncomputable abbrev vI(a:Nat×bJ×QV×QV×PV×Sl×QV×QV×MH×PH):bJ:=a.2.1
noncomputable abbrev vE(a:Nat×bJ×QV×QV×PV×Sl×QV×QV×MH×PH):QV:=a.2.2.2.1
noncomputable abbrev zS(a:Nat×bJ×QV×QV×PV×Sl×QV×QV×MH×PH):Option Go.Vc.Own:=tC a.2.2.2.2.1
noncomputable abbrev zT(a:Nat×bJ×QV×QV×PV×Sl×QV×QV×MH×PH):List At:=qJ a.2.2.2.2.2.1
noncomputable abbrev tB(a:Nat×bJ×QV×QV×PV×Sl×QV×QV×MH×PH):QV:=a.2.2.2.2.2.2.1
noncomputable abbrev vH(a:Nat×bJ×QV×QV×PV×Sl×QV×QV×MH×PH):QV:=a.2.2.2.2.2.2.2.1
abbrev Dg(a:Int):Prop:=eQ (Option.some (Own.lst 3 1 (cL 6::cL 7::cL 8::fE (cL a))))
noncomputable abbrev j5(a:Nat×bJ×QV×QV×PV×Sl×QV×QV×MH×PH):MH×PH:=a.2.2.2.2.2.2.2.2
abbrev C3(a:Int)(b:Nat×bJ×QV×QV×PV×Sl×QV×QV×MH×PH)(c:Int->Sl->PH->Prop):Prop:=Gi (λx x1=>∃(x2:QV),eD a::bK (bW b.2.2.1) (bW (vE b))=eD x::bK (bW x1) (bW x2)/\bZ (λx3 x4=>bE (j5 b).2 x4 (aX x4 x3 21 (mK x1.enc x2.enc)) (c x x3 x4)))
noncomputable abbrev iA(a:QV×QV×Nat×bJ×QV×QV×PV×Sl×QV×QV×MH×PH):Nat×bJ×QV×QV×PV×Sl×QV×QV×MH×PH:=a.2.2
noncomputable abbrev jT(a:Int×QV×QV×Nat×bJ×QV×QV×PV×Sl×QV×QV×MH×PH):Nat×bJ×QV×QV×PV×Sl×QV×QV×MH×PH:=iA a.2
abbrev Jq(a b:Nat×bJ×QV×QV×PV×Sl×QV×QV×MH×PH):Prop:=dA a.2.2.1 b.2.2.1
abbrev oL(a:Int×QV×QV×Nat×bJ×QV×QV×PV×Sl×QV×QV×MH×PH->Prop)(b:Int×QV×QV×Nat×bJ×QV×QV×PV×Sl×QV×QV×MH×PH)(c:Int)(d:Nat×bJ×QV×QV×PV×Sl×QV×QV×MH×PH)(e:Prop):Prop:=Fm (a b) 4 5 (aA (cG c b.1) (eP 15) (aA (eP 16) (eL 50) (aA (eQ (fN 4)) (bY d.1 (jT b).1) (aA (oQ 43 (fK (vI d))=oQ 43 (fK (vI (jT b)))) (Jq d (jT b)) e))))
abbrev oK(a:Nat×bJ×QV×QV×PV×Sl×QV×QV×MH×PH)(b:Int×QV×QV×Nat×bJ×QV×QV×PV×Sl×QV×QV×MH×PH)(c d e:Prop):Prop:=aA (dA (vE a) (vE (jT b))) (zS a=zS (jT b)) (aA (oQ 25 (zT a)=oQ 25 (zT (jT b))) (dA (tB a) (tB (jT b))) (aA (dA (vH a) (vH (jT b))) c (aA d (Dg 5) e)))
noncomputable abbrev lT(a:Int×QV×QV×Nat×bJ×QV×QV×PV×Sl×QV×QV×MH×PH):QV:=a.2.1
noncomputable abbrev nP(a:Int×QV×QV×Nat×bJ×QV×QV×PV×Sl×QV×QV×MH×PH):QV:=a.2.2.1
abbrev oP(a:Nat×bJ×QV×QV×PV×Sl×QV×QV×MH×PH)(b:Int×QV×QV×Nat×bJ×QV×QV×PV×Sl×QV×QV×MH×PH)(c:PH):Prop:=jE (j5 a).1 (j5 (jT b)) c
abbrev rR(a:Int)(b:Nat×bJ×QV×QV×PV×Sl×QV×QV×MH×PH)(c:PH)(d:Int->Sl->PH->(Int×QV×QV×Nat×bJ×QV×QV×PV×Sl×QV×QV×MH×PH)->Prop):Prop:=Gi (λx x1=>∃(x2:QV),eD a::bK (bW (tB b)) (bW (vH b))=eD x::bK (bW x1) (bW x2)/\bZ (λx3 x4=>bE c x4 (aX x4 x3 21 (mK x1.enc x2.enc)) (∃(x5:Int×QV×QV×Nat×bJ×QV×QV×PV×Sl×QV×QV×MH×PH),d x x3 x4 x5)))
noncomputable abbrev MW(a:QV×QV×Nat×bJ×QV×QV×PV×Sl×QV×QV×MH×PH):PV:=(iA a).2.2.2.2.1
attribute [push_cast] yQ Fm vI vE zS zT tB vH Dg j5 C3 iA jT Jq oL oK lT nP oP rR MW
def f5_nice(s:Sl)(m:MH)(h:PH)(K:CV->MH->PH->Prop):Prop:=
  ∃(s1:Sl)(c:List UInt8)(m1:Nat),aA (hX s 220=hX s1 (↑m1:Int)) (aX h s1 1 (bH c)) (aA (s1.len<=s1.cap) (mL m1) (∀(c1:Nat),eT (λm2 h1=>bE h h1 (Bk m c1) (aM (bB m m2 c1) (aK m2 h1 c1) (∃(c2:Nat),aA (jW (iL c1)=jW (iL c2)) (aK m2 h1 c2) (∀(s2:nS)(v:bJ),eT (λm3 h2=>aM (oE s2) (fV h2 s2 v) (bE h1 h2 (bB m2 m3 c2) (jG m3 h2 c2 (∃(c3:Nat),xJ (λs3 p=>BE (λs4 p1=>∃(d:Int),aA (Bx c1 0::bN v::cJ Cz 1=Bx c3 0::bN s3::hX p d) (aK m3 h2 c3) (aA (fV h2 s4 s3) (eE s4=0) (aA (jO (s4.tables=[])) (Ints h2 p p1) (aA (jI p1) (dV (Ea p1)) (aA (Int.negSucc 0<=d) (d<=1000) ((d+1).toNat<5/\D8 (λw q=>eT (λm4 h3=>bE h2 h3 (cN h3 q w) (aM (QW q) (xV
 d.toNat q) (aM ((fG s4 p1 q).2=0) (bB m3 m4 c3) (jG m4 h3 c3 (xJ (λs5 p2=>∃(v1:QV),BE (λs6 p3=>∃(q1:Query),aA (bN v::bK Cz (bW w)=bN s5::bK (dN p2) (bW v1)) (fV h3 s6 s5) (aA (Ints h3 p2 p3) (cN h3 q1 v1) (bZ (λs7 h4=>bE h3 h4 (Ints h4 s7 (fG s6 p3 q1).1) (∃(c4:Nat)(s8:bJ),iN (λp4 k=>∃(v2:QV)(s9:nS),nK (λp5 k1=>∃(q2:Query),aA (Bx c1 0::bN v::Cz::bK (dN s7) (bW w)=Bx c4 0::bN s8::dN p4::bK (dN k) (bW v2)) (aK m4 h4 c4) (aA (fV h4 s9 s8) (mW s9) (aA (mL s9.tables.length) (Ints h4 p4 p5) (aA (jI p5) (Ints h4 k k1) (aA (jI k1) (cN h4 q2 v2) (QW q2/\D8 (λw1 q3=>eT (λm5 h5=>bE h4 h5 (cN h5 q3 w1) (aM (P5 s9 p5 k1 q2 q3) (bB m4 m5 c4) (jG m5 h5 c4 (∃(I:Nat×
 bJ×QV×QV×PV×MH×PH->Prop),(∃(c5:Nat),v8 (Bx c1 0::dN s7::cJ Cz 2) c5 m5 h5 (λc6 p6 d1=>zW (λv3 p7=>eT (λm6 h6=>bE h5 h6 (dZ h6 p7 v3) (aM (sM c6 p6 d1 p7) (bB m5 m6 c5) (jG m6 h6 c5 (∃(x:Nat×bJ×QV×QV×PV×MH×PH),aA (I x) (cX c1 x.1) (aA (eP 4) fH (aA fI (eP 9) (aA (oQ 43 (fK v)=oQ 43 (fK x.2.1)) (dA w x.2.2.1) (aA (dA w1 x.2.2.2.1) (tC v3=tC x.2.2.2.2.1) (aA (cH m6 (yQ x)) (eJ h6 (yQ x)) True))))))))))))/\∀(x:Nat×bJ×QV×QV×PV×MH×PH),I x->∃(c5:Nat),lE (λv3 a=>aA (iL x.1::cJ (bN x.2.1) 3=iL c5::cJ (bN v3) 3) (aK (yQ x).1 (yQ x).2 c5) (aA (fV (yQ x).2 a v3) (oE a) (∀(a1:List (List (List VV)))(a2:Sl),eT (λm6 h6=>bE (yQ
 x).2 h6 (Nz h6 a2 a1) (aM (G7 a a1) (bB (yQ x).1 m6 c5) (jG m6 h6 c5 (bZ (λa3 h7=>bE h6 h7 (aX h7 a3 21 (fE x.2.2.1.enc)) (bZ (λa4 h8=>bE h7 h8 (aX h8 a4 21 (fE x.2.2.2.1.enc)) (∃(I1:Nat×bJ×QV×QV×PV×Sl×QV×QV×MH×PH->Prop)(m7:Nat×bJ×QV×QV×PV×Sl×QV×QV×MH×PH->Nat),(∃(x1:Nat×bJ×QV×QV×PV×Sl×QV×QV×MH×PH),Fm (I1 x1) 4 5 (aA (eL 50) (eQ (fN 4)) (aA (bD x1.1) (oQ 43 (fK x.2.1)=oQ 43 (fK (vI x1))) (aA (dA x.2.2.1 x1.2.2.1) (dA x.2.2.2.1 (vE x1)) (aA (tC x.2.2.2.2.1=zS x1) (oQ 25 (qJ a2)=oQ 25 (zT x1)) (aA (qB (dU (fP 2) (fP 0) (pQ x.2.2.2.2.1 (dU CB CB (dU CB CB (rJ 0 (xW a3)))))) (tB x1)) (qB (dU (fP 2) (fP 0) (pQ x.2.2.2.2.1 (dU CB CB (dU CB CB (rJ 0 (xW
 a4)))))) (vH x1)) (aA (Dg 5) (cH m6 (j5 x1)) (j3 h8 (j5 x1)))))))))/\∀(x1:Nat×bJ×QV×QV×PV×Sl×QV×QV×MH×PH),I1 x1->aZ (↑x1.1:Int) 4 (aA (cA (↑x1.1:Int)) ((↑x1.1:Int)<4) (∃(e:List Value),uK (cL 6::cL 7::cL 8::fE (cL 5)) (rA x1.1) e/\∃(y:Int),Di 1 0 e (cL y)/\∃(I2:Int×QV×QV×Nat×bJ×QV×QV×PV×Sl×QV×QV×MH×PH->Prop),aA (C3 y x1 (λo a5 h9=>aA (Gi (λo1 v4=>∃(w2:QV),eD y::bK (bW (tB x1)) (bW (vH x1))=eD o1::bK (bW v4) (bW w2)/\bZ (λa6 a7=>bE h9 a7 (aX a7 a6 21 (mK v4.enc w2.enc)) ((∃(x2:Int×QV×QV×Nat×bJ×QV×QV×PV×Sl×QV×QV×MH×PH),oL I2 x2 y x1 (oK x1 x2 (gA o a5 (lT x2)) (gA o1 a6 (nP x2)) (oP x1 x2 a7)))/\∃
 (x2:Int×QV×QV×Nat×bJ×QV×QV×PV×Sl×QV×QV×MH×PH),oL I2 x2 y x1 (oK x1 x2 (gA o a5 (lT x2)) (gA o1 a6 (nP x2)) (oP x1 x2 a7)))))) (rR y x1 h9 (λo1 a6 a7 x2=>oL I2 x2 y x1 (oK x1 x2 (gA o a5 (lT x2)) (gA o1 a6 (nP x2)) (oP x1 x2 a7)))/\rR y x1 h9 (λo1 a6 a7 x2=>oL I2 x2 y x1 (oK x1 x2 (gA o a5 (lT x2)) (gA o1 a6 (nP x2)) (oP x1 x2 a7)))) (rR y x1 h9 (λo1 a6 a7 x2=>oL I2 x2 y x1 (oK x1 x2 (gA o a5 (lT x2)) (gA o1 a6 (nP x2)) (oP x1 x2 a7)))/\rR y x1 h9 (λo1 a6 a7 x2=>oL I2 x2 y x1 (oK x1 x2 (gA o a5 (lT x2)) (gA o1 a6 (nP x2)) (oP x1 x2 a7)))))) (C3 y x1 (λo a5 h9=>rR y x1 h9 (λo1 a6 a7 x2=>oL I2 x2 y x1 (oK x1 x2 (gA o
 a5 (lT x2)) (gA o1 a6 (nP x2)) (oP x1 x2 a7)))/\rR y x1 h9 (λo1 a6 a7 x2=>oL I2 x2 y x1 (oK x1 x2 (gA o a5 (lT x2)) (gA o1 a6 (nP x2)) (oP x1 x2 a7))))/\C3 y x1 (λo a5 h9=>rR y x1 h9 (λo1 a6 a7 x2=>oL I2 x2 y x1 (oK x1 x2 (gA o a5 (lT x2)) (gA o1 a6 (nP x2)) (oP x1 x2 a7))))) (C3 y x1 (λo a5 h9=>rR y x1 h9 (λo1 a6 a7 x2=>oL I2 x2 y x1 (oK x1 x2 (gA o a5 (lT x2)) (gA o1 a6 (nP x2)) (oP x1 x2 a7)))/\rR y x1 h9 (λo1 a6 a7 x2=>oL I2 x2 y x1 (oK x1 x2 (gA o a5 (lT x2)) (gA o1 a6 (nP x2)) (oP x1 x2 a7))))/\C3 y x1 (λo a5 h9=>rR y x1 h9 (λo1 a6 a7 x2=>oL I2 x2 y x1 (oK x1 x2 (gA o a5 (lT x2)) (gA o1 a6 (nP x2)) (oP x1 x2
 a7)))))/\∀(x2:Int×QV×QV×Nat×bJ×QV×QV×PV×Sl×QV×QV×MH×PH),I2 x2->∃(I3:QV×QV×Nat×bJ×QV×QV×PV×Sl×QV×QV×MH×PH->Prop),dH x2.1 5 (bZ (λa5 h9=>bE (j5 (jT x2)).2 h9 (aX h9 a5 2 (fE (gL bC bC))) (Gi (λo v4=>∃(w2:QV),eD x2.1::bK (bW (tB (jT x2))) (bW (vE (jT x2)))=eD o::bK (bW v4) (bW w2)/\bZ (λa6 a7=>bE h9 a7 (aX a7 a6 21 (mK v4.enc w2.enc)) (∃(x3:QV×QV×Nat×bJ×QV×QV×PV×Sl×QV×QV×MH×PH),Fm (I3 x3) 4 5 (aA (eP 15) (eP 16) (aA (eL 50) (eQ (fN 4)) (aA (bY (jT x2).1 (iA x3).1) (oQ 43 (fK (vI (jT x2)))=oQ 43 (fK (vI (iA x3)))) (aA (Jq (jT x2) (iA x3)) (dA (vE (jT x2)) (vE (iA x3))) (aA (zS (jT x2)=zS (iA x3)) (oQ 25
 (zT (jT x2))=oQ 25 (zT (iA x3))) (aA (dA (tB (jT x2)) (tB (iA x3))) (dA (vH (jT x2)) (vH (iA x3))) (aA (qB (dU (fP (lT x2).op) (fP (lT x2).table) (AN (lT x2) a5 (Dc (lT x2) (rJ (lT x2).limit (xW (lT x2).args))))) x3.1) (qB (zX o (zX 0 (dU Ns (fP 0) (dU (fP 0) (fP 0) (dU (fP 0) Ns (dU CB CB (dU (xW a5) CB (dU CB (fP 0) (qJ a6))))))))) x3.2.1) (aA (Dg 5) (cH (j5 (jT x2)).1 (j5 (iA x3))) (j3 a7 (j5 (iA x3))))))))))))))))) (∃(x3:QV×QV×Nat×bJ×QV×QV×PV×Sl×QV×QV×MH×PH),Fm (I3 x3) 4 5 (aA (eP 15) (eP 16) (aA (eL 50) (eQ (fN 4)) (aA (bY (jT x2).1 (iA x3).1) (oQ 43 (fK (vI (jT x2)))=oQ 43 (fK (vI (iA x3)))) (aA (Jq (jT x2) (iA x3)) (dA
 (vE (jT x2)) (vE (iA x3))) (aA (zS (jT x2)=zS (iA x3)) (oQ 25 (zT (jT x2))=oQ 25 (zT (iA x3))) (aA (dA (tB (jT x2)) (tB (iA x3))) (dA (vH (jT x2)) (vH (iA x3))) (aA (dA (lT x2) x3.1) (dA (nP x2) x3.2.1) (aA (Dg 5) (cH (j5 (jT x2)).1 (j5 (iA x3))) (j3 (j5 (jT x2)).2 (j5 (iA x3))))))))))))/\∀(x3:QV×QV×Nat×bJ×QV×QV×PV×Sl×QV×QV×MH×PH),I3 x3->bZ (λa5 h9=>bE (j5 (iA x3)).2 h9 (aX h9 a5 21 (fE x3.1.enc)) (E7 (bN (vI (iA x3))::bK (lF (aU (iA x3).2.2.2.2.2.1)) (Ik 2 (MW x3) (Dd (MW x3) a5))) h9 (j5 (iA x3)).1 (λa6 a7 q4=>bZ (λa8 a9=>bE h9 a9 (Rows a9 a8 (Ga a6 a7 q4).1) (E7 (bN (vI (iA x3))::bK (lF (aU
 (iA x3).2.2.2.2.2.1)) (bW x3.2.1)) a9 (j5 (iA x3)).1 (λb b1 q5=>bZ (λb2 b3=>bE a9 b3 (Rows b3 b2 (Ga b b1 q5).1) (iN (λb4 t=>∃(b5 b6:List (List VV)),j2 (jP a8 b2) (jP b4 t) (Rows b3 b4 b5) (Rows b3 t b6) (λr=>fT (dV r↔b5=b6) (!r) (K aW (j5 (iA x3)).1 b3) (∃(x4:Nat×bJ×QV×QV×PV×Sl×QV×QV×MH×PH),aA (I1 x4) (m7 x4<m7 x1) (aA (eP 4) fH (aA fI (eP 9) (aA hU (eP 11) (aA (eP 12) (eL 50) (aA (eQ (fN 4)) (fN (bG (iA x3).1 1)=bV x4.1) (aA (oQ 43 (fK (vI (iA x3)))=oQ 43 (fK (vI x4))) (Jq (iA x3) x4) (aA (dA (vE (iA x3)) (vE x4)) (zS (iA x3)=zS x4) (aA (oQ 25 (zT (iA x3))=oQ 25 (zT x4)) (dA (tB (iA x3)) (tB x4)) (aA (dA (vH (iA x3)) (vH x4)) (Dg 5)
 (jE (j5 (iA x3)).1 (j5 x4) b3))))))))))))))))))))))) (aA (([]:List CV)=[]) (jZ (j5 x1).1) (K fJ (j5 x1).1 (j5 x1).2))))))))))))))))))))))))))))))))))))))))))))))))))))))
theorem FW.fil{sl:Sl}{p:PV}{a:Query}{pr:Pred}{k:List Int}(x:FW s h v a k b)(hp:dZ h pr p)(he:gI k [] pr=0)(le:PH.le h h')(r:aX h' sl 21 [QV.enc v]):FW s h' ⟨2,0,p,bM,bM,bM,bM,0,sl⟩ (Ap pr a) k b:=
 ⟨Ee (hp.mono le) (wW r (x.rep.mono le)),kinds_filter x.kin he (by have:=tH s [] a;rw[x.kin]at this;exact this),by
  have h1:=x.bnd;simp only[Ap,lZ,vO];rw[if_neg aC,if_neg aC];omega⟩
def BY(on:List (Int×Int))(a b:Query):Query:=.mk 5 0 gV [] on [] [] 0 [a,b]
theorem U9(st:List (List (List VV)))(on:List (Int×Int))(a b:Query):oY st (BY on a b)=(oY st a).filter λx=>(oY st b).any λy=>agree on x y:=by
 rw[BY,oY,if_neg (by decide)];rfl
theorem FW.semi{so sl:Sl}{w:QV}{a c:Query}{k:List Int}{b':Nat}(x:FW s h v a k b)(y:FW s h w c k b')(hk:k≠[])(le:PH.le h h')(ro:aX h' so 2 [[.int .i64 0,.int .i64 0]])(r:aX h' sl 21 [QV.enc v,QV.enc w]):FW s h' ⟨5,0,fF,bM,so,bM,bM,0,sl⟩ (BY [(0,0)] a c) k (b+b'):=
 ⟨nI.rep ⟨rfl,rfl,wV h',gX h',⟨ro,by simp⟩,gX h',qN h',rfl,I7 r (x.rep.mono le) (y.rep.mono le)⟩,by
  have hl:k.length<=12:=by have:=tH s [] a;rw[x.kin]at this;exact this
  rw[BY,K4 (by decide) x.kin y.kin];unfold hZ;rw[if_neg (by simp[dE,arity])];dsimp only;have hpos:0<k.length:=List.length_pos_iff.2 hk
  have hg:Good (zI k k) [(0,0)]:=λj z hz=>by
   match j,hz with
   |0,hz=>
    simp at hz;subst hz;refine⟨by simp[DK,hpos],by simp[DK,hpos],rfl,by simp⟩
   |j+1,hz=>simp at hz
  rw[if_neg aC,if_neg aC,if_neg aC,if_neg aC,if_pos rfl,if_pos hg,Dk hl],by
  have h1:=x.bnd;have h2:=y.bnd;simp only[BY,lZ,vO];rw[if_neg aC,if_neg aC];omega⟩
abbrev Zi(o:Int)(s:Sl):QV:=⟨o,0,fF,bM,bM,bM,bM,0,s⟩
abbrev Vw(p:PV)(s:Sl):QV:=⟨2,0,p,bM,bM,bM,bM,0,s⟩
structure Moved(s:nS)(h:PH)(k:List Int)(pr:Pred)(st:List (List (List VV)))(x y:QV):Prop where
 ex:∃qx qy,FW s h x qx k 1000/\FW s h y qy k 1000/\kZ (Ap pr qx)=true/\kZ qy=true/\oY st (Ap pr qx)=oY st qy
theorem f5_sound:Sound Tryz.prog 5 ZH:=by
 refine iB Tryz.func5 ?_;rintro cvs m h K ⟨s,cs,rfl,hr,hcap,ht,hK⟩;refine⟨f5_ctx,rfl,TS,f5_nice s m h K,by kernel_rfl,?_⟩;dsimp only[f5_nice,push_cast];refine⟨s,cs,220,rfl,hr,hcap,aC,λcb m1 h1 le1 hcb o1 c1=>⟨cb,rfl,c1,λsc v m2 h2 hpl rS le2 o2 c2=>?_⟩⟩;obtain⟨hse,hne⟩:=EI hpl;have h8t:=AF hse;have h8:=sU hse;refine⟨cb,v,bM,sc,[],1,rfl,c2,rS,hse,hne,gX _,by simp,by simp,aC,aC,by decide,λa qa m3 h3 le3 rq qw fq hq o3 c3=>⟨v,bM,a,sc,[],qa,rfl,rS.mono le3,gX _,rq,λks h4 le4 hks=>?_⟩⟩;have fq:xV 1 qa:=fq;have A0:=FW.of rq hq fq.arg;have hkl:=D1 sc [] qa;generalize (fG sc [] qa).1=kl at hks A0 hkl;obtain⟨kn,kc⟩:=Om hpl A0.kin;have hsk:=Jb hpl;have hcn:FZ []:=λk hk=>by simp at hk
 have c4:=c3.mono le4;have rS4:=rS.mono (le3.trans le4);have rq4:=rq.mono le4;have o4:=(o1.trans o2).trans o3;refine⟨cb,v,bM,ks,a,sc,[],kl,qa,rfl,c4,rS4,h8,aC,gX _,by simp,hks,aC,rq4,qw,λb qb m5 h5 le5 rb shb o5 c5=>?_⟩;refine⟨λz=>z.1=cb/\z.2.1=v/\z.2.2.1=a/\aK z.2.2.2.2.2.1 z.2.2.2.2.2.2 cb/\bB m z.2.2.2.2.2.1 cb/\PH.le h4 z.2.2.2.2.2.2/\∃qb pr,cN z.2.2.2.2.2.2 qb z.2.2.2.1/\dZ z.2.2.2.2.2.2 pr z.2.2.2.2.1/\P5 sc [] kl qa qb/\sM kl [] 2 pr,?_,?_⟩
 .refine⟨cb,ks,bM,kl,[],2,rfl,c5,hks.mono le5,gX _,aC,by simp,aC,λp pr m6 h6 le6 rp po o6 c6=>?_⟩;exact⟨(cb,v,a,b,p,m6,h6),⟨rfl,rfl,rfl,c6,(o4.trans o5).trans o6,le5.trans le6,qb,pr,rb.mono le6,rp,shb,po⟩,MT⟩
 rintro⟨cb',v',a',b,p,m6,h6⟩ ⟨e1,e2,e3,c6,o6,le6,qb,pr,rb,rp,shb,po⟩;dsimp only at e1 e2 e3 c6 o6 le6 rb rp⊢
 subst e1 e2 e3;refine⟨cb',v',sc,rfl,c6,rS4.mono le6,hpl,λst sl m7 h7 le7 hst good o7 c7 sa ha lea ra sb hb leb rbb=>?_⟩;have hm7:=o6.trans o7;have ht7:=ht.new hcb hm7;have hsub:Sub m m7:=λb o e=>by rw[hm7.other b (λe2=>by rw[e2,hcb]at e;cases e)];exact e
 have l7:=le6.trans le7;have he:gI kl [] pr=0:=po.valid (by decide) kc hcn;have lb:PH.le h7 hb:=lea.trans leb;have rp7:=rp.mono le7;have A7:FW sc h7 a' qa kl 16:=A0.mono (le4.trans l7) (by decide);have B7:FW sc h7 b qb kl 16:=⟨rb.mono le7,shb.kin hsk hcn kc kn hkl A7.kin,(shb.siz 1 fq).b⟩
 have FA:FW sc hb (Vw p sa) (Ap pr qa) kl 16:=(A7.fil rp7 he lea ra).mono leb (Nat.le_refl _);have FB:FW sc hb (Vw p sb) (Ap pr qb) kl 16:=(B7.mono lea (Nat.le_refl _)).fil (rp7.mono lea) he leb rbb;have A:=A7.mono lb (Nat.le_refl _);have B:=B7.mono lb (Nat.le_refl _);have P:=rp7.mono lb;have hstb:=hst.mono lb;have rSb:=(rS4.mono l7).mono lb;have na:=fq.arg.n;have da:=fq.arg.d;have nb:=(shb.siz 1 fq).n;have db:=(shb.siz 1 fq).d;simp only[gN,gD]at na da nb db;have SA:=(A.rel hpl good (by decide)).srt;generalize hfa:Vw p sa=fa at FA;generalize hfb:Vw p sb=fb at FB;refine⟨λz=>z.2.1=v'/\z.2.2.1=a'/\z.2.2.2.1=b/\z.2.2.2.2.1=p/\z.2.2.2.2.2.1=sl/\z.2.2.2.2.2.2.1=fa/\z.2.2.2.2.2.2.2.1=fb/\z.2.2.2.2.2.2.2.2.1=m7/\PH.le hb z.2.2.2.2.2.2.2.2.2/\z.1<=4,λz=>4-z.1,⟨(0,v',a',b,p,sl,fa,fb,m7,hb),⟨rfl,rfl,rfl,rfl,rfl,rfl,rfl,rfl,.refl _,by simp⟩,by rw[<-hfa, <-hfb];exact MT⟩,?_⟩;rintro⟨i,v2,a2,b2,p2,sl2,fa2,fb2,m8,hx⟩ ⟨e1,e2,e3,e4,e5,e6,e7,e8,lex,hi⟩;dsimp only at e1 e2 e3 e4 e5 e6 e7 e8 lex hi⊢
 subst e1 e2 e3 e4 e5 e6 e7 e8;clear hfa hfb;refine aE (λhlt=>?_) (λhge=>?_)
 .have hwr:IntKind.i64.wrap ((i:Int)+1)=((i+1:Nat):Int):=kE aC
  have ho:∃o:Int,([[.int .i64 6],[.int .i64 7],[.int .i64 8],[.int .i64 5]]:List (List Value))[((i:Int)).toNat]? =some [.int .i64 o]/\(o=6\/o=7\/o=8\/o=5):=by
   have:i=0\/i=1\/i=2\/i=3:=by omega
   rcases this with rfl|rfl|rfl|rfl
   .exact⟨6,rfl,by simp⟩
   .exact⟨7,rfl,by simp⟩
   .exact⟨8,rfl,by simp⟩
   .exact⟨5,rfl,by simp⟩
  obtain⟨o,ho1,ho2⟩:=ho;refine⟨aC,aC,_,ho1,o,rfl,λz=>∃hz sx sy,z=(o,Zi o sx,Zi o sy,i,v2,a2,b2,p2,sl2,fa2,fb2,m8,hz)/\PH.le hx hz/\aX hz sx 21 [QV.enc a2,QV.enc b2]/\aX hz sy 21 [QV.enc fa2,QV.enc fb2],?_,?_⟩
  .repeat' apply And.intro
   all_goals refine⟨o,a2,b2,rfl,λsx hy ley rx=>?_⟩
   all_goals repeat' apply And.intro
   all_goals refine⟨o,fa2,fb2,rfl,λsy hz lez ry=>?_⟩
   all_goals repeat' apply And.intro
   all_goals exact⟨(o,Zi o sx,Zi o sy,i,v2,a2,b2,p2,sl2,fa2,fb2,m8,hz),⟨hz,sx,sy,rfl,PH.le.trans ley lez,rx.mono lez,ry⟩,MT⟩
  rintro _ ⟨hz,sx,sy,rfl,lez,rx,ry⟩;dsimp only;have Lz:PH.le hb hz:=lex.trans lez;refine⟨λz=>∃x y hw,z=(x,y,i,v2,a2,b2,p2,sl2,fa2,fb2,m8,hw)/\PH.le hz hw/\Moved sc hw kl pr st x y,aB (λe=>?_) (λe=>?_),?_⟩
  .have e5:o=5:=by simpa using e
   subst e5;intro so h1 le1 ro;refine⟨5,fa2,b2,rfl,λs2 h2 le2 r2=>⟨(⟨5,0,fF,bM,so,bM,bM,0,sx⟩,⟨5,0,fF,bM,so,bM,bM,0,s2⟩,i,v2,a2,b2,p2,sl2,fa2,fb2,m8,h2),⟨_,_,_,rfl,le1.trans le2,⟨BY [(0,0)] qa qb,BY [(0,0)] (Ap pr qa) qb,?_,?_,?_,?_,?_⟩⟩,MT⟩⟩
   .exact((A.mono Lz (Nat.le_refl _)).semi (B.mono Lz (Nat.le_refl _)) kn (le1.trans le2) (ro.mono le2) (rx.mono (le1.trans le2))).mono (.refl _) (by decide)
   .exact((FA.mono Lz (Nat.le_refl _)).semi (B.mono Lz (Nat.le_refl _)) kn (le1.trans le2) (ro.mono le2) r2).mono (.refl _) (by decide)
   .exact EA (by simp only[Ap,BY,sK,oA];omega) (by simp only[Ap,BY,Bw,uV];omega)
   .exact EA (by simp only[Ap,BY,sK,oA];omega) (by simp only[Ap,BY,Bw,uV];omega)
   .simp only[HV,U9];exact Vv _ _ _
  .have ho3:o=6\/o=7\/o=8:=by
    rcases ho2 with h|h|h|h
    .exact .inl h
    .exact .inr (.inl h)
    .exact .inr (.inr h)
    .subst h;simp at e
   refine⟨(Zi o sx,Zi o sy,i,v2,a2,b2,p2,sl2,fa2,fb2,m8,hz),⟨_,_,_,rfl,.refl _,⟨Ou o qa qb,Ou o (Ap pr qa) (Ap pr qb),?_,?_,?_,?_,?_⟩⟩,MT⟩
   .exact((A.mono Lz (Nat.le_refl _)).op (B.mono Lz (Nat.le_refl _)) ho3 (.refl _) rx).mono (.refl _) (by decide)
   .exact((FA.mono Lz (Nat.le_refl _)).op (FB.mono Lz (Nat.le_refl _)) ho3 (.refl _) ry).mono (.refl _) (by decide)
   .exact EA (by simp only[Ap,Ou,sK,oA];omega) (by simp only[Ap,Ou,Bw,uV];omega)
   .exact EA (by simp only[Ap,Ou,sK,oA];omega) (by simp only[Ap,Ou,Bw,uV];omega)
   .rcases ho3 with rfl|rfl|rfl
    .simp only[HV,WY];exact Xk _ _ _
    .simp only[HV,WZ];exact Xl _ _ SA
    .simp only[HV,W0];exact Xm _ _ SA
  rintro _ ⟨x,y,hw,rfl,lew,⟨qx,qy,X,Y,s1,s2,hsem⟩⟩;dsimp only;intro sf h' le' rr;have L':PH.le hb h':=(Lz.trans lew).trans le';have F:=X.fil (P.mono (Lz.trans lew)) he le' rr;refine⟨v2,sc,sl2,st,Vw p2 sf,Ap pr qx,rfl,rSb.mono L',hstb.mono L',F.rep,s1,ht7,λ_ _=>F.bok good (by decide),λt1 h1 le1 hr1=>⟨v2,sc,sl2,st,y,qy,rfl,rSb.mono (L'.trans le1),hstb.mono (L'.trans le1),Y.rep.mono (le'.trans le1),s2,ht7,λ_ _=>Y.bok good (by decide),λt2 h2 le2 hr2=>?_⟩⟩;rw[F.res hpl good s1]at hr1;rw[Y.res hpl good s2]at hr2;refine⟨t1,t2,_,_,rfl,bU.mono hr1 le2 λr t hv=>cF.mono hv le2,hr2,λr hr=>aB (λe=>?_) (λ_=>?_)⟩
  .rw[hr.2 hsem]at e;cases e
  .rw[hwr];exact⟨(i+1,v2,a2,b2,p2,sl2,fa2,fb2,m8,h2),⟨rfl,rfl,rfl,rfl,rfl,rfl,rfl,rfl,L'.trans (le1.trans le2),by show i+1<=4;omega⟩,by show 4-(i+1)<4-i;omega,MT⟩
 .exact⟨rfl,ht7,hK _ _ hsub⟩
end Go.Ps
