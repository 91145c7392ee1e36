/-
  Part 9 of a proof that a law of the given program returns true: a condition generator that is proved sound, and contracts of functions. No condition of its own. Own work, joined by a program (pack2.py).
-/
import Derived.Test.YtileehgdfcknkaaGreatDoorKh
set_option linter.unusedVariables false
set_option linter.unusedSimpArgs false
namespace Go.Ps
open Go Go.Vc Go.Proofs
variable{K:CV->MH->PH->Prop}{m:MH}{h:PH}{s:pV}{ps:List Int}{cb:Nat}{sc:bH}{v:QV}{q:Query}{p:Pred}{l:List Int}{i:Nat}{N:Nat}{m':MH}{h':PH}{co:List Int}{gr:List Int}{od:List (Int×Bool)}{w:Pred}{ta:Int}{li:Int}{xs:List (List Value)}{sz:Nat}{k:Nat}{ks:List (List Int)}{rs:List Int}{r:Sl}{a:List Int}{b:Nat}
structure HV(s:pV)(st:List (List (List VV))):Prop where
 len:st.length=s.tables.length
 few:∀l∈st,l.length<=4
 ok:JP s st
 val:StV st
def XR:Vc.Spec:=λcvs m h K=>∃cb v s,cvs=[cP cb,aS v,cI 3]/\aJ m h cb/\gM h s v/\pS s/\∀st sl m' h',PH.le h h'->En h' sl st->HV s st->aL m m' cb->aJ m' h' cb->K (ZR sl) m' h'
noncomputable def Zk(cb:Nat)(v:bH):Ctx:=wH [(15,E9),(44,wN),(43,akZ),(46,X7),(45,alQ)]
 [(3,{A:=Nat×Sl×MH×PH,st:=λ⟨i,s,m,h⟩=>cE 51 54 [(0,pv cb),(2,iv 3),(4,.at (.ptr 4 0)),(6,.at (.ptr 6 0)),(7,.at (.ptr 7 0)),(18,iv v.tables.len),(19,iv i)] [(4,.cells 43 (v.enc.map .val)),(6,.cells 25 [.val cJ.val]),(7,.cells 25 [.val (.slice s.a s.len s.cap)])] m h}),
  (6,{A:=Nat×Int×Sl×MH×PH,st:=λ⟨i,n,s,m,h⟩=>cE 51 54 [(0,pv cb),(2,iv 3),(4,.at (.ptr 4 0)),(6,.at (.ptr 6 0)),(7,.at (.ptr 7 0)),(8,iv i),(9,iv n),(18,iv v.tables.len),(19,iv i)] [(4,.cells 43 (v.enc.map .val)),(6,.cells 25 [.val cJ.val]),(7,.cells 25 [.val (.slice s.a s.len s.cap)])] m h})] [] [] [2023] [] false
abbrev sT(a b:Sl):Prop:=oQ 25 (w8 a)=oQ 25 (w8 b)
noncomputable abbrev F6(a:Nat×Int×Sl×MH×PH):Nat->Nat->Option Value:=a.2.2.2.2
attribute [push_cast] sT F6
def KU(cb:Nat)(v:bH)(m:MH)(h:PH)(K:CV->MH->PH->Prop):Prop:=
  aA (cN (iG v)) (iG v<=iG v) (aA (pK (iG v*24)) (pK (iG v)) (iH (λs m1=>nY m m1 h s 53 1 (List.replicate (iG v).toNat iQ)->∃(I:Nat×Sl×MH×PH->Prop)(m2:Nat×Sl×MH×PH->Nat),(∃(x:Nat×Sl×MH×PH),aA (I x) (cV cb) (aA j8 (eP 4) (aA (eP 6) (eP 7) (aA (gV v) (bG x.1) (aA (cG v) pY (aA (sT s x.2.1) (cO m1 x.2.2) (kI h x.2.2)))))))/\∀(x:Nat×Sl×MH×PH),I x->bD (↑x.1:Int) (aG v.tables) (bZ cb 5 x.2.2.1 x.2.2.2 0 (λc k m3=>bC (aL x.2.2.1 m3 c) (aJ m3 x.2.2.2 c) (∃(I1:Nat×Int×Sl×MH×PH->Prop)(m4:Nat×Int×Sl×MH×PH->Nat),(∃(x1:Nat×Int×Sl×MH×PH),aA (I1 x1) (cV cb) (aA j8 (eP 4) (aA (eP 6) (eP 7) (aA (bY x.1 x1.1) (cZ k x1.2.1) (aA (gV v) (bY x.1 x1.1) (aA
 (cG v) pY (aH (sT x.2.1 x1.2.2.1) (cO m3 x1.2.2.2) (dO x.2.2.2 x1.2.2.2) True)))))))/\∀(x1:Nat×Int×Sl×MH×PH),I1 x1->fC x1.2.1 0 (aT (λb o=>aH (aU (qJ v) b o) (0<=(↑x1.1:Int)) ((↑x1.1:Int)<aG v.tables) (∃(y:Int),aA (aM x1.2.2.2.1 (F6 x1) b (bB o x1.1 5+2) (cK y)) (bF (F6 x1) b (bB o x1.1 5+2) (cK y)) (BP (bU (jM (bR v)) (↑x1.1:Int)) (F6 x1) (λs1 h1=>∃(c1:Nat)(s2:Sl)(k1:Int)(k2:List Int),aA (rX cb 0::dP s1 (bU (fK y) 3)=rX c1 0::dP s2 (bU (fK k1) 3)) (aJ x1.2.2.2.1 h1 c1) (aA (Ints h1 s2 k2) (gL k2) ((∀(k3:Int),List.Mem k3 k2->k3=3\/k3=4\/k3=5)/\∀(s3:Sl)(r:List VV),eA (λm5 h2=>dZ h1 h2 (cR h2 s3 r) (bC (OM k1 k2 r) (aL x1.2.2.2.1 m5 c1) (jG m5 h2 c1
 (jX (λv1 s4=>∃(t:Int),mD (λs5 r1=>aA (bT (bR v) (bI (fK (↑x1.1:Int)) (kU s3))=bT (bR v1) (bI (fK t) (kU s5))) (gM h2 s4 v1) (aA (cR h2 s5 r1) (yZ r1) (kP (λs6 h3=>dZ h2 h3 (cR h3 s6 (Gh s4 t r1)) (jX (λv2 s7=>aT (λt1 n=>Gc (λc2 u=>∃(u1:Sl)(t2:Nat)(t3:wJ)(r2:List (List VV)),mD (λs8 k3=>mD (λs9 r3=>aA (bT (bR v) (bT (aR x1.2.2.1) (fK (↑x1.1:Int)::gP s6 s3))=bT (bR v2) (bT (j6 (Value.slice (kZ t1) n c2)) (fK (↑t2:Int)::gP s8 s9))) (gM h3 s7 v2) (aA (Jm s7 t2 t3) (Wj m5 t1 u) (aA (n=u.length) (qA u t2 u1) (aA (Rows h3 u1 r2) (mX r2.length) (aA (BQ r2 (λr4=>yZ r4)) (cR h3 s8 k3) (aA (cR h3 s9 r3) (0<r3.length) (yZ r3/\∀(u2:Sl),eA (λm6
 h4=>dZ h3 h4 (Rows h4 u2 (yY t3 k3 r3 false r2)) (bC (Wj m6 t1 (List.set u t2 u2)) (aL m5 m6 t1) (∃(x2:Nat×Int×Sl×MH×PH),aA (I1 x2) (m4 x2<m4 x1) (aA (cV cb) j8 (aA (eP 4) (eP 6) (aA (eP 7) (bY x1.1 x2.1) (aA (cZ (eB (x1.2.1-1)) x2.2.1) (gV v) (aA (bY x1.1 x2.1) (cG v) (aA pY (oQ 25 (mF (At.val (Value.slice (kZ t1) n c2)))=oQ 25 (w8 x2.2.2.1)) (aA (cO m6 x2.2.2.2) (dO h4 x2.2.2.2) True)))))))))))))))))))))))))))))))))))))) (∃(x2:Nat×Sl×MH×PH),aA (I x2) (m2 x2<m2 x) (aA (cV cb) j8 (aA (eP 4) (eP 6) (aA (eP 7) (gV v) (aA (gS (aW x1.1 1)=bX x2.1) (cG v) (aA pY (sT x1.2.2.1 x2.2.1) (aA (cO x1.2.2.2.1 x2.2.2) (dO (F6 x1) x2.2.2) True)))))))))) (K (jM (aR x.2.1)) x.2.2.1 x.2.2.2))))
theorem dQ.iceB{m1:MH}{hx:PH}{r:CV}{tb:Nat}{cur:Array Value}{E:TypeId}(hcur:m1 tb=some (.cells cur E (0,0)))(le:PH.le h hx)(hK:∀h2,PH.le hx h2->(∀i,h2 tb i=cur[i]?)->K r (λb=>if b=tb then none else m1 b) h2):dQ h K r m1 hx:=by
 intro hdis;have hg0:∀i,hx tb i=none:=hdis tb _ hcur
 have hle3:PH.le hx (λx i=>if x=tb then cur[i]? else hx x i):=⟨λx i v e=>by
  have:x≠tb:=λe'=>by rw[e',hg0 i]at e;cases e
  simp[this,e]⟩
 refine⟨_,_,λb o e=>?_,le.trans hle3,λx i v e=>?_,hK _ hle3 (λi=>by simp)⟩
 .by_cases e':b=tb
  .simp[e']at e
  .simpa[e']using e
 .by_cases e':x=tb
  .subst e';simp at e;exact .inr ⟨cur,E,(0,0),hcur,e,by simp⟩
  .simp[e']at e;exact .inl e
structure ZE(h:PH)(s:pV)(m:MH)(tb:Nat)(us:List Sl)(st:List (List (List VV))):Prop where
 tbl:Wj m tb us
 ulen:us.length=s.tables.length
 slen:st.length=s.tables.length
 rows:∀(j:Nat) u l,us[j]? =some u->st[j]? =some l->Rows h u l
 ok:JP s st
 val:StV st
 few:∀l∈st,l.length<=4
theorem ZE.mono{tb:Nat}{us:List Sl}{st:List (List (List VV))}(x:ZE h s m tb us st)(le:PH.le h h')(e:m' tb=m tb):ZE h' s m' tb us st:=by
 obtain⟨cur,h1,h2,h3⟩:=x.tbl;exact⟨⟨cur,by rw[e];exact h1,h2,h3⟩,x.ulen,x.slen,λj u l a b=>bV.mono (x.rows j u l a b) le λr t hv=>cR.mono hv le,x.ok,x.val,x.few⟩
theorem Yy{t:wJ}{r:List VV}(h:OM t.key (t.columns.map mZ.kind) r):C4 t r=true:=by
 obtain⟨h1,_,h3⟩:=h;rw[List.length_map]at h1;refine C3.2 ⟨h1,λi hi=>?_⟩;have e1:r[i]? =some (r.getD i zeroV):=by rw[List.getD_eq_getElem?_getD,List.getElem?_eq_getElem hi];rfl
 refine h3 i _ _ e1 ?_;rw[List.getElem?_map,List.getD_eq_getElem?_getD,List.getElem?_eq_getElem aC];rfl
theorem WR{key k:Int}{v:VV}(h:yK key k i v=true)(hw:IL v):OJ v.kind/\OJ v.int:=by
 simp only[yK,Bool.and_eq_true]at h;have:=H2 h.1;exact⟨⟨aC,aC⟩,hw.int_⟩
theorem ZE.put{tb t:Nat}{us:List Sl}{st:List (List (List VV))}{u':Sl}{tab:wJ}{l:List (List VV)}{row:List VV}(x:ZE h s m tb us st)(le:PH.le h h')(ht:s.tables[t]? =some tab)(hl:st[t]? =some l)(hT:Wj m' tb (us.set t u'))(hr:Rows h' u' (yY tab (kF tab row) row false l))(hf:OM tab.key (tab.columns.map mZ.kind) row)(h4:l.length<=3):
 ZE h' s m' tb (us.set t u') (st.set t (yY tab (kF tab row) row false l)):=by
 have hfr:=Yy hf;have htl:=(List.getElem?_eq_some_iff.1 hl).1;have hok:=x.ok t tab l ht hl;refine⟨hT,by rw[List.length_set];exact x.ulen,by rw[List.length_set];exact x.slen,λj u l' hu hl'=>?_,λj t' l' ht' hl'=>?_,λl' hl'=>?_,λl' hl'=>?_⟩
 .by_cases e:t=j
  .subst e;rw[List.getElem?_set_self (by rw[x.ulen, <-x.slen];exact htl)]at hu;rw[List.getElem?_set_self htl]at hl';cases hu;cases hl';exact hr
  .rw[List.getElem?_set_ne e]at hu hl';exact bV.mono (x.rows j u l' hu hl') le λr t hv=>cR.mono hv le
 .by_cases e:t=j
  .subst e;rw[List.getElem?_set_self htl]at hl';rw[ht]at ht';cases hl';cases ht';refine⟨λr hr=>?_,λi r r' e1 e2=>(J6 (LJ.of hok.2)).adj i r r' e1 e2⟩;rcases IQ hr with rfl|hr
   .exact hfr
   .exact hok.1 r hr
  .rw[List.getElem?_set_ne e]at hl';exact x.ok j t' l' ht' hl'
 .rcases List.mem_or_eq_of_mem_set hl' with h5|rfl
  .exact x.val l' h5
  .intro r hr v hv;rcases IQ hr with rfl|hr
   .obtain⟨i,hi,rfl⟩:=List.mem_iff_getElem.1 hv;have hi2:i<(tab.columns.map mZ.kind).length:=by rw[<-hf.1];exact hi
    exact WR (hf.2.2 i _ _ (List.getElem?_eq_getElem hi) (List.getElem?_eq_getElem hi2)) (hf.2.1 _ hv)
   .exact x.val l (List.mem_of_getElem? hl) r hr v hv
 .rcases List.mem_or_eq_of_mem_set hl' with h5|rfl
  .exact x.few l' h5
  .have:=IS (t:=tab) (key:=kF tab row) (row:=row) (l:=l) (d:=false);simp at this;omega
theorem V0:Sound Tryz.prog 14 XR:=by
 refine Yx Tryz.func14 ?_;rintro cvs m h K ⟨cb,v,s,rfl,hc,hs,hp,hK⟩;refine⟨Zk cb v,rfl,aD Gi (aD D0 (aD Vz (aD Mo (aD Vy aF)))),KU cb v m h (dQ h K),by kernel_rfl,?_⟩;show KU cb v m h (dQ h K);dsimp only[KU,push_cast];have htl:=hs.tables.slen;obtain⟨hse,hne⟩:=FA hp;have h8:=Bl hse;have hs8:=uE hse;have hn0:0<s.tables.length:=List.length_pos_iff.2 hne;refine⟨aC,aC,aC,aC,λsl m1 hnew=>?_⟩;rw[show((v.tables.len:Int)).toNat=s.tables.length by omega]at hnew
 obtain⟨tb,cap,cur,hsl,hcur,_,_,hcs,hct⟩:∃b cap cur,sl=⟨some ⟨b,0,none⟩,s.tables.length,cap⟩/\m1 b=some (.cells cur 53 (0,0))/\s.tables.length<=cap/\cap<=maxLen/\cur.size=cap*1/\cur.toList.take (s.tables.length*1)=(List.replicate s.tables.length [tT]).flatten:=by
  rcases hnew.row.ex with⟨_,e⟩|⟨b,cap,cur,e1,e2,e3,e4,e5,e6⟩
  .have:=congrArg List.length e;rw[List.length_replicate,List.length_nil]at this;omega
  .rw[List.length_replicate]at e1 e3 e6;exact⟨b,cap,cur,e1,e2,e3,e4,e5,e6⟩
 have hcapn:s.tables.length<=cap:=by assumption
 have htb0:cM m h tb:=hnew.fresh tb 0 (by rw[hsl])
 have hne1:tb≠cb:=λe=>by
  obtain⟨cs,e2⟩:=hc.blk;rw[<-e,htb0.m_]at e2;cases e2
 have hoth:∀b,b≠tb->m1 b=m b:=λb hb=>hnew.other b λi e=>by
  rw[hsl]at e;injection e with e;injection e with e1 e2;exact hb e1.symm
 have hc1:aJ m1 h cb:=hc.keep (hoth cb (Ne.symm hne1)) (.refl _)
 have hT0:ZE h s m1 tb (List.replicate s.tables.length ⟨none,0,0⟩) (List.replicate s.tables.length []):=by
  refine⟨⟨cur,hcur,by rw[List.length_replicate];omega,?_⟩,by simp,by simp,λj u l hu hl=>?_,λj t l ht hl=>?_,λl hl=>?_,λl hl=>?_⟩
  .rw[List.length_replicate, <-Nat.mul_one s.tables.length,hct,Nat.mul_one,List.map_replicate];generalize s.tables.length=k
   induction k with
   |zero=>rfl
   |succ k ih=>rw[List.replicate_succ,List.flatten_cons,ih,List.replicate_succ];rfl
  .have hu:=List.mem_of_getElem? hu;have hl:=List.mem_of_getElem? hl;rw[List.eq_of_mem_replicate hu,List.eq_of_mem_replicate hl];exact bV.nil _ _ _ _
  .rw[List.eq_of_mem_replicate (List.mem_of_getElem? hl)];exact⟨λr hr=>by simp at hr,λi r r' e=>by simp at e⟩
  .rw[List.eq_of_mem_replicate hl];intro r hr;simp at hr
  .rw[List.eq_of_mem_replicate hl];simp
 clear hct hcs hcur cur;refine⟨λz=>z.1<=s.tables.length/\z.2.1=sl/\PH.le h z.2.2.2/\aJ z.2.2.1 z.2.2.2 cb/\(∀b,b≠tb->b≠cb->z.2.2.1 b=m b)/\∃us st,ZE z.2.2.2 s z.2.2.1 tb us st/\∀j l,z.1<=j->st[j]? =some l->l=[],λz=>s.tables.length-z.1,⟨(0,sl,m1,h),⟨by simp,rfl,.refl _,hc1,λb h1 _=>hoth b h1,_,_,hT0,λj l _ e=>List.eq_of_mem_replicate (List.mem_of_getElem? e)⟩,MT⟩,?_⟩;clear hT0 hc1;rintro⟨i,sl',m2,h2⟩ ⟨hi,e1,le2,c2,o2,us,st,hT,hnil⟩;dsimp only at hi e1 le2 c2 o2 hT hnil⊢
 rw[e1];clear e1 sl';refine aE (λhlt=>?_) (λhge=>?_)
 .obtain⟨tab,htab⟩:=fI htl hlt;have htabm:=List.mem_of_getElem? htab;obtain⟨tk,tc,tc4,tko⟩:=GZ hp htabm;have hil:=(List.getElem?_eq_some_iff.1 htab).1
  have hnil0:st[i]? =some []:=by
   have:=List.getElem?_eq_getElem (l:=st) (i:=i) (by rw[hT.slen];exact hil);rw[this,hnil i _ (Nat.le_refl _) this]
  refine⟨cb,5,rfl,c2,λk m3 k0 k1 o3 c3=>?_⟩;refine⟨λz=>z.1=i/\z.2.2.1=sl/\z.2.1<=4/\PH.le h z.2.2.2.2/\aJ z.2.2.2.1 z.2.2.2.2 cb/\(∀b,b≠tb->b≠cb->z.2.2.2.1 b=m b)/\∃us st l,ZE z.2.2.2.2 s z.2.2.2.1 tb us st/\st[i]? =some l/\((l.length:Int)<=4-z.2.1)/\0<=z.2.1/\∀j l,i+1<=j->st[j]? =some l->l=[],λz=>z.2.1.toNat,⟨(i,k,sl,m3,h2),⟨rfl,rfl,by show k<=4;omega,le2,c3,λb h1 h2=>by show m3 b=m b;rw[o3.other b h2];exact o2 b h1 h2,us,st,[],hT.mono (.refl _) (o3.other tb hne1),hnil0,by simp;omega,k0,λj l hj=>hnil j l aC⟩,MT⟩,?_⟩;clear o3 c3 m3 k0 k1 hT hnil hnil0 us st k o2 c2 m2;rintro⟨i',n,sl',m3,h3⟩ ⟨e1,e2,hn4,le3,c3,o3,us,st,l,hT,hl,hll,hn0',hnil⟩;dsimp only at e1 e2 hn4 le3 c3 o3 hT hl hll hn0' hnil⊢
  rw[e1,e2];clear e1 e2 i' sl';refine aE (λhn=>?_) (λhn=>?_)
  .obtain⟨b,o,y,ea,rd,hy⟩:=bV.at (hs.mono le3).tables htab;have hkT:iI s (i:Int)=tab.columns.map mZ.kind:=by rw[iI,if_neg aC,Int.toNat_natCast,htab]
   refine⟨b,o,ea,aC,aC,tab.key,.imm (by rw[<-hy.key];exact bF.part rd 2 1),by rw[<-hy.key];exact bF.part rd 2 1,v,s,i,rfl,hs.mono le3,hs8,λks h4 le4 hks=>?_⟩;rw[hkT]at hks;refine⟨cb,ks,tab.key,_,rfl,c3.mono le4,hks,by rw[List.length_map];omega,λk hk=>?_,λsr row m5 h5 le5 hrow hfit o5 c5=>?_⟩
   .obtain⟨c,hc,rfl⟩:=List.mem_map.1 hk;exact tko c hc
   have hrl:row.length=tab.columns.length:=by rw[hfit.1,List.length_map]
   refine⟨v,s,i,sr,row,rfl,hs.mono ((le3.trans le4).trans le5),hrow,aC,λsk h6 le6 hkey=>?_⟩;rw[DX htab]at hkey;have hT6:=hT.mono ((le4.trans le5).trans le6) (o5.other tb hne1);obtain⟨u,hu⟩:∃u,us[i]? =some u:=⟨_,List.getElem?_eq_getElem (by rw[hT.ulen];exact hil)⟩
   have hlm:=List.mem_of_getElem? hl;refine⟨v,s,tb,s.tables.length,cap,us,u,i,tab,l,sk,kF tab row,sr,row,by rw[hsl],hs.mono (((le3.trans le4).trans le5).trans le6),htab,hT6.tbl,hT.ulen.symm,hu,hT6.rows i u l hu hl,by have:=hT.few l hlm;omega,λr hr=>?_,hkey,cR.mono hrow le6,aC,aC,λu' m7 h7 le7 hr7 hT7 o7=>?_⟩
   .have:=(Og ((hT.ok i tab l htab hl).1 r hr)).1;omega
   have hw:IntKind.i64.wrap (n-1)=n-1:=dX aC aC;have hpl:=IS (t:=tab) (key:=kF tab row) (row:=row) (l:=l) (d:=false);simp at hpl;refine⟨(i,n-1,sl,m7,h7),⟨rfl,rfl,by show n-1<=4;omega,(((le3.trans le4).trans le5).trans le6).trans le7,(c5.mono (le6.trans le7)).keep (o7.other cb (Ne.symm hne1)) (.refl _),λb h1 h2=>by show m7 b=m b;rw[o7.other b h1,o5.other b h2];exact o3 b h1 h2,us.set i u',st.set i _,_,hT6.put le7 htab hl hT7 hr7 hfit aC,List.getElem?_set_self (List.getElem?_eq_some_iff.1 hl).1,by show(_:Int)<=4-(n-1);omega,by show 0<=n-1;omega,λj l' hj e=>?_⟩,by show(n-1).toNat<n.toNat;omega,?_⟩
   .rw[List.getElem?_set_ne aC]at e;exact hnil j l' hj e
   .rw[hw,hsl];exact MT
  .refine⟨(i+1,sl,m3,h3),⟨by show i+1<=s.tables.length;omega,rfl,le3,c3,o3,us,st,hT,hnil⟩,by show s.tables.length-(i+1)<s.tables.length-i;omega,?_⟩;rw[jA aC];exact MT
 .obtain⟨cur,hcur,hcs,hct⟩:=hT.tbl;refine dQ.iceB hcur le2 λh3 le3 hice=>hK st sl _ h3 (le2.trans le3) ⟨⟨⟨us,⟨by rw[hsl,List.length_map];exact hT.ulen.symm,.inr ⟨tb,0,by rw[hsl],λj e hj=>⟨λn x hx=>?_⟩⟩,by rw[hsl];exact hcapn⟩,by rw[hT.slen,hT.ulen],λj l hl=>?_⟩,by rw[hT.slen];omega⟩,by rw[hT.slen];omega,hT.val⟩ ⟨hT.slen,hT.few,hT.ok,hT.val⟩ ⟨λb hb=>?_⟩ ?_
  .rw[List.getElem?_map,Option.map_eq_some_iff]at hj;obtain⟨u,hu,rfl⟩:=hj;have hn:n=0:=by have:=(List.getElem?_eq_some_iff.1 hx).1;simp[eS]at this;omega
   subst hn
   have hx:u.val=x:=by
    simp[eS]at hx;exact hx
   subst hx;have e:(cur.toList.take us.length)[j]? =some u.val:=by rw[hct,List.getElem?_map,hu];rfl
   rw[List.getElem?_take,if_pos (List.getElem?_eq_some_iff.1 hu).1,Array.getElem?_toList]at e;rw[hice,show 0+j*1+0=j by omega];exact e
  .have hjl:=(List.getElem?_eq_some_iff.1 hl).1;have hju:j<us.length:=by rw[hT.ulen, <-hT.slen];exact hjl
   have hu:us[j]? =some us[j]:=List.getElem?_eq_getElem hju;exact⟨_,hu,bV.mono (hT.rows j _ l hu hl) le3 λr t hv=>cR.mono hv le3⟩
  .by_cases e:b=tb
   .subst e;simp[htb0.m_]
   .simp only[e,if_false];exact o2 b e hb
  .refine aJ.keep c2 ?_ le3;simp[Ne.symm hne1]
def Yf:Vc.Spec:=λcvs m h K=>cvs=[]/\jN m/\K (cB true) m h
abbrev Aj(a:pV)(b:Query)(c:List (List (List VV))):Prop:=bC ((fB a [] b).2=0) (qD a c=0) (Ro c b)
attribute [push_cast] Aj
def KI(m:MH)(h:PH)(K:CV->MH->PH->Prop):Prop:=
  aX h 2 (pG Jh 4::bL (pG (Ji 99) 4)) (λs h1=>∃(n:Int),pH 1 n/\∃(n1:Int),pH 10 n1/\∃(n2:Int),pH 2 n2/\∃(n3:Int),pH 10 n3/\∃(n4:Int),pH 3 n4/\∃(n5:Int),pH 20 n5/\aX h1 3 (u9 n::bL (u9 n1)) (λs1 h2=>aX h2 3 (u9 n2::bL (u9 n3)) (λs2 h3=>aX h3 3 (u9 n4::bL (u9 n5)) (λs3 h4=>aX h4 1 (aR s1::aR s2::bL (aR s3)) (λs4 h5=>aX h5 5 (bL (DQ 116 97 115 107 (rK 115) s 1)) (λs5 h6=>aX h6 1 (bL (aR s4)) (λs6 h7=>aX h7 1 (bL (cK 1)) (λs7 h8=>aX h8 2 (bL (kX dA (Value.bool true))) (λs8 h9=>aX h9 21 (bL (oZ (eW 1) dA (sG tT (y9 iQ)))) (λs9 a=>jX (λv a1=>uO (λa2 a3=>kK (λw q=>aA (bT (kX
 dA (eR s5)) (bI (jM (aR s6)) (jM (oZ (eW 9) dA (sG tT (aY tT (eR s7) (aY (eR s8) (eW 1) (aR s9)))))))=bT (bR v) (bI (jM (aR a2)) (bJ w))) (gM a a1 v) (aA (En a a2 a3) (dK a q w) (aH (nD (j9 q)) (jN m) (Aj a1 q a3) (kP (λa4 a5=>dZ a a5 (Rows a5 a4 (AW a1 a3 q).1) (eJ (AW a1 a3 q).2 0 (eJ (aG a4) 2 (aT (λb o=>aH (aU a4.a b o) ((0:Int)<=0) (0<aG a4) (∃(y:Sl),aM m a5 b (eC o) (aR y)/\aT (λb1 o1=>aH (aU y.a b1 o1) ((0:Int)<=0) (0<aG y) (∃(y1:VV),aH (aM m a5 b1 (eC o1) y1.enc) (bF a5 b (eC o) (aR y)) (bF a5 b1 (eC o1) y1.enc) (vB 2 (λn6=>∃(r:Bool),hP (lT 27 y1.enc (u9 n6) r) r (aT (λb2 o2=>aH (aU a4.a b2 o2) ((0:Int)<=1) (1<aG a4) (∃(y2:Sl),
 aM m a5 b2 (o2+1) (aR y2)/\aT (λb3 o3=>aH (aU y2.a b3 o3) ((0:Int)<=0) (0<aG y2) (∃(y3:VV),aA (aM m a5 b3 (eC o3) y3.enc) (bF a5 b (eC o) (aR y)) (aA (bF a5 b1 (eC o1) y1.enc) (bF a5 b2 (o2+1) (aR y2)) (bF a5 b3 (eC o3) y3.enc/\∃(n7:Int),pH 3 n7/\∃(r1:Bool),hP (lT 27 y3.enc (u9 n7) r1) r1 (aT (λb4 o4=>aH (aU a4.a b4 o4) ((0:Int)<=0) (0<aG a4) (∃(y4:Sl),aM m a5 b4 (eC o4) (aR y4)/\aT (λb5 o5=>aH (aU a4.a b5 o5) ((0:Int)<=1) (1<aG a4) (∃(y5:Sl),aA (aM m a5 b5 (o5+1) (aR y5)) (bF a5 b (eC o) (aR y)) (aA (bF a5 b1 (eC o1) y1.enc) (bF a5 b2 (o2+1) (aR y2)) (bF a5 b3 (eC o3) y3.enc/\FU s8 y4 y5 a5 (λo6 a6 b6=>K (A7 (iA o6 a6 b6==1)) m a5))))))))
 (aA (bF a5 b (eC o) (aR y)) (bF a5 b1 (eC o1) y1.enc) (aA (bF a5 b2 (o2+1) (aR y2)) (bF a5 b3 (eC o3) y3.enc) (K bA m a5)))))))))) (aA (bF a5 b (eC o) (aR y)) (bF a5 b1 (eC o1) y1.enc) (aA (bF a5 b (eC o) (aR y)) (bF a5 b1 (eC o1) y1.enc) (K bA m a5)))))))))) (K bA m a5)) (K bA m a5)))))))))))))))))))
def nV(n:Int):VV:=⟨4,n,⟨#[]⟩⟩
def bS:pV:=⟨0,[⟨⟨⟨[116,97,115,107,115]⟩⟩,[⟨⟨⟨[105,100]⟩⟩,4⟩,⟨⟨⟨[112,114,111,106,101,99,116]⟩⟩,4⟩],1,[],[]⟩]⟩
def Wn:List (List (List VV)):=[[[nV 1,nV 10],[nV 2,nV 10],[nV 3,nV 20]]]
def XK:Query:=.mk 1 0 iL [] [] [] [] 0 []
def bQ:Query:=.mk 9 0 iL [] [] [1] [(0,true)] 1 [XK]
theorem ZQ:eG bS=0:=Wx (by decide) (λt ht=>by simp[bS]at ht;subst ht;exact⟨by simp,rfl,rfl⟩) (by decide) (by decide) (by
 refine vX ⟨⟨?_,?_,?_,?_,vX ⟨⟨?_,?_,?_⟩,⟨?_,?_,?_⟩,trivial⟩⟩,trivial⟩
 all_goals first|rfl|(simp;done)|decide)
theorem Ku{k:List Int}(h:cA s ps q=(k,0))(hr:pR k gr od li)(hk:k.length<=12):cA s ps (.mk 9 0 iL [] [] gr od li [q])=(k,0):=by
 rw[Hb (by decide) h];unfold iT;rw[if_neg (by simp[arity,eF])];dsimp only;rw[if_neg (by decide),if_neg (by decide),if_neg (by decide),if_neg (by decide),if_neg (by decide),if_pos rfl,if_pos hr,Gg hk]
theorem XL:cA bS [] bQ=([4,4],0):=by
 have e:iI bS 0=[4,4]:=rfl
 have h:cA bS [] XK=([4,4],0):=by
  have:=Kt (s:=bS) (ps:=[]) (t:=0) (by decide) (by decide) (by rw[e];decide);rw[e]at this;exact this
 exact Ku h ⟨vX ⟨⟨by decide,by simp⟩,trivial⟩,vX ⟨by show ES _ _=true;decide,trivial⟩,by decide,by decide,by decide⟩ (by decide)
theorem J4{k:List Int}(hs:eG s=0)(h:j9 q=true)(hk:cA s [] q=(k,0)):fB s [] q=(k,0):=by
 unfold fB;rw[if_pos hs,if_pos (by rfl),if_pos h,hk]
theorem ajJ:fB bS [] bQ=([4,4],0):=J4 ZQ (by rfl) XL
theorem agZ:qD bS Wn=0:=by
 unfold qD;rw[if_neg (by simp[ZQ]),if_neg (by decide),if_neg (by decide),if_pos];intro i t l ht hl
 match i,ht,hl with
 |0,ht,hl=>
  simp[bS]at ht;simp[Wn]at hl;subst ht hl;refine⟨λr hr=>?_,λi r r' e1 e2=>?_⟩
  .simp at hr;have hv:∀n,yK 1 4 0 (nV n)=true/\yK 1 4 1 (nV n)=true:=λn=>by simp[yK,nV,Ws]
   rcases hr with rfl|rfl|rfl
   all_goals
    refine C3.2 ⟨rfl,λi hi=>?_⟩
    match i,hi with
    |0,_=>exact(hv _).1
    |1,_=>exact(hv _).2
    |i+2,hi=>simp at hi;omega
  .match i,e1,e2 with
   |0,e1,e2=>simp at e1 e2;subst e1 e2;decide
   |1,e1,e2=>simp at e1 e2;subst e1 e2;decide
   |i+2,e1,e2=>simp at e2
 |i+1,ht,hl=>simp[bS]at ht
theorem ajZ:j5 Wn bQ=[[nV 2,nV 10],[nV 3,nV 20]]:=by rfl
theorem NB{s:Sl}{l:List VV}(r:cW h s 3 (l.map VV.enc))(hl:l.length<=1000):cR h s l:=⟨⟨l,r,rfl,λi x hx=>⟨x,hx,rfl⟩⟩,aC⟩
theorem VM:Sound Tryz.prog 23 Yf:=by
 refine Gm Tryz.func23 ?_;rintro cvs m h K ⟨rfl,ht,hK⟩;refine⟨dN [(61,UF),(21,ZV),(34,Dj)] [] [] [] false,rfl,aD Vx (aD VR (aD D1 aF)),KI m h (lE h K),by kernel_rfl,?_⟩;show KI m h (lE h K);dsimp only[KI,push_cast];intro s1 h1 le1 r1;refine⟨1,rfl,10,rfl,2,rfl,10,rfl,3,rfl,20,rfl,?_⟩;intro s2 h2 le2 r2 s3 h3 le3 r3 s4 h4 le4 r4 s5 h5 le5 r5 s6 h6 le6 r6 s7 h7 le7 r7 s8 h8 le8 r8 s9 h9 le9 r9 sa ha lea ra;have l9:=le9.trans lea;have l8:=le8.trans l9;have l7:=le7.trans l8;have l6:=le6.trans l7;have l5:=le5.trans l6;have l4:=le4.trans l5;have l3:=le3.trans l4;have l2:=le2.trans l3;have rs:dK ha XK ⟨1,0,gT,cJ,cJ,cJ,cJ,0,cJ⟩:=AT ha 0;have so:jC ha s9 [(0,true)]:=⟨r9.mono lea,by simp⟩
 have rq:dK ha bQ ⟨9,0,gT,cJ,cJ,s8,s9,1,sa⟩:=oP.rep ⟨rfl,rfl,yM ha,jK ha,oA ha,⟨r8.mono l9,by simp⟩,so,rfl,yN (v:=⟨1,0,gT,cJ,cJ,cJ,cJ,0,cJ⟩) ra rs⟩;have rt:HW ha ⟨⟨⟨[116,97,115,107,115]⟩⟩,[⟨⟨⟨[105,100]⟩⟩,4⟩,⟨⟨⟨[112,114,111,106,101,99,116]⟩⟩,4⟩],1,[],[]⟩ ⟨⟨⟨[116,97,115,107,115]⟩⟩,s1,1,cJ,cJ⟩:=⟨rfl,GA (l:=[⟨_,_⟩,⟨_,_⟩]) (r1.mono l2) (by simp),rfl,bV.nil _ _ _ _,bV.nil _ _ _ _⟩
 have rS:gM ha bS ⟨0,s6⟩:=⟨rfl,⟨⟨[⟨⟨⟨[116,97,115,107,115]⟩⟩,s1,1,cJ,cJ⟩],r6.mono l7,rfl,λi x e=>by
  match i,e with
  |0,e=>simp[bS]at e;subst e;exact⟨_,rfl,rt⟩
  |i+1,e=>simp[bS]at e⟩,by simp[bS]⟩⟩
 have v1:cR ha s2 [nV 1,nV 10]:=NB (r2.mono l3) (by simp);have v2:cR ha s3 [nV 2,nV 10]:=NB (r3.mono l4) (by simp);have v3:cR ha s4 [nV 3,nV 20]:=NB (r4.mono l5) (by simp)
 have rr:Rows ha s5 [[nV 1,nV 10],[nV 2,nV 10],[nV 3,nV 20]]:=⟨⟨[s2,s3,s4],r5.mono l6,rfl,λi x e=>by
  match i,e with
  |0,e=>simp at e;subst e;exact⟨_,rfl,v1⟩
  |1,e=>simp at e;subst e;exact⟨_,rfl,v2⟩
  |2,e=>simp at e;subst e;exact⟨_,rfl,v3⟩
  |i+3,e=>simp at e⟩,by simp⟩
 have rst:En ha s7 Wn:=⟨⟨⟨[s5],r7.mono l8,rfl,λi x e=>by
  match i,e with
  |0,e=>simp[Wn]at e;subst e;exact⟨_,rfl,rr⟩
  |i+1,e=>simp[Wn]at e⟩,by simp[Wn]⟩,by simp[Wn],λl hl r hr v hv=>by
   simp[Wn]at hl;subst hl;simp at hr;rcases hr with rfl|rfl|rfl<;>simp at hv<;>rcases hv with rfl|rfl<;>exact⟨by constructor<;>decide,by constructor<;>decide⟩⟩
 have hres:AW bS Wn bQ=([[nV 2,nV 10],[nV 3,nV 20]],0):=by
  unfold AW;rw[ajJ,if_neg (by simp),if_neg (by simp[agZ]),ajZ]
 refine⟨⟨0,s6⟩,bS,s7,Wn,⟨9,0,gT,cJ,cJ,s8,s9,1,sa⟩,bQ,rfl,rS,rst,rq,by rfl,ht,λ_ _=>⟨3,by decide,λl hl=>by simp[Wn]at hl;subst hl;simp,by decide⟩,λs' hb leb hr=>?_⟩;rw[hres]at hr⊢
 dsimp only at hr⊢
 have hrl:=bV.slen hr;have hrl:s'.len=2:=hrl;obtain⟨b1,o1,u1,ea1,rd1,hv1⟩:=bV.at hr (i:=0) rfl;obtain⟨b2,o2,u2,ea2,rd2,hv2⟩:=bV.at hr (i:=1) rfl;obtain⟨b3,o3,x1,ea3,rd3,e3⟩:=bV.at hv1 (i:=0) rfl;obtain⟨b4,o4,x2,ea4,rd4,e4⟩:=bV.at hv2 (i:=0) rfl;subst e3 e4;have n1:u1.len=2:=bV.slen hv1;have n2:u2.len=2:=bV.slen hv2;have eq2:∀v:VV,Up v v=true:=λv=>by simp[Up]
 have rd1:bF hb b1 (o1+0) [eR u1]:=rd1;have rd2:bF hb b2 (o2+1) [eR u2]:=rd2;have rd3:bF hb b3 (o3+0) (VV.enc (nV 2)):=by simpa using rd3
 have rd4:bF hb b4 (o4+0) (VV.enc (nV 3)):=by simpa using rd4
 have hc:iA [(0,true)] [nV 2,nV 10] [nV 3,nV 20]=1:=by decide
 refine aB (λ_=>aB (λ_=>⟨b1,o1,ea1,aC,aC,u1,.imm rd1,b3,o3,ea3,aC,aC,nV 2,.imm rd3,rd1,rd3,2,rfl,_,Ee (nV 2) (nV 2),aB (λ_=>⟨b2,o2,ea2,aC,aC,u2,.imm rd2,b4,o4,ea4,aC,aC,nV 3,.imm rd4,rd1,rd3,rd2,rd4,3,rfl,_,Ee (nV 3) (nV 3),aB (λ_=>⟨b1,o1,ea1,aC,aC,u1,.imm rd1,b2,o2,ea2,aC,aC,u2,.imm rd2,rd1,rd3,rd2,rd4,s9,u1,u2,[(0,true)],_,_,rfl,so.mono leb,hv1,hv2,?_⟩) (λe=>?_)⟩) (λe=>?_)⟩) (λe=>?_)) (λe=>?_)
 .rw[hc];exact .out (Sub.refl m) ((le1.trans l2).trans leb) hK
 .rw[eq2]at e;cases e
 .rw[eq2]at e;cases e
 .rw[hrl]at e;cases e
 .cases e
abbrev Rel:=List (List VV)
def Yr(a b:Rel):Rel:=a.filter λx=>Lu b x==false
theorem T1{l:Rel}{x:List VV}:Lu l x=false↔x∉l:=by
 rw[<-Gj];cases Lu l x<;>simp
theorem Ys{a b:Rel}{x:List VV}:x∈Yr a b↔x∈a/\x∉b:=by simp only[Yr,List.mem_filter,beq_iff_eq,T1]
theorem Tn{w:Nat}{od:List (Int×Bool)}{a b c:List VV}(ha:a.length=w)(hb:b.length=w)(hc:c.length=w)(h1:iA od a b<=0)(h2:iA od b c<=0):iA od a c<=0:=by
 rw[tP ha hb]at h1;rw[tP hb hc]at h2;rw[tP ha hc];exact(C8 w od).trans _ _ _ h1 h2
theorem PR{w:Nat}{i j:Int}{a:Rel}(hw:∀r∈a,r.length=w):oN gr od j (oN gr od i a a) (oN gr od i a a)=oN gr od (min i j) a a:=by
 have cmp:∀{x y z:List VV},x∈a->y∈a->z∈a->iA od x y<0->iA od y z<0->iA od x z<0:=fun{x y z} hx hy hz h1 h2=>by
  have:=Tn (w:=w) (od:=od) (hw x hx) (hw y hy) (hw z hz) aC aC;rcases Int.lt_or_eq_of_le this with h|h
  .exact h
  .have e:=Nf (hw x hx) (hw z hz) h;subst e;have:=uS (od:=od) (hw x hx) (hw y hy);omega
 unfold oN;rw[List.filter_filter];refine List.filter_congr λx hx=>?_;generalize hB:(fun(x y:List VV)=>qE gr x y&&decide (iA od y x<0))=B;have hB':∀x y,(qE gr x y&&decide (iA od y x<0))=B x y:=λx y=>by rw[<-hB]
 have tr:∀{x y z},x∈a->y∈a->z∈a->B x y=true->B y z=true->B x z=true:=fun{x y z} hx hy hz h1 h2=>by
  rw[<-hB']at h1 h2⊢
  simp only[Bool.and_eq_true,decide_eq_true_eq,uG]at h1 h2⊢
  exact⟨h1.1.trans h2.1,cmp hz hy hx h2.2 h1.2⟩
 have irr:∀{x},x∈a->B x x=false:=fun{x} hx=>by
  rw[<-hB'];have:=uS (od:=od) (hw x hx) (hw x hx);simp only[Bool.and_eq_false_iff,decide_eq_false_iff_not];exact .inr aC
 have mono:∀{y},y∈a->B x y=true->a.countP (B y)<=a.countP (B x):=fun{y} hy h=>List.countP_mono_left λz hz h2=>tr hx hy hz h h2;simp only[hB']at*
 by_cases h1:((a.countP (B x):Nat):Int)<i
 .have e:(a.filter λx=>decide (((a.countP λy=>B x y:Nat):Int)<i)).countP (B x)=a.countP (B x):=by
   rw[List.countP_filter];refine List.countP_congr λy hy=>?_;simp only[Bool.and_eq_true,decide_eq_true_eq];exact⟨λh=>h.1,λh=>⟨h,by have:=mono hy h;have h5:(a.countP λz=>B y z)=a.countP (B y):=rfl;omega⟩⟩
  have e2:(a.countP λy=>B x y)=a.countP (B x):=rfl;rw[e2];have e3:((a.filter λx=>decide (((a.countP λy=>B x y:Nat):Int)<i)).countP λy=>B x y)=a.countP (B x):=e;rw[e3,Bool.eq_iff_iff];simp only[Bool.and_eq_true,decide_eq_true_eq];omega
 .have e2:(a.countP λy=>B x y)=a.countP (B x):=rfl;rw[e2,Bool.eq_iff_iff];simp only[Bool.and_eq_true,decide_eq_true_eq];omega
def anZ:Vc.Spec:=λcvs m h K=>∃s cs,cvs=[cS s]/\cW h s 1 (bM cs)/\s.len<=s.cap/\jN m/\∀m' h',Sub m m'->K (cB true) m' h'
def TE(k:List Int):Prop:=k≠[]/\HZ k
theorem Me{kss:List (List Int)}(h:∀k∈kss,TE k)(hi:i<kss.length):TE (kss.getD i []):=by
 rw[List.getD_eq_getElem?_getD,List.getElem?_eq_getElem hi];exact h _ (List.getElem_mem hi)
mutual
theorem PC{s:pV}{ps:List Int}(hk:XV s)(hc:∀t∈s.tables,t.columns≠[]):∀{q:Query}{ks:List Int},cA s ps q=(ks,0)->TE ks
 |.mk op ta w co on gr od li args,ks,h=>by
  obtain⟨kss,h1,h2,h3⟩:=zH h;have ih:=L7 hk hc h1;have ar:arity op=1\/arity op=2->TE (kss.getD 0 []):=λe=>Me ih aC;have ar2:arity op=2->TE (kss.getD 1 []):=λe=>Me ih aC;unfold iT at h3;dsimp only at h3;split at h3
  .simp[jS]at h3
  rename_i hn;have hpos:0<=arity op:=by have:¬arity op<0:=λe=>hn (.inl e);omega
  split at h3
  .rename_i e1;subst e1;split at h3
   .rename_i h4;obtain⟨rfl,_⟩:=kY h3;refine⟨λe=>?_,hk ta⟩;have ht:ta.toNat<s.tables.length:=by omega
    rw[iI,if_neg aC,List.getElem?_eq_getElem ht]at e;exact hc _ (List.getElem_mem ht) (List.map_eq_nil_iff.1 e)
   .simp[jS]at h3
  .rename_i e1
   have h12:arity op=1\/arity op=2:=by
    unfold arity at hpos⊢
    split
    .rename_i e;simp at e;exact absurd e e1
    .split
     .exact .inl rfl
     .split
      .exact .inr rfl
      .rename_i a b c;rw[if_neg a,if_neg b,if_neg c]at hpos;omega
   have k0:=ar h12;split at h3
   .split at h3
    .obtain⟨rfl,_⟩:=kY h3;exact k0
    .rename_i e;simp only[jS,Prod.mk.injEq]at h3;exact absurd h3.2 e
   split at h3
   .split at h3
    .rename_i hg;obtain⟨rfl,_⟩:=kY h3;refine⟨λe=>hg.1 (List.map_eq_nil_iff.1 e),λk hkm=>?_⟩;obtain⟨c,hcm,rfl⟩:=List.mem_map.1 hkm;obtain⟨_,h5⟩:=C1 hg.2 hcm;have h5:=Kx h5;rw[List.getD_eq_getElem?_getD,List.getElem?_eq_getElem aC];exact k0.2 _ (List.getElem_mem _)
    .simp[jS]at h3
   split at h3
   .rename_i e4;subst e4;split at h3
    .obtain⟨rfl,_⟩:=kY h3;refine⟨λe=>k0.1 (List.append_eq_nil_iff.1 e).1,λk hkm=>?_⟩;rcases List.mem_append.1 hkm with hkm|hkm
     .exact k0.2 k hkm
     .exact(ar2 rfl).2 k hkm
    .simp[jS]at h3
   all_goals
    repeat' split at h3
    all_goals first
     |(obtain⟨rfl,_⟩:=kY h3;exact k0)
     |(simp[jS]at h3;done)
theorem L7{s:pV}{ps:List Int}(hk:XV s)(hc:∀t∈s.tables,t.columns≠[]):∀{qs:List Query}{kss:List (List Int)},fT s ps qs=(kss,0)->∀k∈kss,TE k
 |[],kss,h,k,hkm=>by rw[fT]at h;simp only[Prod.mk.injEq,and_true]at h;subst h;simp at hkm
 |q::qs,kss,h,k,hkm=>by
  obtain⟨k1,kss',h1,h2,rfl⟩:=kM h;rcases List.mem_cons.1 hkm with rfl|hkm
  .exact PC hk hc h1
  .exact L7 hk hc h2 k hkm
end
theorem Pq(h:pS s){ks:List Int}(hq:cA s ps q=(ks,0)):TE ks:=PC (Rz h) (λt ht e=>by have:=(GZ h ht).2.1;rw[e]at this;simp at this) hq
def ZN(o:Int)(a b:Query):Query:=.mk o 0 iL [] [] [] [] 0 [a,b]
structure Nr(s:pV)(h:PH)(v:QV)(q:Query)(k:List Int)(b:Nat):Prop where
 rep:dK h q v
 kin:cA s [] q=(k,0)
 bnd:nA 4 q<=b
theorem Nr.mono{k:List Int}{b':Nat}(x:Nr s h v q k b)(le:PH.le h h')(hb:b<=b'):Nr s h' v q k b':=⟨x.rep.mono le,x.kin,Nat.le_trans x.bnd hb⟩
theorem U9{k:List Int}{o:Int}{a b:Query}(ho:o=6\/o=7\/o=8)(ha:cA s ps a=(k,0))(hb:cA s ps b=(k,0))(hk:k.length<=12):cA s ps (ZN o a b)=(k,0):=by
 have e:arity o=2:=by rcases ho with rfl|rfl|rfl<;>rfl
 rw[ZN,U8 e ha hb];unfold iT;rw[if_neg (by simp[eF,e])];dsimp only;rw[if_neg aC,if_neg aC,if_neg aC,if_neg aC,if_neg aC,if_neg aC,if_neg aC,if_pos rfl,Gg hk]
theorem Rw{s:Sl}{w:QV}{p:Query}(r:cW h s 21 [QV.enc v,QV.enc w])(hq:dK h q v)(hp:dK h p w):AA h s [q,p]:=⟨⟨[v,w],r,rfl,λi x e=>by
 match i,e with
 |0,e=>simp at e;subst e;exact⟨v,rfl,hq⟩
 |1,e=>simp at e;subst e;exact⟨w,rfl,hp⟩
 |i+2,e=>simp at e⟩,by simp⟩
theorem acJ{o:Int}{s:Sl}{w:QV}{p:Query}(r:cW h s 21 [QV.enc v,QV.enc w])(hq:dK h q v)(hp:dK h p w):dK h (ZN o q p) ⟨o,0,gT,cJ,cJ,cJ,cJ,0,s⟩:=
 oP.rep ⟨rfl,rfl,yM h,jK h,oA h,jK h,uD h,rfl,Rw r hq hp⟩
theorem Nr.op{o:Int}{sl:Sl}{w:QV}{a c:Query}{k:List Int}{b':Nat}(x:Nr s h v a k b)(y:Nr s h w c k b')(ho:o=6\/o=7\/o=8)(le:PH.le h h')(r:cW h' sl 21 [QV.enc v,QV.enc w]):Nr s h' ⟨o,0,gT,cJ,cJ,cJ,cJ,0,sl⟩ (ZN o a c) k (b+b'):=
 ⟨acJ r (x.rep.mono le) (y.rep.mono le),U9 ho x.kin y.kin (by have:=B8 s [] a;rw[x.kin]at this;exact this),by
  have h1:=x.bnd;have h2:=y.bnd;simp only[ZN,nA,yV];rw[if_neg aC,if_neg aC];omega⟩
theorem PM{st:List (List (List VV))}(hp:pS s)(h:HV s st):qD s st=0:=by
 obtain⟨hse,hne⟩:=FA hp;have h8:=Bl hse;have hl:=h.len
 have hsum:∀l:List (List (List VV)),(∀x∈l,x.length<=4)->(l.map λx=>(x.length:Int)).sum<=4*(l.length:Int):=λl=>by
  induction l with
  |nil=>intro _;simp
  |cons a l ih=>
   intro hx;have:=ih λx h=>hx x (List.mem_cons_of_mem _ h);have:=hx a (List.mem_cons_self ..);simp only[List.map_cons,List.sum_cons,List.length_cons];omega
 have:=hsum st h.few;unfold qD;rw[if_neg (by simp[hse]),if_neg aC,if_neg (by simp[hl]),if_pos h.ok]
theorem Nr.res{k:List Int}{st:List (List (List VV))}(x:Nr s h v q k b)(hp:pS s)(hst:HV s st)(hs:j9 q=true):AW s st q=(j5 st q,0):=by
 unfold AW;rw[J4 (FA hp).1 hs x.kin,if_neg (by simp),if_neg (by simp[PM hp hst])]
theorem Nr.bok{k:List Int}{st:List (List (List VV))}(x:Nr s h v q k b)(hst:HV s st)(hb:b<=1000000):Ro st q:=⟨4,aC,hst.few,Nat.le_trans x.bnd hb⟩
theorem Nr.rel{k:List Int}{st:List (List (List VV))}(x:Nr s h v q k b)(hp:pS s)(hst:HV s st)(hb:b<=1000000):i7 k.length (j5 st q):=(Rt (PM hp hst) hst.val hst.few aC x.kin (Nat.le_trans x.bnd hb)).2.2.1
theorem Yk(st:List (List (List VV)))(a b:Query):j5 st (ZN 7 a b)=Yr (j5 st a) (j5 st b):=by
 rw[ZN,j5,if_neg (by decide)];rfl
theorem Nr.of{d:Nat}(r:dK h q v)(e:(fB s [] q).2=0)(f:LK d q):Nr s h v q (fB s [] q).1 (gB d):=by
 obtain⟨h1,h2,h3,h4⟩:=zU e;have e2:cA s [] q=((cA s [] q).1,0):=Prod.ext rfl h4;have e3:=J4 h1 h3 e2;exact⟨r,by rw[e3];exact e2,f.b⟩
theorem jN.new(ht:jN m)(hc:m cb=none)(o:aL m m' cb):jN m':=by
 obtain⟨T,fz,e⟩:=ht;refine⟨T,fz,?_⟩;rw[o.other 1 (λe2=>by rw[<-e2,e]at hc;cases hc)];exact e
def Rl:Vc.Spec:=λcvs m h K=>∃cb n,cvs=[cP cb,cI n]/\aJ m h cb/\1<=n/\n<=1000/\∀l s m' h',PH.le h h'->Ints h' s l->(∀c∈l,0<=c/\c<n)->l.Nodup->(l.length:Int)<=n->aL m m' cb->aJ m' h' cb->K (cS s) m' h'
def alZ:Vc.Spec:=λcvs m h K=>∃s t l r,cvs=[cS s,cS t]/\Rows h s l/\cR h t r/\tS l/\K (cB (Lu l r)) m h
def Rj:Vc.Spec:=λcvs m h K=>∃g s t gr a b,cvs=[cS g,cS s,cS t]/\Ints h g gr/\cR h s a/\cR h t b/\iR a.length gr/\iR b.length gr/\K (cB (qE gr a b)) m h
noncomputable def Za(cb:Nat)(n:Int)(h:PH):Ctx:=
 dN [(15,E9)] [(3,{A:=Nat×List Int×MH,st:=λ⟨i,l,m⟩=>cE 42 44 [(0,pv cb),(1,iv n),(5,.at (.lst 40)),(6,iv i)] [(40,.lst 3 1 (l.map eI))] m h}),
  (8,{A:=Nat×Bool×Int×Nat×List Int×MH,st:=λ⟨t,b,k,i,l,m⟩=>cE 42 44 [(0,pv cb),(1,iv n),(5,.at (.lst 40)),(6,iv i),(7,iv k),(8,bv b),(22,.at (.lst 40)),(23,iv l.length),(24,iv t)] [(40,.lst 3 1 (l.map eI))] m h})] [] [] false
noncomputable def Y9(s t:Sl)(m:MH)(h:PH):Ctx:=
 dN [(62,GK)] [(2,{A:=Nat×Nat,st:=λ⟨lo,hi⟩=>cE 42 44 [(0,sv s),(1,sv t),(5,iv lo),(6,iv hi)] [] m h})] [] [] false
noncomputable def Y8(g s t:Sl)(m:MH)(h:PH):Ctx:=
 dN [] [(2,{A:=Nat,st:=λi=>cE 25 28 [(1,sv s),(2,sv t),(9,sv g),(10,iv g.len),(11,iv i)] [] m h})] [] [] false
noncomputable abbrev Ah(a:Nat×Bool×Int×Nat×List Int×MH):Nat:=a.2.2.2.1
noncomputable abbrev Ag(a:Nat×Bool×Int×Nat×List Int×MH):Int:=a.2.2.1
noncomputable abbrev pB(a:Nat×Bool×Int×Nat×List Int×MH):List Int:=a.2.2.2.2.1
noncomputable abbrev Ai(a:Nat×Bool×Int×Nat×List Int×MH):Nat->Option Obj:=a.2.2.2.2.2
attribute [push_cast] Ah Ag pB Ai
def Qv(cb:Nat)(n:Int)(m:MH)(h:PH)(K:CV->MH->PH->Prop):Prop:=
  bZ cb (eB (n+1)) m h 0 (λc k m1=>bC (aL m m1 c) (aJ m1 h c) (∃(I:Nat×List Int×MH->Prop)(m2:Nat×List Int×MH->Nat),(∃(x:Nat×List Int×MH),aA (I x) (cV cb) (aA (kW n) (eL 40) (aA (gS k=bX x.1) (qY x.2.1) (aA (m1=x.2.2) (h=h) True))))/\∀(x:Nat×List Int×MH),I x->fC (↑x.1:Int) 0 (bZ cb n x.2.2 h 0 (λc1 k1 m3=>bC (aL x.2.2 m3 c1) (aJ m3 h c1) (∃(I1:Nat×Bool×Int×Nat×List Int×MH->Prop)(m4:Nat×Bool×Int×Nat×List Int×MH->Nat),(∃(x1:Nat×Bool×Int×Nat×List Int×MH),aA (I1 x1) (cV cb) (aA (kW n) (eL 40) (aA (bY x.1 (Ah x1)) (cZ k1 (Ag x1)) (aA (AH x1.2.1) (eL 40) (aA (bY (gZ x.2.1).length (pB x1).length) (bG x1.1) (aA (vQ x.2.1 (pB x1)) (m3=Ai x1) (dC h h)))))))/\∀(x1
 :Nat×Bool×Int×Nat×List Int×MH),I1 x1->bD (↑x1.1:Int) (↑(pB x1).length:Int) (aA (cN (↑x1.1:Int)) ((↑x1.1:Int)<kJ (gZ (pB x1))) (∃(e:List Value),tG (gZ (pB x1)) (qG x1.1) e/\∃(y:Int),hP (Dv 1 e (cK y)) x1.2.1 (∃(x2:Nat×Bool×Int×Nat×List Int×MH),aA (I1 x2) (m4 x2<m4 x1) (aA (cV cb) (kW n) (aA (eL 40) (bY (Ah x1) (Ah x2)) (aA (cZ (Ag x1) (Ag x2)) (uK x2.2.1) (aA (eL 40) (bY (pB x1).length (pB x2).length) (aA (gS (aW x1.1 1)=bX x2.1) (vQ (pB x1) (pB x2)) (eH (Ai x1) (Ai x2) h h))))))) (∃(x2:Nat×Bool×Int×Nat×List Int×MH),aA (I1 x2) (m4 x2<m4 x1) (aA (cV cb) (kW n) (aA (eL 40) (bY (Ah x1) (Ah x2)) (aA (cZ (Ag x1) (Ag x2)) (gH (y
 ==Ag x1) x2.2.1) (aA (eL 40) (bY (pB x1).length (pB x2).length) (aA (gS (aW x1.1 1)=bX x2.1) (vQ (pB x1) (pB x2)) (eH (Ai x1) (Ai x2) h h))))))))) (branch (!x1.2.1) (nM (gZ (pB x1)) 8 (∃(x2:Nat×List Int×MH),aA (I x2) (m2 x2<m2 x) (aA (cV cb) (kW n) (aA (eL 40) (gS (eB ((↑(Ah x1):Int)-1))=bX x2.1) (aA (qZ (pB x1) (Ag x1) x2.2.1) (Ai x1=x2.2.2) (dC h h)))))) (∃(x2:Nat×List Int×MH),aA (I x2) (m2 x2<m2 x) (aA (cV cb) (kW n) (aA (eL 40) (gS (eB ((↑(Ah x1):Int)-1))=bX x2.1) (aA (vQ (pB x1) x2.2.1) (Ai x1=x2.2.2) (dC h h))))))))) (aX h 1 (gZ x.2.1) (λs h1=>K (kU s) x.2.2 h1))))
noncomputable abbrev Dw(a:Nat×Nat):Int:=aW a.1 (eB (Int.tdiv (eB ((↑a.2:Int)-(↑a.1:Int))) 2))
attribute [push_cast] Dw
def Qt(s t:Sl)(m:MH)(h:PH)(K:CV->MH->PH->Prop):Prop:=
  Jj (λI x=>aA (I x) (aK s) (aA (aK t) (bG x.1) (dE (bX s.len=bX x.2) m m h h))) (λI m1 x=>I x->bD (↑x.1:Int) (↑x.2:Int) (jU ((2:Int)=0)/\aT (λb o=>aH (aU s.a b o) (0<=Dw x) (Dw x<aG s) (∃(y:Sl),aM m h b (fL o (Dw x) 1) (aR y)/\z8 y t h (λa b1=>bD (eE a b1) 0 (∃(x1:Nat×Nat),aA (I x1) (m1 x1<m1 x) (aA (aK s) (aK t) (aA (SV.at (At.val (eW (eB (Dw x+1))))=bX x1.1) (bY x.2 x1.2) (aA (m=m) (h=h) True)))) (∃(x1:Nat×Nat),aA (I x1) (m1 x1<m1 x) (aA (aK s) (aK t) (aA (bY x.1 x1.1) (SV.at (At.val (eW (Dw x)))=bX x1.2) (aA (m=m) (h=h) True)))))))) (bD (↑x.1:Int) (aG s) (aT (λb o=>aH (aU s.a b o) (0<=(↑x.1:Int)) ((↑x.1:Int)<aG s) (∃(y:Sl),aM m h b (bB o
 x.1 1) (aR y)/\z8 y t h (λa b1=>K (A7 (eE a b1==0)) m h)))) (K bA m h)))
def Qs(g s t:Sl)(m:MH)(h:PH)(K:CV->MH->PH->Prop):Prop:=
  mT (λI x=>aA (I x) (aK s) (aA (aK t) (aK g) (aA (bK g) (bG x) (aA (m=m) (h=h) True)))) (λI m1 x=>I x->bD (↑x:Int) (aG g) (aT (λb o=>aH (aU g.a b o) (0<=(↑x:Int)) ((↑x:Int)<aG g) (∃(y:Int),aM m h b (bB o x 1) (cK y)/\aT (λb1 o1=>aH (aU s.a b1 o1) (0<=y) (y<aG s) (∃(y1:VV),aM m h b1 (fL o1 y 3) y1.enc/\aT (λb2 o2=>aH (aU t.a b2 o2) (0<=y) (y<aG t) (∃(y2:VV),aM m h b2 (fL o2 y 3) y2.enc/\∃(r:Bool),lT 27 y1.enc y2.enc r/\gX (!r) (K bA m h) (λx1=>aA (I x1) (m1 x1<m1 x) (aA (aK s) (aK t) (aA (aK g) (bK g) (aA (gS (aW x 1)=bX x1) (m=m) (dC h h)))))))))))) (K gE m h))
theorem VG:Sound Tryz.prog 31 Rl:=by
 refine iJ Tryz.func31 ?_;rintro cvs m h K ⟨cb,n,rfl,hc,n1,n2,hK⟩;refine⟨Za cb n h,rfl,aD Gi aF,Qv cb n m h K,by kernel_rfl,?_⟩;dsimp only[Qv,push_cast];refine⟨cb,IntKind.i64.wrap (n+1),rfl,hc,λk m1 k0 k1 o1 c1=>?_⟩;rw[dX aC aC]at k1;refine⟨λx=>((x.2.1.length+x.1:Nat):Int)<=n/\(∀c∈x.2.1,0<=c/\c<n)/\x.2.1.Nodup/\aL m x.2.2 cb/\aJ x.2.2 h cb,λx=>x.1,⟨(k.toNat,[],m1),⟨by simp;omega,by simp,by simp,o1,c1⟩,by rw[show k=(k.toNat:Int)by omega];exact MT⟩,?_⟩;rintro⟨i,l,m2⟩ ⟨hi,hr,hn,o2,c2⟩;dsimp only at hi hr hn o2 c2⊢
 refine aE (λhlt=>?_) (λhge=>?_)
 .refine⟨cb,n,rfl,c2,λc m3 c0 c3 o3 c4=>?_⟩;have hcn:c<n:=by omega
  refine⟨λx=>x.2.2=(c,i,l,m3)/\x.1<=l.length/\(x.2.1=true↔c∈l.take x.1),λx=>l.length-x.1,⟨(0,false,c,i,l,m3),⟨rfl,by simp,by simp⟩,by rw[List.length_map];exact MT⟩,?_⟩;rintro⟨t,b,c',i',l',m4⟩ ⟨e,ht,hb⟩;simp only[Prod.mk.injEq]at e;obtain⟨rfl,rfl,rfl,rfl⟩:=e;dsimp only at ht hb⊢
  refine aE (λh1=>?_) (λh1=>?_)
  .have htl:t<l'.length:=by omega
   have hw:IntKind.i64.wrap ((t:Int)+1)=((t+1:Nat):Int):=jA aC
   have hm:(c'∈l'.take (t+1))↔(c'∈l'.take t\/l'[t]=c'):=by
    rw[List.take_add_one,List.getElem?_eq_getElem htl,Option.toList_some,List.mem_append,List.mem_singleton,eq_comm (a:=c')]
   rw[hw];refine⟨aC,by rw[List.length_map];omega,[.int .i64 l'[t]],by rw[List.getElem?_map,show((t:Int)).toNat=t from rfl,List.getElem?_eq_getElem htl];rfl,l'[t],rfl,aB (λe=>?_) (λe=>?_)⟩
   .exact⟨(t+1,true,c',i',l',m4),⟨rfl,htl,by rw[hm];simp[hb.1 e]⟩,by show l'.length-(t+1)<l'.length-t;omega,MT⟩
   .exact⟨(t+1,l'[t]==c',c',i',l',m4),⟨rfl,htl,by rw[hm];have h9:¬c'∈l'.take t:=λh=>(by rw[hb.2 h]at e;cases e);simp[h9]⟩,by show l'.length-(t+1)<l'.length-t;omega,MT⟩
  .rw[List.take_of_length_le aC]at hb
   have hw:IntKind.i64.wrap ((i':Int)-1)=((i'-1:Nat):Int):=by
    rw[show(i':Int)-1=((i'-1:Nat):Int)by omega];exact dX aC aC
   rw[hw];refine aB (λe=>?_) (λe=>?_)
   .have hcl:c'∉l':=λh2=>by rw[hb.2 h2]at e;cases e
    refine⟨by rw[List.length_map];omega,by rw[List.length_map];omega,(i'-1,l'++[c'],m4),⟨by simp;omega,λx hx=>?_,?_,o2.trans o3,c4⟩,by show i'-1<i';omega,by rw[List.map_append];exact MT⟩
    .rcases List.mem_append.1 hx with hx|hx
     .exact hr x hx
     .rw[List.mem_singleton.1 hx];exact⟨c0,hcn⟩
    .rw[List.nodup_append];exact⟨hn,by simp,λa ha b hb=>by rw[List.mem_singleton.1 hb];exactλe=>hcl (e▸ha)⟩
   .exact⟨(i'-1,l',m4),⟨by show((l'.length+(i'-1):Nat):Int)<=n;omega,hr,hn,o2.trans o3,c4⟩,by show i'-1<i';omega,MT⟩
 .exactλs h' le hri=>hK l s m2 h' le ⟨hri,aC⟩ hr hn aC o2 (c2.mono le)
theorem VF:Sound Tryz.prog 32 alZ:=by
 refine iJ Tryz.func32 ?_;rintro cvs m h K ⟨s,t,l,r,rfl,hs,ht,hl,hK⟩;refine⟨Y9 s t m h,rfl,aD Hn aF,Qt s t m h K,by kernel_rfl,?_⟩;dsimp only[Qt,push_cast];have hsl:=bV.slen hs;have hll:=hs.len;refine⟨λx=>x.1<=x.2/\x.2<=l.length/\(∀(j:Nat) y,j<x.1->l[j]? =some y->eE y r<0)/\(∀(j:Nat) y,x.2<=j->l[j]? =some y->0<=eE y r),λx=>x.2-x.1,⟨(0,l.length),⟨by simp,by simp,λj y hj=>by simp at hj,λj y hj hy=>by have:=(List.getElem?_eq_some_iff.1 hy).1;simp at hj;omega⟩,by rw[hsl];exact MT⟩,?_⟩;rintro⟨lo,hi⟩ ⟨h1,h2,h3,h4⟩;dsimp only at h1 h2 h3 h4⊢
 have lt:∀{i j:Nat}{x y},l[i]? =some x->l[j]? =some y->i<j->eE x y<0:=fun{i j x y} hx hy hij=>by
  obtain⟨hi1,rfl⟩:=List.getElem?_eq_some_iff.1 hx;obtain⟨hj1,rfl⟩:=List.getElem?_eq_some_iff.1 hy;exact List.pairwise_iff_getElem.1 hl i j hi1 hj1 hij
 refine aE (λhlt=>?_) (λhge=>?_)
 .have e1:IntKind.i64.wrap ((hi:Int)-(lo:Int))=((hi-lo:Nat):Int):=by
   rw[show(hi:Int)-(lo:Int)=((hi-lo:Nat):Int)by omega];exact dX aC aC
  have e2:(((hi-lo:Nat):Int)).tdiv 2=(((hi-lo)/2:Nat):Int):=by
   rw[Int.tdiv_eq_ediv_of_nonneg aC];rfl
  have e3:IntKind.i64.wrap ((((hi-lo)/2:Nat):Int))=(((hi-lo)/2:Nat):Int):=dX aC aC
  have e4:IntKind.i64.wrap ((lo:Int)+(((hi-lo)/2:Nat):Int))=((lo+(hi-lo)/2:Nat):Int):=by
   rw[show(lo:Int)+(((hi-lo)/2:Nat):Int)=((lo+(hi-lo)/2:Nat):Int)by omega];exact dX aC aC
  rw[e1,e2,e3,e4];generalize hm:lo+(hi-lo)/2=k;have hk1:lo<=k:=by omega
  have hk2:k<hi:=by omega
  rw[jA aC];have hkl:k<l.length:=by omega
  obtain⟨b,o,u,ea,rd,hv⟩:=bV.at hs (List.getElem?_eq_getElem hkl);refine⟨by decide,b,o,ea,aC,aC,u,.imm rd,u,t,l[k],r,rfl,hv,ht,aE (λh5=>?_) (λh5=>?_)⟩
  .refine⟨(k+1,hi),⟨by show k+1<=hi;omega,h2,λj y hj hy=>?_,h4⟩,by show hi-(k+1)<hi-lo;omega,MT⟩;by_cases hjk:j=k
   .subst hjk;rw[List.getElem?_eq_getElem hkl]at hy;cases hy;exact h5
   .exact GF (lt hy (List.getElem?_eq_getElem hkl) (by dsimp only at hj;omega)) h5
  .refine⟨(lo,k),⟨hk1,by show k<=l.length;omega,h3,λj y hj hy=>?_⟩,by show k-lo<hi-lo;omega,MT⟩;by_cases hjk:j=k
   .subst hjk;rw[List.getElem?_eq_getElem hkl]at hy;cases hy;omega
   .have h6:=lt (List.getElem?_eq_getElem hkl) hy (by dsimp only at hj;omega);refine Int.not_lt.1 λh7=>?_;exact h5 (GF h6 h7)
 .have e:lo=hi:=by omega
  subst e;refine aE (λh5=>?_) (λh5=>?_)
  .have hlo:lo<l.length:=by omega
   obtain⟨b,o,u,ea,rd,hv⟩:=bV.at hs (List.getElem?_eq_getElem hlo);refine⟨b,o,ea,aC,h5,u,.imm rd,u,t,l[lo],r,rfl,hv,ht,?_⟩
   have e2:(eE l[lo] r==0)=Lu l r:=by
    rw[Bool.eq_iff_iff,beq_iff_eq,Gj,jQ];refine⟨λe=>e▸List.getElem_mem hlo,λhm=>?_⟩;obtain⟨j,hj⟩:=List.getElem?_of_mem hm;have hz:eE r r=0:=jQ.2 rfl;by_cases h6:j<lo
    .have:=h3 j r h6 hj;omega
    .by_cases h7:j=lo
     .subst h7;exact(List.getElem?_eq_some_iff.1 hj).2
     .have h8:=lt (List.getElem?_eq_getElem hlo) hj aC;have h9:=h4 lo _ (Nat.le_refl _) (List.getElem?_eq_getElem hlo);omega
   rw[e2];exact hK
  .have e2:Lu l r=false:=by
    rw[T1];intro hm;obtain⟨j,hj⟩:=List.getElem?_of_mem hm;have hz:eE r r=0:=jQ.2 rfl;have:=h3 j r (by have:=(List.getElem?_eq_some_iff.1 hj).1;omega) hj;omega
   rw[e2]at hK;exact hK
theorem Ru{gr:List Int}{a b:List VV}{i:Nat}{c:Int}(hc:gr[i]? =some c):qE (gr.take (i+1)) a b=true↔qE (gr.take i) a b=true/\a.getD c.toNat zeroV=b.getD c.toNat zeroV:=by
 rw[uG,uG,List.take_add_one,hc,Option.toList_some];unfold pick;rw[List.map_append,List.map_append];constructor
 .intro h;obtain⟨h1,h2⟩:=List.append_inj h (by simp);exact⟨h1,by simpa using h2⟩
 .rintro⟨h1,h2⟩;rw[h1,List.map_singleton,List.map_singleton,h2]
theorem VE:Sound Tryz.prog 33 Rj:=by
 refine iJ Tryz.func33 ?_;rintro cvs m h K ⟨g,s,t,gr,a,b,rfl,hg,hs,ht,ha,hb,hK⟩;refine⟨Y8 g s t m h,rfl,aF,Qs g s t m h K,by kernel_rfl,?_⟩;dsimp only[Qs,push_cast];have hgl:=hg.slen;have hsl:=bV.slen hs;have htl:=bV.slen ht;refine⟨λi=>i<=gr.length/\qE (gr.take i) a b=true,λi=>gr.length-i,⟨0,⟨aC,by rw[uG];rfl⟩,MT⟩,?_⟩;rintro i ⟨hi,hsm⟩;refine aE (λhlt=>?_) (λhge=>?_)
 .obtain⟨c,hci⟩:=fI hgl hlt;obtain⟨b1,o1,e1,rd1⟩:=hg.at' hci;obtain⟨h1,h2⟩:=ha.at_ c (List.mem_of_getElem? hci);have h3:=(hb.at_ c (List.mem_of_getElem? hci)).2;obtain⟨b2,o2,v,e2,rd2,hv⟩:=bV.at hs (i:=c.toNat) (List.getElem?_eq_getElem aC);obtain⟨b3,o3,w,e3,rd3,hw⟩:=bV.at ht (i:=c.toNat) (List.getElem?_eq_getElem aC);have ev:a.getD c.toNat zeroV=v:=by rw[List.getD_eq_getElem?_getD,List.getElem?_eq_getElem (show c.toNat<a.length by omega)];exact hv
  have ew:b.getD c.toNat zeroV=w:=by rw[List.getD_eq_getElem?_getD,List.getElem?_eq_getElem (show c.toNat<b.length by omega)];exact hw
  have hst:=Ru (a:=a) (b:=b) hci;rw[ev,ew]at hst;refine⟨b1,o1,e1,aC,hlt,c,.imm rd1,b2,o2,e2,h1,aC,v,.imm rd2,b3,o3,e3,h1,aC,w,.imm rd3,Up v w,Ee v w,aB (λe=>?_) (λe=>?_)⟩
  .have hne:¬v=w:=λe5=>by rw[JD.2 e5]at e;cases e
   have e6:qE gr a b=false:=by
    rw[Bool.eq_false_iff];intro e7;rw[uG]at e7;have:=(uG (gr:=gr.take (i+1)) (x:=a) (y:=b)).2 (by simp only[pick]at e7⊢;rw[List.map_take,List.map_take,e7]);exact hne (hst.1 this).2
   rw[e6]at hK;exact hK
  .have heq:v=w:=JD.1 (by simpa using e);have hgl2:=hg.len;rw[jA aC];exact⟨i+1,⟨aC,hst.2 ⟨hsm,heq⟩⟩,by show gr.length-(i+1)<gr.length-i;omega,MT⟩
 .rw[List.take_of_length_le aC]at hsm;rw[hsm]at hK;exact hK
def ZW:Vc.Spec:=λcvs m h K=>∃v s sl st w q,cvs=[aS v,ZR sl,aQ w]/\gM h s v/\En h sl st/\dK h q w/\jN m/\((fB s [] q).2=0->qD s st=0->Ro st q)/\∀s' h',PH.le h h'->Rows h' s' (AW s st q).1->K (.tup [cS s',cI (AW s st q).2]) m h'
def aaZ:Vc.Spec:=λcvs m h K=>∃v s sl st w q,cvs=[aS v,ZR sl,aQ w]/\gM h s v/\En h sl st/\dK h q w/\jN m/\((fB s [] q).2=0->qD s st=0->Ro st q)/\∀s' h',PH.le h h'->Rows h' s' (AW s st q).1->K (cS s') m h'
noncomputable def W0(w:QV)(sl:Sl):Ctx:=dN [(55,wM),(56,De),(57,TB),(58,OF)]
 [(10,{A:=Nat×List Sl×Sl×MH×PH,st:=λ⟨i,us,s,m,h⟩=>cE 54 57 [(4,.at (.ptr 4 0)),(5,.at (.ptr 5 0)),(12,.at (.lst 34)),(35,sv s),(36,iv s.len),(37,iv i)] [(4,.cells 25 [.val (.slice sl.a sl.len sl.cap)]),(5,.cells 38 (w.enc.map .val)),(34,.lst 53 1 (us.map eS))] m h})] [] [] false
def Mt(v:bH)(sl:Sl)(w:QV)(m:MH)(h:PH)(K:CV->MH->PH->Prop):Prop:=
  DJ (bT (bR v) (bI Dc (bJ w))) h (λs p q _ h1=>fQ (fB s p q).2 0 (K (CV.tup (bI Dc (CV.val (eW (fB s p q).2)))) m h1) (jX (λv1 s1=>uO (λs2 s3=>aA (bT (bR v) (bI (fK 3) (jM (aR sl)))=bT (bR v1) (bI (fK 3) (jM (aR s2)))) (gM h1 s1 v1) (aA (Leaves h1 s2 s3) (mX s3.length) (fQ (qD s1 s3) 0 (dM K (qD s1 s3) m h1) (kK (λv2 q1=>aH (fH (bJ w) (bJ v2)) (dK h1 q1 v2) (tO q1<=900000) (kP (λs4 h2=>dZ h1 h2 (Ints h2 s4 (jO q1)) (aA (cN (aG s4)) (aG s4<=aG s4) (aA (pK (aG s4*24)) (pK (aG s4)) (F4 (λI x=>aA (I x) (eP 4) (aA dU (eL 34) (aA (aZ s4 (dL x)) (cH s4 (dL x)) (aA (bG x.1) (pZ (w8 sl)) (aA (eT w) (dJ 53 1 (List.replicate (aG s4).toNat
 iQ)=dJ 53 1 (iF x)) (aA (cO m (fE x)) (dO h2 (fE x)) True)))))) (λI m1 x=>I x->bD (↑x.1:Int) (aG (dL x)) (aT (λb o=>aH (aU (dL x).a b o) (0<=(↑x.1:Int)) ((↑x.1:Int)<aG (dL x)) (∃(y:Int),aM (fE x).1 (lH x) b (bB o x.1 1) (cK y)/\aT (λb1 o1=>aH (aU sl.a b1 o1) (0<=y) (y<aG sl) (∃(y1:Sl),aH (aM (fE x).1 (lH x) b1 (fL o1 y 1) (aR y1)) (0<=(↑x.1:Int)) ((↑x.1:Int)<kJ (iF x)) (∃(e:List Value),G7 (tG (iF x) (qG x.1) e) (0<e.length) (λx1=>aA (I x1) (m1 x1<m1 x) (aA (eP 4) dU (aA (eL 34) (aZ (dL x) (dL x1)) (aA (cH (dL x) (dL x1)) (gS (aW x.1 1)=bX x1.1) (aA (pZ (w8 sl)) (eT w) (aA (dJ 53 1 (List.set (iF x) (qG x.1) (eR y1::
 List.drop 1 e))=dJ 53 1 (iF x1)) (cO (fE x).1 (fE x1)) (kI (lH x) (fE x1)))))))))))))) (aX (lH x) 1 (iF x) (λs5 h3=>∃(l:Sl)(v3:QV)(l1:List (List (List VV)))(q2:Query),aA (fW s5 (bJ w)=fW l (bJ v3)) (Leaves h3 l l1) (aA (dK h3 q2 v3) (TX l1 q2 0) (aH (jN (fE x).1) ((jL l1 q2 0).1.length<=1000000) (BQ (jL l1 q2 0).1 (λr=>yZ r)) (kP (λs6 h4=>dZ h3 h4 (Rows h4 s6 (jL l1 q2 0).1) (K (CV.tup (bU (kU s6) 0)) (fE x).1 h4)))))))))))))))))))))
def VH(v:bH)(sl:Sl)(w:QV)(m:MH)(h:PH)(K:CV->MH->PH->Prop):Prop:=
  jX (λv1 s=>uO (λs1 s2=>kK (λw1 q=>aA (bT (bR v) (bI (jM (aR sl)) (bJ w))=bT (bR v1) (bI (jM (aR s1)) (bJ w1))) (gM h s v1) (aA (En h s1 s2) (dK h q w1) (aA (jN m) (Aj s q s2) (mI h (AW s s2 q).1 K m))))))
theorem R3:Sound Tryz.prog 21 ZW:=by
 refine iJ Tryz.func21 ?_;rintro cvs m h K ⟨v,s,sl,st,w,q,rfl,hs,hst,hq,hT,hb,hK⟩;refine⟨W0 w sl,rfl,aD f55_sound (aD f56_sound (aD f57_sound (aD f58_sound aF))),Mt v sl w m h K,by kernel_rfl,?_⟩;dsimp only[Mt,push_cast];unfold AW at hK;refine⟨v,cJ,w,s,[],q,rfl,hs,jK h,hq,λsl1 h1 le1 _=>aB (λe=>?_) (λe=>?_)⟩
 .rw[if_pos (by simpa using e)]at hK;exact hK ⟨none,0,0⟩ h1 le1 (bV.nil _ _ _ _)
 have e:(fB s [] q).2=0:=by simpa using e
 rw[if_neg (by simp[e])]at hK;refine⟨v,s,sl,st,rfl,hs.mono le1,(hst.mono le1).lea,hst.len,aB (λe2=>?_) (λe2=>?_)⟩
 .rw[if_pos (by simpa using e2)]at hK;exact hK ⟨none,0,0⟩ h1 le1 (bV.nil _ _ _ _)
 have e2:qD s st=0:=by simpa using e2
 rw[if_neg (by simp[e2])]at hK;dsimp only at hK;obtain⟨c,c1,c2,c3⟩:=hb e e2;obtain⟨_,_,hsm,hkz⟩:=zU e;have hkq:cA s [] q=((cA s [] q).1,0):=Prod.ext rfl hkz;obtain⟨ok,ev,rel,len⟩:=Rt e2 hst.val c2 c1 hkq c3;have hcnt:=GP hsm;have hsl:=GV q;have hin:=Fq hkq;have htl:=(JR e2).2.1;refine⟨w,q,rfl,hq.mono le1,aC,λs' h2 le2 hi=>?_⟩;have hil:=hi.slen;have hst2:=hst.mono (le1.trans le2);have hstl:=bV.slen hst2.lea;generalize hts:jO q=ts at hi hil hsl hin;refine⟨aC,aC,aC,aC,λz=>z.1<=ts.length/\z.2.2.1=s'/\z.2.2.2.1=m/\z.2.2.2.2=h2/\∃us,z.2.1=us++List.replicate (ts.length-z.1) ⟨none,0,0⟩/\us.length=z.1/\∀(j:Nat) u t,us[j]? =some u->ts[j]? =some t->Rows h2 u (st.getD t.toNat []),λz=>ts.length-z.1,⟨(0,List.replicate ts.length ⟨none,0,0⟩,s',m,h2),⟨by simp,rfl,rfl,rfl,[],by simp,rfl,λj u t h=>by simp at h⟩,?_⟩,?_⟩
 .rw[show((s'.len:Int)).toNat=ts.length by omega];dsimp only;rw[List.map_replicate];exact MT
 rintro⟨i,l,s2,m2,h3⟩ ⟨hi1,e3,e4,e5,us,hl,hul,hrow⟩;dsimp only at hi1 e3 e4 e5 hl hul hrow⊢
 subst e3 e4 e5;refine aE (λhlt=>?_) (λhge=>?_)
 .obtain⟨t,hx⟩:=fI hil hlt;obtain⟨b,o,ea,rd⟩:=hi.at' hx;have ht:=hin t (List.mem_of_getElem? hx);have htn:t.toNat<st.length:=by omega
  have e6:st[t.toNat]? =some (st.getD t.toNat []):=by rw[List.getD_eq_getElem?_getD,List.getElem?_eq_getElem htn];rfl
  obtain⟨b2,o2,u,ea2,rd2,hr⟩:=bV.at hst2.lea e6;have hll:l.length=ts.length:=by rw[hl,List.length_append,List.length_replicate];omega
  have hev:l[i]? =some ⟨none,0,0⟩:=by
   rw[hl,List.getElem?_append_right aC,List.getElem?_replicate,if_pos aC]
  refine⟨b,o,ea,aC,aC,t,.imm rd,b2,o2,ea2,ht.1,aC,u,.imm rd2,aC,by rw[List.length_map];omega,[tT],by rw[List.getElem?_map,show((i:Int)).toNat=i from rfl,hev];rfl,by simp,(i+1,l.set i u,s2,m2,h3),⟨by show i+1<=ts.length;omega,rfl,rfl,rfl,us++[u],?_,by simp[hul],λj u' t' h7 h8=>?_⟩,by show ts.length-(i+1)<ts.length-i;omega,?_⟩
  .dsimp only;rw[hl,List.set_append,if_neg aC,List.append_assoc];congr 1;rw[show ts.length-i=(ts.length-(i+1))+1 by omega,List.replicate_succ,show i-us.length=0 by omega];rfl
  .by_cases hj:j<us.length
   .rw[List.getElem?_append_left hj]at h7;exact hrow j u' t' h7 h8
   .rw[List.getElem?_append_right aC]at h7;have:j-us.length=0:=by have:=(List.getElem?_eq_some_iff.1 h7).1;simp at this;omega
    rw[this]at h7;simp at h7;subst h7;have:j=i:=by omega
    subst this;rw[hx]at h8;cases h8;exact hr
  .dsimp only
   have e9:((l.map eS).set ((i:Int)).toNat (eR u::List.drop 1 [tT]))=(l.set i u).map eS:=by
    rw[List.map_set];rfl
   rw[e9,jA aC];exact MT
 .have:i=ts.length:=by omega
  subst this;rw[Nat.sub_self,List.replicate_zero,List.append_nil]at hl;subst hl;intro s3 h4 le4 hri;refine⟨s3,w,nO st q,q,rfl,⟨⟨l,hri,by rw[nO,List.length_map,hts,hul],λi x hx=>?_⟩,by rw[nO,List.length_map,hts];omega⟩,hq.mono ((le1.trans le2).trans le4),ok,hT,by rw[ev];exact len,λr hr=>?_,λs5 h5 le5 hr=>hK s5 h5 (((le1.trans le2).trans le4).trans le5) (by rw[<-ev];exact hr)⟩
  .rw[nO,hts,List.getElem?_map]at hx;cases e7:ts[i]? with
   |none=>rw[e7]at hx;cases hx
   |some t=>
    rw[e7]at hx;simp only[Option.map_some,Option.some.injEq]at hx;subst hx;have hil2:=(List.getElem?_eq_some_iff.1 e7).1;exact⟨l[i],List.getElem?_eq_getElem aC,bV.mono (hrow i _ t (List.getElem?_eq_getElem aC) e7) le4 λr t hv=>cR.mono hv le4⟩
  .rw[ev]at hr;have:=(rel.row r hr).len;omega
theorem RS:Sound Tryz.prog 29 aaZ:=by
 refine iJ Tryz.func29 ?_;rintro cvs m h K ⟨v,s,sl,st,w,q,rfl,hs,hst,hq,hT,hb,hK⟩;refine⟨dN [(21,ZW)] [] [] [] false,rfl,aD R3 aF,VH v sl w m h K,by kernel_rfl,?_⟩;exact⟨v,s,sl,st,w,q,rfl,hs,hst,hq,hT,hb,hK⟩
noncomputable def LX:List (Nat×Vc.Spec):=(31,Rl)::(32,alZ)::(33,Rj)::(34,Dj)::(29,aaZ)::[(11,alX),(12,XZ),(13,TC 5),(25,wM),(14,XR),(27,Z0),(24,ZU),(23,Yf),(15,E9),(16,Ls)]
theorem Rx:∀g S,assoc LX g=some S->Sound Tryz.prog g S:=aD VG (aD VF (aD VE (aD D1 (aD RS (aD V4 (aD V3 (aD (Uj 5) (aD Mq (aD V0 (aD VJ (aD VL (aD VM (aD Gi (aD yP aF))))))))))))))
abbrev El(g o:Sl)(li:Int)(s:Sl):QV:=⟨9,0,gT,cJ,cJ,g,o,li,s⟩
noncomputable def afQ:Ctx:=wH LX
 [(14,{A:=Nat×bH×QV×Sl×QV×QV×QV×Sl×Sl×MH×PH,st:=λ⟨i,sc,a,st,q,r,le,rows,kept,m,h⟩=>cE 136 137 [(4,.at (.ptr 4 0)),(5,.at (.ptr 5 0)),(8,.at (.ptr 8 0)),(9,.at (.ptr 9 0)),(10,.at (.ptr 10 0)),(11,.at (.ptr 11 0)),(12,sv rows),(13,sv kept),(76,sv rows),(77,iv rows.len),(78,iv i)] [(4,.cells 43 (sc.enc.map .val)),(5,.cells 38 (a.enc.map .val)),(8,.cells 25 [.val (.slice st.a st.len st.cap)]),(9,.cells 38 (q.enc.map .val)),(10,.cells 38 (r.enc.map .val)),(11,.cells 38 (le.enc.map .val))] m h}),
  (18,{A:=Nat×Nat×Bool×Sl×Nat×bH×QV×Sl×QV×QV×QV×Sl×Sl×MH×PH,st:=λ⟨j,n,b,x,i,sc,a,st,q,r,le,rows,kept,m,h⟩=>cE 136 137 [(4,.at (.ptr 4 0)),(5,.at (.ptr 5 0)),(8,.at (.ptr 8 0)),(9,.at (.ptr 9 0)),(10,.at (.ptr 10 0)),(11,.at (.ptr 11 0)),(12,sv rows),(13,sv kept),(15,sv x),(16,iv n),(17,bv b),(76,sv rows),(77,iv rows.len),(78,iv i),(85,sv rows),(86,iv rows.len),(87,iv j)] [(4,.cells 43 (sc.enc.map .val)),(5,.cells 38 (a.enc.map .val)),(8,.cells 25 [.val (.slice st.a st.len st.cap)]),(9,.cells 38 (q.enc.map .val)),(10,.cells 38 (r.enc.map .val)),(11,.cells 38 (le.enc.map .val))] m h})]
 [(13,{A:=bH×QV×Sl×QV×QV×QV×Sl×Sl×MH×PH,st:=λ⟨sc,a,st,q,r,le,rows,kept,m,h⟩=>cE 136 137 [(4,.at (.ptr 4 0)),(5,.at (.ptr 5 0)),(8,.at (.ptr 8 0)),(9,.at (.ptr 9 0)),(10,.at (.ptr 10 0)),(11,.at (.ptr 11 0)),(12,sv rows),(13,sv kept)] [(4,.cells 43 (sc.enc.map .val)),(5,.cells 38 (a.enc.map .val)),(8,.cells 25 [.val (.slice st.a st.len st.cap)]),(9,.cells 38 (q.enc.map .val)),(10,.cells 38 (r.enc.map .val)),(11,.cells 38 (le.enc.map .val))] m h}),
  (7,{A:=Nat×bH×QV×Sl×QV×MH×PH,st:=λ⟨cb,sc,a,st,q,m,h⟩=>cE 136 137 [(3,pv cb),(4,.at (.ptr 4 0)),(5,.at (.ptr 5 0)),(8,.at (.ptr 8 0)),(9,.at (.ptr 9 0))] [(4,.cells 43 (sc.enc.map .val)),(5,.cells 38 (a.enc.map .val)),(8,.cells 25 [.val (.slice st.a st.len st.cap)]),(9,.cells 38 (q.enc.map .val))] m h})] [] [100048,100052,100059] [] false
set_option maxRecDepth 100000 in
abbrev Dx(a:Nat)(b:Sl)(c:MH)(d:PH)(e:Nat->Int->(List Int)->Sl->MH->PH->Prop):Prop:=L4 (λx x1=>aA (bU (rX a 0) (pD b 2)=bU (rX x 0) x1) (aJ c d x) (aA (1<=x1) (x1<=1000) (∀(x2:List Int)(x3:Sl),eA (λx4 x5=>dZ d x5 (Ints x5 x3 x2) (bC (∀(x6:Int),List.Mem x6 x2->cN x6/\x6<x1) (List.Pairwise (fun(x6:Int)=>fun(x7:Int)=>x6≠x7) x2) (e x x1 x2 x3 x4 x5))))))
abbrev dY(a:PH)(b:Nat)(c:List Value)(d:Sl->PH->(Nat×bH×QV×Sl×QV×MH×PH)->Prop):Prop:=kP (λx x1=>bC (PH.le a x1) (cW x1 x b (bL c)) (∃(x2:Nat×bH×QV×Sl×QV×MH×PH),d x x1 x2))
noncomputable abbrev Ih(a:Nat×bH×QV×Sl×QV×MH×PH):MH×PH:=a.2.2.2.2.2
abbrev bO(a:Nat×bH×QV×Sl×QV×MH×PH->Prop)(b:Nat×bH×QV×Sl×QV×MH×PH)(c:Nat)(d:Prop)(e:QV)(g:Sl)(i:Prop)(j:MH)(k:PH):Prop:=aA (a b) (cF c b.1) (aA (eP 4) dU (aA gW (eP 9) (aA d (dG e b.2.2.1) (aA (oQ 25 (w8 g)=oQ 25 (w8 b.2.2.2.1)) i (aA (cO j (Ih b)) (dO k (Ih b)) True)))))
abbrev bP(a:bH)(b:Nat×bH×QV×Sl×QV×MH×PH):Prop:=oQ 43 (Ii a)=oQ 43 (Ii b.2.1)
noncomputable abbrev oL(a:Nat×bH×QV×Sl×QV×MH×PH):QV:=a.2.2.2.2.1
abbrev bN(a b:Sl)(c:Int)(d:Sl)(e:Nat×bH×QV×Sl×QV×MH×PH):Prop:=oQ 38 (AM 9 (AM 0 (EP 0 (gR OA OA (gR OA (tZ a) (gR (tZ b) (hX c) (w8 d)))))))=wC (oL e)
abbrev gG(a:Nat)(b:MH)(c:PH)(d:Int->MH->(Nat×bH×QV×Sl×QV×MH×PH)->Prop):Prop:=bZ a 4 b c 0 (λx x1 x2=>bC (aL b x2 x) (aJ x2 c x) (∃(x3:Nat×bH×QV×Sl×QV×MH×PH),d x1 x2 x3))
abbrev Jk(a b c:Prop):Prop:=aA a (eP 4) (aA dU gW (aA (eP 9) kC (aA (eP 11) b c)))
noncomputable abbrev oM(a:bH×QV×Sl×QV×QV×QV×Sl×Sl×MH×PH):QV×QV×QV×Sl×Sl×MH×PH:=a.2.2.2
noncomputable abbrev rP(a:Nat×bH×QV×Sl×QV×QV×QV×Sl×Sl×MH×PH):QV×QV×QV×Sl×Sl×MH×PH:=oM a.2
noncomputable abbrev kL(a:Nat×bH×QV×Sl×QV×QV×QV×Sl×Sl×MH×PH):Sl×Sl×MH×PH:=i6 (rP a)
noncomputable abbrev nN(a:Nat×bH×QV×Sl×QV×QV×QV×Sl×Sl×MH×PH):Sl:=(kL a).1
noncomputable abbrev BZ(a:Nat×bH×QV×Sl×QV×QV×QV×Sl×Sl×MH×PH):Sl:=a.2.2.2.1
noncomputable abbrev kE(a:Nat×Nat×Bool×Sl×Nat×bH×QV×Sl×QV×QV×QV×Sl×Sl×MH×PH):Sl×Sl×MH×PH:=kL a.2.2.2.2
noncomputable abbrev jV(a:Nat×Nat×Bool×Sl×Nat×bH×QV×Sl×QV×QV×QV×Sl×Sl×MH×PH):Sl:=(kE a).1
noncomputable abbrev vR(a:Nat×Nat×Bool×Sl×Nat×bH×QV×Sl×QV×QV×QV×Sl×Sl×MH×PH):Sl:=a.2.2.2.1
noncomputable abbrev yB(a:Nat×Nat×Bool×Sl×Nat×bH×QV×Sl×QV×QV×QV×Sl×Sl×MH×PH):Bool:=a.2.2.1
noncomputable abbrev yC(a:Nat×Nat×Bool×Sl×Nat×bH×QV×Sl×QV×QV×QV×Sl×Sl×MH×PH):Nat:=a.2.2.2.2.1
noncomputable abbrev Bu(a:Nat×Nat×Bool×Sl×Nat×bH×QV×Sl×QV×QV×QV×Sl×Sl×MH×PH):bH:=a.2.2.2.2.2.1
noncomputable abbrev yD(a:Nat×Nat×Bool×Sl×Nat×bH×QV×Sl×QV×QV×QV×Sl×Sl×MH×PH):QV:=a.2.2.2.2.2.2.1
noncomputable abbrev yE(a:Nat×Nat×Bool×Sl×Nat×bH×QV×Sl×QV×QV×QV×Sl×Sl×MH×PH):Sl:=a.2.2.2.2.2.2.2.1
noncomputable abbrev jE(a:Nat×Nat×Bool×Sl×Nat×bH×QV×Sl×QV×QV×QV×Sl×Sl×MH×PH):QV×QV×QV×Sl×Sl×MH×PH:=rP a.2.2.2.2
noncomputable abbrev tF(a:Nat×Nat×Bool×Sl×Nat×bH×QV×Sl×QV×QV×QV×Sl×Sl×MH×PH):Nat->Nat->Option Value:=(fS (kE a)).2
abbrev F5(a:Prop)(b c:Nat)(d:Prop):Prop:=aA a (b<c) (aA (eP 4) dU (aA gW (eP 9) (aA kC (eP 11) d)))
abbrev vS(a b:Nat×Nat×Bool×Sl×Nat×bH×QV×Sl×QV×QV×QV×Sl×Sl×MH×PH):Prop:=aZ (jV a) (jV b)
attribute [push_cast] Dx dY Ih bO bP oL bN gG Jk oM rP kL nN BZ kE jV vR yB yC Bu yD yE jE tF F5 vS
def Ud(s:Sl)(m:MH)(h:PH)(K:CV->MH->PH->Prop):Prop:=
  ∃(s1:Sl)(c:List UInt8)(m1:Nat),aA (bU (kU s) 220=bU (kU s1) (↑m1:Int)) (cW h s1 1 (bM c)) (aA (s1.len<=s1.cap) (mX m1) (∀(c1:Nat),eA (λm2 h1=>dZ h h1 (B0 m c1) (bC (aL m m2 c1) (aJ m2 h1 c1) (∃(c2:Nat),aA (fH (rX c1 0) (rX c2 0)) (aJ m2 h1 c2) (∀(s2:pV)(v:bH),eA (λm3 h2=>bC (pS s2) (gM h2 s2 v) (dZ h1 h2 (aL m2 m3 c2) (jG m3 h2 c2 (∃(c3:Nat),CP (λs3 p=>zE (λs4 p1=>∃(d:Int),aA (rX c1 0::bT (bR v) (bU Dc 2)=rX c3 0::bT (bR s3) (bU (kU p) d)) (aJ m3 h2 c3) (aA (gM h2 s4 s3) (eG s4=0) (aA (jU (s4.tables=[])) (Ints h2 p p1) (aA (gL p1) (nD (EN p1)) (aH (Int.negSucc 0<=d) (d<=1000) ((d+1).toNat<5) (DV (λw q=>eA (λm4 h3=>dZ h2 h3 (dK h3 q
 w) (bC (QW q) (zN d.toNat q) (bC ((fB s4 p1 q).2=0) (aL m3 m4 c3) (jG m4 h3 c3 (DJ (bT (bR v) (bI Dc (bJ w))) h3 (λ_ _ _ s5 h4=>∃(c4:Nat),jX (λv1 s6=>aA (rX c1 0::bU (jM (bR v)) 3=rX c4 0::bU (jM (bR v1)) 3) (aJ m4 h4 c4) (aA (gM h4 s6 v1) (pS s6) (∀(s7:List (List (List VV)))(s8:Sl),eA (λm5 h5=>dZ h4 h5 (En h5 s8 s7) (bC (HV s6 s7) (aL m4 m5 c4) (jG m5 h5 c4 (∃(I:Nat×bH×QV×Sl×QV×MH×PH->Prop),aH (Dx c1 s5 m5 h5 (λc5 n l s9 m6 h6=>bC ((↑l.length:Int)<=n) (aL m5 m6 c5) (jG m6 h6 c5 (aH (bZ c1 (aG s5) m6 h6 0 (λc6 k m7=>bC (aL m6 m7 c6) (aJ m7 h6 c6) (aH (fZ c1 2 m7 h6 (λr m8=>aA (aX h6 2 (bL (bW k r)) (λa h7=>aH (bZ c1 4 m8 h7 0 (λc7 k1 m9=>bC
 (aL m8 m9 c7) (aJ m9 h7 c7) (dY h7 21 w.enc (λa1 h8 x=>bO I x c1 (bP v x) w s8 (bN s9 a k1 a1 x) m9 h8)/\dY h7 21 w.enc (λa1 h8 x=>bO I x c1 (bP v x) w s8 (bN s9 a k1 a1 x) m9 h8)))) (aX h7 21 (bL w.enc) (λa1 h8=>gG c1 m8 h8 (λk1 m9 x=>bO I x c1 (bP v x) w s8 (bN s9 a k1 a1 x) m9 h8)/\gG c1 m8 h8 (λk1 m9 x=>bO I x c1 (bP v x) w s8 (bN s9 a k1 a1 x) m9 h8))) (bZ c1 4 m8 h7 0 (λc7 k1 m9=>bC (aL m8 m9 c7) (aJ m9 h7 c7) (dY h7 21 w.enc (λa1 h8 x=>bO I x c1 (bP v x) w s8 (bN s9 a k1 a1 x) m9 h8)))) (aX h7 21 (bL w.enc) (λa1 h8=>gG c1 m8 h8 (λk1 m9 x=>bO I x c1 (bP v x) w s8 (bN s9 a k1 a1 x) m9 h8))))) (bZ c1 4 m8 h6 0 (λc7 k1 m9=>bC (aL m8 m9 c7) (aJ m9 h6 c7) (aH (aX h6 2 (bL (bW
 k r)) (λa h7=>dY h7 21 w.enc (λa1 h8 x=>bO I x c1 (bP v x) w s8 (bN s9 a k1 a1 x) m9 h8)/\dY h7 21 w.enc (λa1 h8 x=>bO I x c1 (bP v x) w s8 (bN s9 a k1 a1 x) m9 h8))) (aX h6 21 (bL w.enc) (λa h7=>dY h7 2 (bW k r) (λa1 h8 x=>bO I x c1 (bP v x) w s8 (bN s9 a1 k1 a x) m9 h8)/\dY h7 2 (bW k r) (λa1 h8 x=>bO I x c1 (bP v x) w s8 (bN s9 a1 k1 a x) m9 h8))) (aX h6 2 (bL (bW k r)) (λa h7=>dY h7 21 w.enc (λa1 h8 x=>bO I x c1 (bP v x) w s8 (bN s9 a k1 a1 x) m9 h8))) (aX h6 21 (bL w.enc) (λa h7=>dY h7 2 (bW k r) (λa1 h8 x=>bO I x c1 (bP v x) w s8 (bN s9 a1 k1 a x) m9 h8)))))) (aA (aX h6 21 (bL w.enc) (λa h7=>aH (aX h7 2 (bL (bW k r)) (λa1 h8=>gG c1 m8 h8 (λk1 m9 x=>bO I
 x c1 (bP v x) w s8 (bN s9 a1 k1 a x) m9 h8)/\gG c1 m8 h8 (λk1 m9 x=>bO I x c1 (bP v x) w s8 (bN s9 a1 k1 a x) m9 h8))) (bZ c1 4 m8 h7 0 (λc7 k1 m9=>bC (aL m8 m9 c7) (aJ m9 h7 c7) (dY h7 2 (bW k r) (λa1 h8 x=>bO I x c1 (bP v x) w s8 (bN s9 a1 k1 a x) m9 h8)/\dY h7 2 (bW k r) (λa1 h8 x=>bO I x c1 (bP v x) w s8 (bN s9 a1 k1 a x) m9 h8)))) (aX h7 2 (bL (bW k r)) (λa1 h8=>gG c1 m8 h8 (λk1 m9 x=>bO I x c1 (bP v x) w s8 (bN s9 a1 k1 a x) m9 h8))) (bZ c1 4 m8 h7 0 (λc7 k1 m9=>bC (aL m8 m9 c7) (aJ m9 h7 c7) (dY h7 2 (bW k r) (λa1 h8 x=>bO I x c1 (bP v x) w s8 (bN s9 a1 k1 a x) m9 h8)))))) (aX h6 2 (bL (bW k r)) (λa h7=>bZ c1 4 m8 h7 0 (λc7 k1 m9=>bC (aL m8 m9 c7) (aJ m9 h7 c7)
 (dY h7 21 w.enc (λa1 h8 x=>bO I x c1 (bP v x) w s8 (bN s9 a k1 a1 x) m9 h8)))/\aX h7 21 (bL w.enc) (λa1 h8=>gG c1 m8 h8 (λk1 m9 x=>bO I x c1 (bP v x) w s8 (bN s9 a k1 a1 x) m9 h8)))) (bZ c1 4 m8 h6 0 (λc7 k1 m9=>bC (aL m8 m9 c7) (aJ m9 h6 c7) (aX h6 2 (bL (bW k r)) (λa h7=>dY h7 21 w.enc (λa1 h8 x=>bO I x c1 (bP v x) w s8 (bN s9 a k1 a1 x) m9 h8))/\aX h6 21 (bL w.enc) (λa h7=>dY h7 2 (bW k r) (λa1 h8 x=>bO I x c1 (bP v x) w s8 (bN s9 a1 k1 a x) m9 h8))))/\aX h6 21 (bL w.enc) (λa h7=>aX h7 2 (bL (bW k r)) (λa1 h8=>gG c1 m8 h8 (λk1 m9 x=>bO I x c1 (bP v x) w s8 (bN s9 a1 k1 a x) m9 h8))/\bZ c1 4 m8 h7 0 (λc7 k1 m9=>bC (aL m8 m9 c7) (aJ m9 h7 c7) (dY h7 2 (bW k r)
 (λa1 h8 x=>bO I x c1 (bP v x) w s8 (bN s9 a1 k1 a x) m9 h8)))))))) (aX h6 21 (bL w.enc) (λa h7=>fZ c1 2 m7 h7 (λr m8=>aH (aX h7 2 (bL (bW k r)) (λa1 h8=>gG c1 m8 h8 (λk1 m9 x=>bO I x c1 (bP v x) w s8 (bN s9 a1 k1 a x) m9 h8)/\gG c1 m8 h8 (λk1 m9 x=>bO I x c1 (bP v x) w s8 (bN s9 a1 k1 a x) m9 h8))) (bZ c1 4 m8 h7 0 (λc7 k1 m9=>bC (aL m8 m9 c7) (aJ m9 h7 c7) (dY h7 2 (bW k r) (λa1 h8 x=>bO I x c1 (bP v x) w s8 (bN s9 a1 k1 a x) m9 h8)/\dY h7 2 (bW k r) (λa1 h8 x=>bO I x c1 (bP v x) w s8 (bN s9 a1 k1 a x) m9 h8)))) (aX h7 2 (bL (bW k r)) (λa1 h8=>gG c1 m8 h8 (λk1 m9 x=>bO I x c1 (bP v x) w s8 (bN s9 a1 k1 a x) m9 h8))) (bZ c1 4 m8 h7 0 (λc7 k1 m9=>bC (aL m8 m9 c7)
 (aJ m9 h7 c7) (dY h7 2 (bW k r) (λa1 h8 x=>bO I x c1 (bP v x) w s8 (bN s9 a1 k1 a x) m9 h8)))))/\fZ c1 2 m7 h7 (λr m8=>aX h7 2 (bL (bW k r)) (λa1 h8=>gG c1 m8 h8 (λk1 m9 x=>bO I x c1 (bP v x) w s8 (bN s9 a1 k1 a x) m9 h8))/\bZ c1 4 m8 h7 0 (λc7 k1 m9=>bC (aL m8 m9 c7) (aJ m9 h7 c7) (dY h7 2 (bW k r) (λa1 h8 x=>bO I x c1 (bP v x) w s8 (bN s9 a1 k1 a x) m9 h8)))))) (fZ c1 2 m7 h6 (λr m8=>aA (aX h6 2 (bL (bW k r)) (λa h7=>bZ c1 4 m8 h7 0 (λc7 k1 m9=>bC (aL m8 m9 c7) (aJ m9 h7 c7) (dY h7 21 w.enc (λa1 h8 x=>bO I x c1 (bP v x) w s8 (bN s9 a k1 a1 x) m9 h8)))/\aX h7 21 (bL w.enc) (λa1 h8=>gG c1 m8 h8 (λk1 m9 x=>bO I x c1 (bP v x) w s8 (bN s9 a k1 a1 x) m9 h8)))) (bZ c1
 4 m8 h6 0 (λc7 k1 m9=>bC (aL m8 m9 c7) (aJ m9 h6 c7) (aX h6 2 (bL (bW k r)) (λa h7=>dY h7 21 w.enc (λa1 h8 x=>bO I x c1 (bP v x) w s8 (bN s9 a k1 a1 x) m9 h8))/\aX h6 21 (bL w.enc) (λa h7=>dY h7 2 (bW k r) (λa1 h8 x=>bO I x c1 (bP v x) w s8 (bN s9 a1 k1 a x) m9 h8))))) (aX h6 21 (bL w.enc) (λa h7=>aX h7 2 (bL (bW k r)) (λa1 h8=>gG c1 m8 h8 (λk1 m9 x=>bO I x c1 (bP v x) w s8 (bN s9 a1 k1 a x) m9 h8))/\bZ c1 4 m8 h7 0 (λc7 k1 m9=>bC (aL m8 m9 c7) (aJ m9 h7 c7) (dY h7 2 (bW k r) (λa1 h8 x=>bO I x c1 (bP v x) w s8 (bN s9 a1 k1 a x) m9 h8))))))) (aX h6 21 (bL w.enc) (λa h7=>fZ c1 2 m7 h7 (λr m8=>aX h7 2 (bL (bW k r)) (λa1 h8=>gG c1 m8 h8 (λk1 m9 x=>bO I x c1
 (bP v x) w s8 (bN s9 a1 k1 a x) m9 h8))/\bZ c1 4 m8 h7 0 (λc7 k1 m9=>bC (aL m8 m9 c7) (aJ m9 h7 c7) (dY h7 2 (bW k r) (λa1 h8 x=>bO I x c1 (bP v x) w s8 (bN s9 a1 k1 a x) m9 h8))))))))) (aX h6 21 (bL w.enc) (λa h7=>bZ c1 (aG s5) m6 h7 0 (λc6 k m7=>bC (aL m6 m7 c6) (aJ m7 h7 c6) (fZ c1 2 m7 h7 (λr m8=>aH (aX h7 2 (bL (bW k r)) (λa1 h8=>gG c1 m8 h8 (λk1 m9 x=>bO I x c1 (bP v x) w s8 (bN s9 a1 k1 a x) m9 h8)/\gG c1 m8 h8 (λk1 m9 x=>bO I x c1 (bP v x) w s8 (bN s9 a1 k1 a x) m9 h8))) (bZ c1 4 m8 h7 0 (λc7 k1 m9=>bC (aL m8 m9 c7) (aJ m9 h7 c7) (dY h7 2 (bW k r) (λa1 h8 x=>bO I x c1 (bP v x) w s8 (bN s9 a1 k1 a x) m9 h8)/\dY h7 2 (bW k r) (λa1 h8 x=>bO I x c1 (bP v x) w
 s8 (bN s9 a1 k1 a x) m9 h8)))) (aX h7 2 (bL (bW k r)) (λa1 h8=>gG c1 m8 h8 (λk1 m9 x=>bO I x c1 (bP v x) w s8 (bN s9 a1 k1 a x) m9 h8))) (bZ c1 4 m8 h7 0 (λc7 k1 m9=>bC (aL m8 m9 c7) (aJ m9 h7 c7) (dY h7 2 (bW k r) (λa1 h8 x=>bO I x c1 (bP v x) w s8 (bN s9 a1 k1 a x) m9 h8)))))/\fZ c1 2 m7 h7 (λr m8=>aX h7 2 (bL (bW k r)) (λa1 h8=>gG c1 m8 h8 (λk1 m9 x=>bO I x c1 (bP v x) w s8 (bN s9 a1 k1 a x) m9 h8))/\bZ c1 4 m8 h7 0 (λc7 k1 m9=>bC (aL m8 m9 c7) (aJ m9 h7 c7) (dY h7 2 (bW k r) (λa1 h8 x=>bO I x c1 (bP v x) w s8 (bN s9 a1 k1 a x) m9 h8))))))/\bZ c1 (aG s5) m6 h7 0 (λc6 k m7=>bC (aL m6 m7 c6) (aJ m7 h7 c6) (fZ c1 2 m7 h7 (λr m8=>aX h7 2 (bL (bW k r)) (λa1 h8=>
 gG c1 m8 h8 (λk1 m9 x=>bO I x c1 (bP v x) w s8 (bN s9 a1 k1 a x) m9 h8))/\bZ c1 4 m8 h7 0 (λc7 k1 m9=>bC (aL m8 m9 c7) (aJ m9 h7 c7) (dY h7 2 (bW k r) (λa1 h8 x=>bO I x c1 (bP v x) w s8 (bN s9 a1 k1 a x) m9 h8)))))))) (bZ c1 (aG s5) m6 h6 0 (λc6 k m7=>bC (aL m6 m7 c6) (aJ m7 h6 c6) (fZ c1 2 m7 h6 (λr m8=>aA (aX h6 2 (bL (bW k r)) (λa h7=>bZ c1 4 m8 h7 0 (λc7 k1 m9=>bC (aL m8 m9 c7) (aJ m9 h7 c7) (dY h7 21 w.enc (λa1 h8 x=>bO I x c1 (bP v x) w s8 (bN s9 a k1 a1 x) m9 h8)))/\aX h7 21 (bL w.enc) (λa1 h8=>gG c1 m8 h8 (λk1 m9 x=>bO I x c1 (bP v x) w s8 (bN s9 a k1 a1 x) m9 h8)))) (bZ c1 4 m8 h6 0 (λc7 k1 m9=>bC (aL m8 m9 c7) (aJ m9 h6 c7) (aX h6 2 (bL (bW k r)) (λa h7=>
 dY h7 21 w.enc (λa1 h8 x=>bO I x c1 (bP v x) w s8 (bN s9 a k1 a1 x) m9 h8))/\aX h6 21 (bL w.enc) (λa h7=>dY h7 2 (bW k r) (λa1 h8 x=>bO I x c1 (bP v x) w s8 (bN s9 a1 k1 a x) m9 h8))))) (aX h6 21 (bL w.enc) (λa h7=>aX h7 2 (bL (bW k r)) (λa1 h8=>gG c1 m8 h8 (λk1 m9 x=>bO I x c1 (bP v x) w s8 (bN s9 a1 k1 a x) m9 h8))/\bZ c1 4 m8 h7 0 (λc7 k1 m9=>bC (aL m8 m9 c7) (aJ m9 h7 c7) (dY h7 2 (bW k r) (λa1 h8 x=>bO I x c1 (bP v x) w s8 (bN s9 a1 k1 a x) m9 h8))))))/\aX h6 21 (bL w.enc) (λa h7=>fZ c1 2 m7 h7 (λr m8=>aX h7 2 (bL (bW k r)) (λa1 h8=>gG c1 m8 h8 (λk1 m9 x=>bO I x c1 (bP v x) w s8 (bN s9 a1 k1 a x) m9 h8))/\bZ c1 4 m8 h7 0 (λc7 k1 m9=>bC (aL m8 m9 c7)
 (aJ m9 h7 c7) (dY h7 2 (bW k r) (λa1 h8 x=>bO I x c1 (bP v x) w s8 (bN s9 a1 k1 a x) m9 h8)))))))) (aX h6 21 (bL w.enc) (λa h7=>bZ c1 (aG s5) m6 h7 0 (λc6 k m7=>bC (aL m6 m7 c6) (aJ m7 h7 c6) (fZ c1 2 m7 h7 (λr m8=>aX h7 2 (bL (bW k r)) (λa1 h8=>gG c1 m8 h8 (λk1 m9 x=>bO I x c1 (bP v x) w s8 (bN s9 a1 k1 a x) m9 h8))/\bZ c1 4 m8 h7 0 (λc7 k1 m9=>bC (aL m8 m9 c7) (aJ m9 h7 c7) (dY h7 2 (bW k r) (λa1 h8 x=>bO I x c1 (bP v x) w s8 (bN s9 a1 k1 a x) m9 h8)))))))))))) (aX h5 21 (bL w.enc) (λs9 h6=>Dx c1 s5 m5 h6 (λc5 n l a m6 h7=>bC ((↑l.length:Int)<=n) (aL m5 m6 c5) (jG m6 h7 c5 (bZ c1 (aG s5) m6 h7 0 (λc6 k m7=>bC (aL m6 m7 c6) (aJ m7 h7 c6) (fZ c1 2 m7 h7 (λr m8=>aH
 (aX h7 2 (bL (bW k r)) (λa1 h8=>gG c1 m8 h8 (λk1 m9 x=>bO I x c1 (bP v x) w s8 (bN a a1 k1 s9 x) m9 h8)/\gG c1 m8 h8 (λk1 m9 x=>bO I x c1 (bP v x) w s8 (bN a a1 k1 s9 x) m9 h8))) (bZ c1 4 m8 h7 0 (λc7 k1 m9=>bC (aL m8 m9 c7) (aJ m9 h7 c7) (dY h7 2 (bW k r) (λa1 h8 x=>bO I x c1 (bP v x) w s8 (bN a a1 k1 s9 x) m9 h8)/\dY h7 2 (bW k r) (λa1 h8 x=>bO I x c1 (bP v x) w s8 (bN a a1 k1 s9 x) m9 h8)))) (aX h7 2 (bL (bW k r)) (λa1 h8=>gG c1 m8 h8 (λk1 m9 x=>bO I x c1 (bP v x) w s8 (bN a a1 k1 s9 x) m9 h8))) (bZ c1 4 m8 h7 0 (λc7 k1 m9=>bC (aL m8 m9 c7) (aJ m9 h7 c7) (dY h7 2 (bW k r) (λa1 h8 x=>bO I x c1 (bP v x) w s8 (bN a a1 k1 s9 x) m9 h8)))))/\fZ c1 2 m7 h7 (λr m8=>aX
 h7 2 (bL (bW k r)) (λa1 h8=>gG c1 m8 h8 (λk1 m9 x=>bO I x c1 (bP v x) w s8 (bN a a1 k1 s9 x) m9 h8))/\bZ c1 4 m8 h7 0 (λc7 k1 m9=>bC (aL m8 m9 c7) (aJ m9 h7 c7) (dY h7 2 (bW k r) (λa1 h8 x=>bO I x c1 (bP v x) w s8 (bN a a1 k1 s9 x) m9 h8))))))/\bZ c1 (aG s5) m6 h7 0 (λc6 k m7=>bC (aL m6 m7 c6) (aJ m7 h7 c6) (fZ c1 2 m7 h7 (λr m8=>aX h7 2 (bL (bW k r)) (λa1 h8=>gG c1 m8 h8 (λk1 m9 x=>bO I x c1 (bP v x) w s8 (bN a a1 k1 s9 x) m9 h8))/\bZ c1 4 m8 h7 0 (λc7 k1 m9=>bC (aL m8 m9 c7) (aJ m9 h7 c7) (dY h7 2 (bW k r) (λa1 h8 x=>bO I x c1 (bP v x) w s8 (bN a a1 k1 s9 x) m9 h8)))))))))/\Dx c1 s5 m5 h6 (λc5 n l a m6 h7=>bC ((↑l.length:Int)<=n) (aL m5 m6 c5) (jG m6 h7 c5 (bZ c1
 (aG s5) m6 h7 0 (λc6 k m7=>bC (aL m6 m7 c6) (aJ m7 h7 c6) (fZ c1 2 m7 h7 (λr m8=>aX h7 2 (bL (bW k r)) (λa1 h8=>gG c1 m8 h8 (λk1 m9 x=>bO I x c1 (bP v x) w s8 (bN a a1 k1 s9 x) m9 h8))/\bZ c1 4 m8 h7 0 (λc7 k1 m9=>bC (aL m8 m9 c7) (aJ m9 h7 c7) (dY h7 2 (bW k r) (λa1 h8 x=>bO I x c1 (bP v x) w s8 (bN a a1 k1 s9 x) m9 h8))))))))))) (Dx c1 s5 m5 h5 (λc5 n l s9 m6 h6=>bC ((↑l.length:Int)<=n) (aL m5 m6 c5) (jG m6 h6 c5 (bZ c1 (aG s5) m6 h6 0 (λc6 k m7=>bC (aL m6 m7 c6) (aJ m7 h6 c6) (fZ c1 2 m7 h6 (λr m8=>aA (aX h6 2 (bL (bW k r)) (λa h7=>bZ c1 4 m8 h7 0 (λc7 k1 m9=>bC (aL m8 m9 c7) (aJ m9 h7 c7) (dY h7 21 w.enc (λa1 h8 x=>bO I x c1 (bP v x) w s8 (bN s9 a k1 a1 x) m9 h8)))
 /\aX h7 21 (bL w.enc) (λa1 h8=>gG c1 m8 h8 (λk1 m9 x=>bO I x c1 (bP v x) w s8 (bN s9 a k1 a1 x) m9 h8)))) (bZ c1 4 m8 h6 0 (λc7 k1 m9=>bC (aL m8 m9 c7) (aJ m9 h6 c7) (aX h6 2 (bL (bW k r)) (λa h7=>dY h7 21 w.enc (λa1 h8 x=>bO I x c1 (bP v x) w s8 (bN s9 a k1 a1 x) m9 h8))/\aX h6 21 (bL w.enc) (λa h7=>dY h7 2 (bW k r) (λa1 h8 x=>bO I x c1 (bP v x) w s8 (bN s9 a1 k1 a x) m9 h8))))) (aX h6 21 (bL w.enc) (λa h7=>aX h7 2 (bL (bW k r)) (λa1 h8=>gG c1 m8 h8 (λk1 m9 x=>bO I x c1 (bP v x) w s8 (bN s9 a1 k1 a x) m9 h8))/\bZ c1 4 m8 h7 0 (λc7 k1 m9=>bC (aL m8 m9 c7) (aJ m9 h7 c7) (dY h7 2 (bW k r) (λa1 h8 x=>bO I x c1 (bP v x) w s8 (bN s9 a1 k1 a x) m9 h8))))))/\aX h6 21
 (bL w.enc) (λa h7=>fZ c1 2 m7 h7 (λr m8=>aX h7 2 (bL (bW k r)) (λa1 h8=>gG c1 m8 h8 (λk1 m9 x=>bO I x c1 (bP v x) w s8 (bN s9 a1 k1 a x) m9 h8))/\bZ c1 4 m8 h7 0 (λc7 k1 m9=>bC (aL m8 m9 c7) (aJ m9 h7 c7) (dY h7 2 (bW k r) (λa1 h8 x=>bO I x c1 (bP v x) w s8 (bN s9 a1 k1 a x) m9 h8)))))))/\aX h6 21 (bL w.enc) (λa h7=>bZ c1 (aG s5) m6 h7 0 (λc6 k m7=>bC (aL m6 m7 c6) (aJ m7 h7 c6) (fZ c1 2 m7 h7 (λr m8=>aX h7 2 (bL (bW k r)) (λa1 h8=>gG c1 m8 h8 (λk1 m9 x=>bO I x c1 (bP v x) w s8 (bN s9 a1 k1 a x) m9 h8))/\bZ c1 4 m8 h7 0 (λc7 k1 m9=>bC (aL m8 m9 c7) (aJ m9 h7 c7) (dY h7 2 (bW k r) (λa1 h8 x=>bO I x c1 (bP v x) w s8 (bN s9 a1 k1 a x) m9 h8))))))))))) (aX h5 21
 (bL w.enc) (λs9 h6=>Dx c1 s5 m5 h6 (λc5 n l a m6 h7=>bC ((↑l.length:Int)<=n) (aL m5 m6 c5) (jG m6 h7 c5 (bZ c1 (aG s5) m6 h7 0 (λc6 k m7=>bC (aL m6 m7 c6) (aJ m7 h7 c6) (fZ c1 2 m7 h7 (λr m8=>aX h7 2 (bL (bW k r)) (λa1 h8=>gG c1 m8 h8 (λk1 m9 x=>bO I x c1 (bP v x) w s8 (bN a a1 k1 s9 x) m9 h8))/\bZ c1 4 m8 h7 0 (λc7 k1 m9=>bC (aL m8 m9 c7) (aJ m9 h7 c7) (dY h7 2 (bW k r) (λa1 h8 x=>bO I x c1 (bP v x) w s8 (bN a a1 k1 s9 x) m9 h8)))))))))))/\∀(x:Nat×bH×QV×Sl×QV×MH×PH),I x->bZ x.1 4 (Ih x).1 (Ih x).2 0 (λc5 k m6=>bC (aL (Ih x).1 m6 c5) (aJ m6 (Ih x).2 c5) (aX (Ih x).2 21 (bL (oL x).enc) (λs9 h6=>∃(I1:bH×QV×Sl×QV×QV×QV×Sl×Sl×MH×PH->Prop),jX (λv2
 a=>uO (λa1 a2=>kK (λw1 q1=>aA (bT (bR x.2.1) (bI (jM (aR x.2.2.2.1)) (bJ x.2.2.1))=bT (bR v2) (bI (jM (aR a1)) (bJ w1))) (gM h6 a v2) (aA (En h6 a1 a2) (dK h6 q1 w1) (aA (jN m6) (Aj a q1 a2) (kP (λa3 h7=>dZ h6 h7 (Rows h7 a3 (AW a a2 q1).1) (jX (λv3 a4=>uO (λa5 a6=>kK (λw2 q2=>aA (bT (bR x.2.1) (bI (jM (aR x.2.2.2.1)) (bJ (oL x)))=bT (bR v3) (bI (jM (aR a5)) (bJ w2))) (gM h7 a4 v3) (aA (En h7 a5 a6) (dK h7 q2 w2) (aA (jN m6) (Aj a4 q2 a6) (kP (λa7 h8=>dZ h7 h8 (Rows h8 a7 (AW a4 a6 q2).1) (∃(x1:bH×QV×Sl×QV×QV×QV×Sl×Sl×MH×PH),Jk (I1 x1) (aZ a3 (i6 (oM x1)).1) (aA (aZ a7 (mA (i6 (oM x1)))) (lB x.2.1 x1.1) (aA (dG x.2.2.1 x1.2.1)
 (sT x.2.2.2.1 x1.2.2.1) (aA (dG (oL x) (oM x1).1) (oQ 38 (gR (hX (oL x).op) (hX (oL x).table) (vU (oL x) (wR (oL x)) (tZ (oL x).on) (tX k (tZ s9))))=wC (mU (oM x1))) (aA (oQ 38 (gR (hX (oL x).op) (hX (oL x).table) (vU (oL x) (wR (oL x)) (tZ (oL x).on) (tX (ite (k<(oL x).limit) k (oL x).limit) (tZ (oL x).args))))=wC (iU (oM x1))) (cO m6 (fS (i6 (oM x1)))) (kI h8 (fS (i6 (oM x1))))))))))))))))))))))))/\∀(x1:bH×QV×Sl×QV×QV×QV×Sl×Sl×MH×PH),I1 x1->∃(I2:Nat×bH×QV×Sl×QV×QV×QV×Sl×Sl×MH×PH->Prop)(m7:Nat×bH×QV×Sl×QV×QV×QV×Sl×Sl×MH×PH->Nat),(∃(x2:Nat×bH×QV×Sl×QV×QV×QV×Sl×Sl×MH×PH),Jk (I2 x2) (aZ (i6 (oM x1)).1
 (nN x2)) (aA (aZ (mA (i6 (oM x1))) (mA (kL x2))) (aZ (i6 (oM x1)).1 (nN x2)) (aA (cH (i6 (oM x1)).1 (nN x2)) (bG x2.1) (aA (lB x1.1 x2.2.1) (dG x1.2.1 x2.2.2.1) (aA (sT x1.2.2.1 (BZ x2)) (dG (oM x1).1 (rP x2).1) (aA (dG (mU (oM x1)) (mU (rP x2))) (dG (iU (oM x1)) (iU (rP x2))) (aA (cO (jF (i6 (oM x1))) (fS (kL x2))) (dO (tC (oM x1)) (fS (kL x2))) True)))))))/\∀(x2:Nat×bH×QV×Sl×QV×QV×QV×Sl×Sl×MH×PH),I2 x2->bD (↑x2.1:Int) (aG (nN x2)) (aT (λb o=>aH (aU (nN x2).a b o) (0<=(↑x2.1:Int)) ((↑x2.1:Int)<aG (nN x2)) (∃(y:Sl),aM (jF (kL x2)) (fS (kL x2)).2 b (bB o x2.1 1) (aR y)/\kV (λa t=>∃(l
 :List (List VV))(r:List VV),aA (gP (mA (kL x2)) y=gP a t) (Rows (fS (kL x2)).2 a l) (aA (cR (fS (kL x2)).2 t r) (tS l) (∃(I3:Nat×Nat×Bool×Sl×Nat×bH×QV×Sl×QV×QV×QV×Sl×Sl×MH×PH->Prop)(m8:Nat×Nat×Bool×Sl×Nat×bH×QV×Sl×QV×QV×QV×Sl×Sl×MH×PH->Nat),(∃(x3:Nat×Nat×Bool×Sl×Nat×bH×QV×Sl×QV×QV×QV×Sl×Sl×MH×PH),Jk (I3 x3) (aZ (nN x2) (jV x3)) (aA (aZ (mA (kL x2)) (mA (kE x3))) (aZ y (vR x3)) (aA (bG x3.2.1) (gH (Lu l r) (yB x3)) (aA (aZ (nN x2) (jV x3)) (cH (nN x2) (jV x3)) (aA (bY x2.1 (yC x3)) (aZ (nN x2) (jV x3)) (aA (cH (nN x2) (jV x3)) (bG x3.1) (aA (lB x2.2.1 (Bu x3)) (dG x2.2.2.1 (yD x3))
 (aA (sT (BZ x2) (yE x3)) (dG (rP x2).1 (jE x3).1) (aA (dG (mU (rP x2)) (mU (jE x3))) (dG (iU (rP x2)) (iU (jE x3))) (aA (cO (jF (kL x2)) (fS (kE x3))) (dO (fS (kL x2)).2 (fS (kE x3))) True))))))))))/\∀(x3:Nat×Nat×Bool×Sl×Nat×bH×QV×Sl×QV×QV×QV×Sl×Sl×MH×PH),I3 x3->bD (↑x3.1:Int) (aG (jV x3)) (aT (λb1 o1=>aH (aU (jV x3).a b1 o1) (0<=(↑x3.1:Int)) ((↑x3.1:Int)<aG (jV x3)) (∃(y1:Sl),aM (jF (kE x3)) (tF x3) b1 (bB o1 x3.1 1) (aR y1)/\kV (λg a1=>AL (λt1 g1=>∃(a2 b2:List VV),aA (dP (jE x3).1.group (gP (vR x3) y1)=dP g (gP a1 t1)) (Ints (tF x3) g g1) (aA (cR (tF x3) a1 a2) (cR (tF x3) t1 b2) (aA (Bw a2
 g1) (Bw b2 g1) (branch (qE g1 a2 b2) (FU (jE x3).1.order y1 (vR x3) (tF x3) (λo2 a3 b3=>bD (iA o2 a3 b3) 0 (∃(x4:Nat×Nat×Bool×Sl×Nat×bH×QV×Sl×QV×QV×QV×Sl×Sl×MH×PH),F5 (I3 x4) (m8 x4) (m8 x3) (aA (vS x3 x4) (aZ (mA (kE x3)) (mA (kE x4))) (aA (aZ (vR x3) (vR x4)) (gS (aW x3.2.1 1)=bX x4.2.1) (aA (gH (yB x3) (yB x4)) (vS x3 x4) (aA (cH (jV x3) (jV x4)) (bY (yC x3) (yC x4)) (aA (vS x3 x4) (cH (jV x3) (jV x4)) (aA (gS (aW x3.1 1)=bX x4.1) (lB (Bu x3) (Bu x4)) (aA (dG (yD x3) (yD x4)) (sT (yE x3) (yE x4)) (aA (dG (jE x3).1 (jE x4).1) (dG (mU (jE x3)) (mU (jE x4))) (aH (dG (iU (jE x3)) (iU (jE
 x4))) (cO (jF (kE x3)) (fS (kE x4))) (dO (tF x3) (fS (kE x4))) True)))))))))) (∃(x4:Nat×Nat×Bool×Sl×Nat×bH×QV×Sl×QV×QV×QV×Sl×Sl×MH×PH),F5 (I3 x4) (m8 x4) (m8 x3) (aA (vS x3 x4) (aZ (mA (kE x3)) (mA (kE x4))) (aA (aZ (vR x3) (vR x4)) (bY x3.2.1 x4.2.1) (aA (gH (yB x3) (yB x4)) (vS x3 x4) (aA (cH (jV x3) (jV x4)) (bY (yC x3) (yC x4)) (aA (vS x3 x4) (cH (jV x3) (jV x4)) (aA (gS (aW x3.1 1)=bX x4.1) (lB (Bu x3) (Bu x4)) (aA (dG (yD x3) (yD x4)) (sT (yE x3) (yE x4)) (aA (dG (jE x3).1 (jE x4).1) (dG (mU (jE x3)) (mU (jE x4))) (aH (dG (iU (jE x3)) (iU (jE x4))) (cO (jF (kE x3)) (fS
 (kE x4))) (dO (tF x3) (fS (kE x4))) True)))))))))))) (∃(x4:Nat×Nat×Bool×Sl×Nat×bH×QV×Sl×QV×QV×QV×Sl×Sl×MH×PH),F5 (I3 x4) (m8 x4) (m8 x3) (aA (vS x3 x4) (aZ (mA (kE x3)) (mA (kE x4))) (aA (aZ (vR x3) (vR x4)) (bY x3.2.1 x4.2.1) (aA (gH (yB x3) (yB x4)) (vS x3 x4) (aA (cH (jV x3) (jV x4)) (bY (yC x3) (yC x4)) (aA (vS x3 x4) (cH (jV x3) (jV x4)) (aA (gS (aW x3.1 1)=bX x4.1) (lB (Bu x3) (Bu x4)) (aA (dG (yD x3) (yD x4)) (sT (yE x3) (yE x4)) (aA (dG (jE x3).1 (jE x4).1) (dG (mU (jE x3)) (mU (jE x4))) (aH (dG (iU (jE x3)) (iU (jE x4))) (cO (jF (kE x3)) (fS (kE x4))) (dO (tF x3) (fS
 (kE x4))) True)))))))))))))))))) (branch (!(yB x3==decide ((↑x3.2.1:Int)<(jE x3).1.limit))) (K bA (jF (kE x3)) (tF x3)) (∃(x4:Nat×bH×QV×Sl×QV×QV×QV×Sl×Sl×MH×PH),F5 (I2 x4) (m7 x4) (m7 x2) (aA (aZ (jV x3) (nN x4)) (aZ (mA (kE x3)) (mA (kL x4))) (aA (aZ (jV x3) (nN x4)) (cH (jV x3) (nN x4)) (aA (gS (aW (yC x3) 1)=bX x4.1) (lB (Bu x3) x4.2.1) (aA (dG (yD x3) x4.2.2.1) (sT (yE x3) (BZ x4)) (aA (dG (jE x3).1 (rP x4).1) (dG (mU (jE x3)) (mU (rP x4))) (aA (dG (iU (jE x3)) (iU (rP x4))) (cO (jF (kE x3)) (fS (kL x4))) (kI (tF x3) (fS (kL x4))))))))))))))))) (aA (([]:List CV)=[]) (jN (jF (kL x2))) (∃(o:Int)(v2
 w1:QV),fK 7::bI (bJ (rP x2).1) (bJ x2.2.2.1)=fK o::bI (bJ v2) (bJ w1)/\aX (fS (kL x2)).2 21 (v2.enc::bL w1.enc) (λa h7=>jX (λv3 a1=>uO (λa2 a3=>kK (λw2 q1=>aA (bT (bR x2.2.1) (bI (jM (aR (BZ x2))) (jM (oZ (eW o) dA (sG tT (y9 (aR a))))))=bT (bR v3) (bI (jM (aR a2)) (bJ w2))) (gM h7 a1 v3) (aA (En h7 a2 a3) (dK h7 q1 w2) (aA (jN (jF (kL x2))) (Aj a1 q1 a3) (kP (λa4 h8=>dZ h7 h8 (Rows h8 a4 (AW a1 a3 q1).1) (eJ (aG a4) 0 (jX (λv4 a5=>uO (λa6 a7=>kK (λw3 q2=>aA (bT (bR x2.2.1) (bI (jM (aR (BZ x2))) (bJ (mU (rP x2))))=bT (bR v4) (bI (jM (aR a6)) (bJ w3))) (gM h8 a5 v4) (aA (En h8 a6 a7) (dK h8 q2 w3) (aA
 (jN (jF (kL x2))) (Aj a5 q2 a7) (kP (λa8 h9=>dZ h8 h9 (Rows h9 a8 (AW a5 a7 q2).1) (jX (λv5 a9=>uO (λb b1=>kK (λw4 q3=>aA (bT (bR x2.2.1) (bI (jM (aR (BZ x2))) (bJ (iU (rP x2))))=bT (bR v5) (bI (jM (aR b)) (bJ w4))) (gM h9 a9 v5) (aA (En h9 b b1) (dK h9 q3 w4) (aA (jN (jF (kL x2))) (Aj a9 q3 b1) (kP (λb2 b3=>dZ h9 b3 (Rows b3 b2 (AW a9 b1 q3).1) (kV (λb4 t=>∃(b5 b6:List (List VV)),aH (gP a8 b2=gP b4 t) (Rows b3 b4 b5) (Rows b3 t b6) (∀(r:Bool),gC r (b5=b6)->K (A7 r) (jF (kL x2)) b3))))))))))))))))))) (K bA (jF (kL x2)) h8))))))))))))))))))))))))))))))))))))))))))))))
def Lt(gr:List Int)(od:List (Int×Bool))(li:Int)(a:Query):Query:=.mk 9 0 iL [] [] gr od li [a]
theorem Nr.rank{g so sl:Sl}{a:Query}{k:List Int}(x:Nr s h v a k b)(hk:pR k gr od li)(hl:k.length<=12)(hg:Ints h' g gr)(ho:jC h' so od)(le:PH.le h h')(r:cW h' sl 21 [QV.enc v]):Nr s h' (El g so li sl) (Lt gr od li a) k b:=
 ⟨oP.rep ⟨rfl,rfl,yM h',jK h',oA h',hg,ho,rfl,yN r (x.rep.mono le)⟩,Ku x.kin hk hl,by
  have h1:=x.bnd;simp only[Lt,nA,yV];rw[if_neg aC,if_neg aC];omega⟩
theorem JY(st:List (List (List VV)))(gr:List Int)(od:List (Int×Bool))(li:Int)(a:Query):j5 st (Lt gr od li a)=oN gr od li (j5 st a) (j5 st a):=by
 rw[Lt,j5,if_neg (by decide)];rfl
theorem NR{k:List Int}{c:Int}{d:Bool}(hr:∀x∈gr,0<=x/\x<k.length)(hn:gr.Nodup)(h0:0<=c)(h1:c<k.length)(l0:0<=li)(l1:li<=100):pR k gr [(c,d)] li:=by
 refine⟨λj x hx=>⟨?_,λhm=>?_⟩,vX ⟨?_,trivial⟩,by simp,l0,l1⟩
 .have:=hr x (List.mem_of_getElem? hx);simp only[ES,Bool.and_eq_true,decide_eq_true_eq];omega
 .obtain⟨i,hi⟩:=List.getElem?_of_mem hm;rw[List.getElem?_take]at hi;split at hi
  .rename_i hij;have e:=(List.getElem?_inj (List.getElem?_eq_some_iff.1 hi).1 hn).1 (hi.trans hx.symm);omega
  .cases hi
 .show ES k c=true;simp only[ES,Bool.and_eq_true,decide_eq_true_eq];omega
def agX(gr:List Int)(od:List (Int×Bool))(b:List (List VV))(x:List VV):Nat:=b.countP λy=>qE gr x y&&decide (iA od y x<0)
theorem WS{a b:List (List VV)}{x:List VV}(hx:x∈a):Lu (oN gr od li a b) x=decide ((agX gr od b x:Int)<li):=by
 rw[Bool.eq_iff_iff,Gj,oN,List.mem_filter];exact⟨λh=>h.2,λh=>⟨hx,h⟩⟩
set_option maxHeartbeats 2000000 in
theorem WV:Sound Tryz.prog 6 anZ:=by
 refine iJ Tryz.func6 ?_;rintro cvs m h K ⟨s,cs,rfl,hr,hcap,ht,hK⟩;refine⟨afQ,rfl,Rx,Ud s m h K,by kernel_rfl,?_⟩;dsimp only[Ud,push_cast];refine⟨s,cs,220,rfl,hr,hcap,aC,λcb m1 h1 le1 hcb o1 c1=>⟨cb,rfl,c1,λsc v m2 h2 hpl rS le2 o2 c2=>?_⟩⟩;obtain⟨hse,hne⟩:=FA hpl;have h8t:=Bl hse;have h8:=uE hse;refine⟨cb,v,cJ,sc,[],2,rfl,c2,rS,hse,hne,jK _,by simp,by simp,aC,aC,by decide,λa qa m3 h3 le3 rq qw fq hq o3 c3=>⟨v,cJ,a,sc,[],qa,rfl,rS.mono le3,jK _,rq,λks h4 le4 hks=>?_⟩⟩;have fq:zN 2 qa:=fq;have A0:=Nr.of rq hq fq.arg;have hkl:=EG sc [] qa;generalize (fB sc [] qa).1=kl at hks A0 hkl;obtain⟨kn,kc⟩:=Pq hpl A0.kin;have hkl0:0<kl.length:=List.length_pos_iff.2 kn;have hslk:=hks.slen;refine⟨cb,v,sc,rfl,c3.mono le4,rS.mono (le3.trans le4),hpl,λst sl m7 h7 le7 hst good o7 c0=>?_⟩;have o07:=((o1.trans o2).trans o3).trans o7;have hn1:1<=(if(ks.len:Int)<2 then(ks.len:Int)else 2):=by split<;>omega
 have hn2:(if(ks.len:Int)<2 then(ks.len:Int)else 2)<=1000:=by split<;>omega
 have hn3:(if(ks.len:Int)<2 then(ks.len:Int)else 2)<=kl.length:=by split<;>omega
 clear c1 c2 c3 le1 le2 o1 o2 o3;refine⟨λz=>∃(g so sa:Sl)(gr:List Int)(k:Int)(d:Bool)(li:Int)(mx:MH)(hx:PH),z=(cb,v,a,sl,El g so li sa,mx,hx)/\aJ mx hx cb/\aL m7 mx cb/\PH.le h7 hx/\Ints hx g gr/\(∀c∈gr,0<=c/\c<kl.length)/\gr.Nodup/\0<=k/\k<kl.length/\0<=li/\li<4/\cW hx so 2 [[.int .i64 k,.bool d]]/\cW hx sa 21 [QV.enc a],?_,?_⟩
 .repeat' first
   |refine And.intro ?_ ?_
   |refine⟨cb,_,rfl,(by first|exact c4|exact c3|exact c2|exact c1|exact c0|exact c3.mono lb1|exact(c3.mono lb1).mono lb2|exact(c3.mono lb2).mono lb1|exact c3.mono lb2|exact c2.mono lb2|exact c1.mono lb2|exact c0.mono lb2),hn1,hn2,λgr g m1 h1 le1 hi hr hn hl o1 c1=>?_⟩
   |refine⟨cb,ks.len,rfl,(by first|exact c4|exact c3|exact c2|exact c1|exact c0|exact c3.mono lb1|exact(c3.mono lb1).mono lb2|exact(c3.mono lb2).mono lb1|exact c3.mono lb2|exact c2.mono lb2|exact c1.mono lb2|exact c0.mono lb2),λk m2 k0 k1 o2 c2=>?_⟩
   |refine⟨cb,4,rfl,(by first|exact c4|exact c3|exact c2|exact c1|exact c0|exact c3.mono lb1|exact(c3.mono lb1).mono lb2|exact(c3.mono lb2).mono lb1|exact c3.mono lb2|exact c2.mono lb2|exact c1.mono lb2|exact c0.mono lb2),λli m4 l0 l1 o4 c4=>?_⟩
   |refine⟨cb,2,rfl,aC,aC,(by first|exact c4|exact c3|exact c2|exact c1|exact c0|exact c3.mono lb1|exact(c3.mono lb1).mono lb2|exact(c3.mono lb2).mono lb1|exact c3.mono lb2|exact c2.mono lb2|exact c1.mono lb2|exact c0.mono lb2),λd m3 o3 c3=>?_⟩
   |refineλso hb1 lb1(rb1:cW hb1 so 2 _)=>?_
   |refineλsa hb2 lb2(rb2:cW hb2 sa 21 _)=>?_
   |exact⟨(cb,v,a,sl,El g so li sa,m4,hb1),⟨g,so,sa,gr,k,d,li,m4,hb1,rfl,(by first|exact c4|exact c4.mono lb1|exact(c4.mono lb2).mono lb1),((o1.trans o2).trans o3).trans o4,(by first|exact le1.trans lb1|exact le1.trans (lb2.trans lb1)|exact lb2.trans (le1.trans lb1)),hi.mono (by first|exact lb1|exact lb2.trans lb1),λc hc=>⟨(hr c hc).1,by have:=(hr c hc).2;omega⟩,hn,k0,aC,l0,aC,rb1,rb2.mono (by first|exact lb1|exact le1.trans lb1)⟩,MT⟩
   |exact⟨(cb,v,a,sl,El g so li sa,m4,hb2),⟨g,so,sa,gr,k,d,li,m4,hb2,rfl,(by first|exact c4|exact c4.mono lb2|exact(c4.mono lb1).mono lb2),((o1.trans o2).trans o3).trans o4,le1.trans (lb1.trans lb2),hi.mono (lb1.trans lb2),λc hc=>⟨(hr c hc).1,by have:=(hr c hc).2;omega⟩,hn,k0,aC,l0,aC,rb1.mono lb2,rb2⟩,MT⟩
   |fail
 rintro _ ⟨g,so,sa,gr,k,d,li,mx,hx,rfl,c8,o8,l8,hg,hgr,hgn,k0,k1,l0,l1,rso,rsa⟩;dsimp only;refine⟨cb,4,rfl,c8,λlj m9 j0 j1 o9 c9 sb h9 l9 rsb=>?_⟩;have om:=(o07.trans o8).trans o9;have ht9:=ht.new hcb om;have hsub:Sub m m9:=λb o e=>by rw[om.other b (λe2=>by rw[e2,hcb]at e;cases e)];exact e
 have L9:PH.le h7 h9:=l8.trans l9;have A:Nr sc h9 a qa kl (gB 2):=A0.mono (le4.trans (le7.trans L9)) (Nat.le_refl _);have rk1:pR kl gr [(k,d)] li:=NR hgr hgn k0 k1 l0 aC;have rk2:pR kl gr [(k,d)] lj:=NR hgr hgn k0 k1 j0 aC;have rk3:pR kl gr [(k,d)] (if lj<li then lj else li):=NR hgr hgn k0 k1 (by split<;>omega) (by split<;>omega);have hg9:=hg.mono l9;have ho9:jC h9 so [(k,d)]:=⟨rso.mono l9,by simp⟩
 have Q:=A.rank rk1 aC hg9 ho9 (.refl _) (rsa.mono l9);have R:=Q.rank rk2 aC hg9 ho9 (.refl _) rsb;have E:=A.rank rk3 aC hg9 ho9 (.refl _) (rsa.mono l9);have X:=fun(s2:Sl)(g:PH)=>Q.op (h':=g) (o:=7) (sl:=s2) A;have hst9:=hst.mono L9;have rS9:=rS.mono (le3.trans (le4.trans (le7.trans L9)));have gb:gB 2<=1000000:=by decide
 have gb2:gB 2+gB 2<=1000000:=by decide
 have na:tO qa<=17:=Nat.le_trans fq.n (by decide);have da:Cu qa<=6:=Nat.le_trans fq.d (by decide);have s1:j9 qa=true:=JT aC aC;have s2:∀li,j9 (Lt gr [(k,d)] li qa)=true:=λli=>JT (by simp only[Lt,tO,qV];omega) (by simp only[Lt,Cu,zK];omega);have s3:∀li lj,j9 (Lt gr [(k,d)] lj (Lt gr [(k,d)] li qa))=true:=λli lj=>JT (by simp only[Lt,tO,qV];omega) (by simp only[Lt,Cu,zK];omega);have relA:=A.rel hpl good gb;have relQ:=Q.rel hpl good gb;refine⟨λz=>∃t1 t2 g2,z=(v,a,sl,El g so li sa,El g so lj sb,El g so (if lj<li then lj else li) sa,t1,t2,m9,g2)/\PH.le h9 g2/\Rows g2 t1 (j5 st qa)/\Rows g2 t2 (j5 st (Lt gr [(k,d)] li qa)),⟨v,sc,sl,st,a,qa,rfl,rS9,hst9,A.rep,ht9,λ_ _=>A.bok good gb,λt1 g1 f1 q1=>⟨v,sc,sl,st,El g so li sa,_,rfl,rS9.mono f1,hst9.mono f1,Q.rep.mono f1,ht9,λ_ _=>Q.bok good gb,λt2 g2 f2 q2=>?_⟩⟩,?_⟩
 .rw[A.res hpl good s1]at q1;rw[Q.res hpl good (s2 li)]at q2;exact⟨(v,a,sl,El g so li sa,El g so lj sb,El g so (if lj<li then lj else li) sa,t1,t2,m9,g2),⟨t1,t2,g2,rfl,f1.trans f2,bV.mono q1 f2 λr t hv=>cR.mono hv f2,q2⟩,MT⟩
 rintro _ ⟨t1,t2,g2,rfl,le9,r1,r2⟩;dsimp only;have sl1:=bV.slen r1;have hsem:=JY st gr [(k,d)] li qa;have hsem2:=JY st gr [(k,d)] lj (Lt gr [(k,d)] li qa);have hsem3:=JY st gr [(k,d)] (if lj<li then lj else li) qa;have hg2:=hg9.mono le9;have ho2:=ho9.mono le9;refine⟨λz=>z.1<=(j5 st qa).length/\z.2=(v,a,sl,El g so li sa,El g so lj sb,El g so (if lj<li then lj else li) sa,t1,t2,m9,g2),λz=>(j5 st qa).length-z.1,⟨(0,v,a,sl,El g so li sa,El g so lj sb,El g so (if lj<li then lj else li) sa,t1,t2,m9,g2),⟨by simp,rfl⟩,MT⟩,?_⟩;rintro⟨i,z⟩ ⟨hi,e⟩;dsimp only at hi e;subst e;dsimp only;refine aE (λhlt=>?_) (λhge=>?_)
 .obtain⟨x,hx⟩:=fI sl1 hlt;obtain⟨b,o,ux,ea,rd,hv⟩:=bV.at r1 hx;have hxm:=List.mem_of_getElem? hx;have hxw:=relA.wid x hxm;refine⟨b,o,ea,aC,hlt,ux,.imm rd,t2,ux,_,x,rfl,r2,hv,relQ.srt,?_⟩;refine⟨λz=>z.1<=(j5 st qa).length/\z.2=(((j5 st qa).take z.1).countP (λy=>qE gr x y&&decide (iA [(k,d)] y x<0)),Lu (j5 st (Lt gr [(k,d)] li qa)) x,ux,i,v,a,sl,El g so li sa,El g so lj sb,El g so (if lj<li then lj else li) sa,t1,t2,m9,g2),λz=>(j5 st qa).length-z.1,⟨(0,0,Lu (j5 st (Lt gr [(k,d)] li qa)) x,ux,i,v,a,sl,El g so li sa,El g so lj sb,El g so (if lj<li then lj else li) sa,t1,t2,m9,g2),⟨by simp,by simp⟩,MT⟩,?_⟩;rintro⟨j,z⟩ ⟨hj,e⟩;dsimp only at hj e;subst e;dsimp only;refine aE (λhlt2=>?_) (λhge2=>?_)
  .obtain⟨y,hy⟩:=fI sl1 hlt2;obtain⟨b2,o2,uy,ea2,rd2,hvy⟩:=bV.at r1 hy;have hyw:=relA.wid y (List.mem_of_getElem? hy);have hwr:=relA.len;have gcx:∀w:Nat,w=kl.length->iR w gr:=λw e=>e▸EU rk1.group_ aC
   have hcnt:((j5 st qa).take (j+1)).countP (λy=>qE gr x y&&decide (iA [(k,d)] y x<0))=((j5 st qa).take j).countP (λy=>qE gr x y&&decide (iA [(k,d)] y x<0))+if(qE gr x y&&decide (iA [(k,d)] y x<0))=true then 1 else 0:=by
    rw[List.take_add_one,hy,Option.toList_some,List.countP_append,List.countP_singleton]
   have hcl:((j5 st qa).take j).countP (λy=>qE gr x y&&decide (iA [(k,d)] y x<0))<=(j5 st qa).length:=Nat.le_trans List.countP_le_length (List.length_take_le' _ _);have nxt:∀n:Nat,n=((j5 st qa).take (j+1)).countP (λy=>qE gr x y&&decide (iA [(k,d)] y x<0))->(λz:Nat×Nat×Bool×Sl×Nat×bH×QV×Sl×QV×QV×QV×Sl×Sl×MH×PH=>z.1<=(j5 st qa).length/\z.2=(((j5 st qa).take z.1).countP (λy=>qE gr x y&&decide (iA [(k,d)] y x<0)),Lu (j5 st (Lt gr [(k,d)] li qa)) x,ux,i,v,a,sl,El g so li sa,El g so lj sb,El g so (if lj<li then lj else li) sa,t1,t2,m9,g2)) (j+1,n,Lu (j5 st (Lt gr [(k,d)] li qa)) x,ux,i,v,a,sl,El g so li sa,El g so lj sb,El g so (if lj<li then lj else li) sa,t1,t2,m9,g2):=λn e=>⟨by show j+1<=_;omega,by dsimp only;rw[<-e]⟩
   refine⟨b2,o2,ea2,aC,hlt2,uy,.imm rd2,g,ux,uy,gr,x,y,rfl,hg2,hv,hvy,gcx _ hxw,gcx _ hyw,aB (λe1=>⟨so,uy,ux,_,y,x,rfl,ho2,hvy,hv,aE (λe2=>?_) (λe2=>?_)⟩) (λe1=>?_)⟩
   .rw[jA aC,jA aC];refine⟨_,nxt _ ?_,by show(j5 st qa).length-(j+1)<(j5 st qa).length-j;omega,MT⟩;rw[hcnt,if_pos (by simp[e1,e2])]
   .rw[jA aC];refine⟨_,nxt _ ?_,by show(j5 st qa).length-(j+1)<(j5 st qa).length-j;omega,MT⟩;rw[hcnt,if_neg (by simp[e2])];rfl
   .rw[jA aC];refine⟨_,nxt _ ?_,by show(j5 st qa).length-(j+1)<(j5 st qa).length-j;omega,MT⟩;rw[hcnt,if_neg (by simp[e1])];rfl
  .have hwr:=relA.len;rw[List.take_of_length_le aC];refine aB (λe=>?_) (λ_=>?_)
   .rw[hsem,WS hxm]at e;have e2:(!(decide ((agX gr [(k,d)] (j5 st qa) x:Int)<li)==decide ((agX gr [(k,d)] (j5 st qa) x:Int)<li)))=true:=e;simp at e2
   .rw[jA aC];exact⟨(i+1,v,a,sl,El g so li sa,El g so lj sb,El g so (if lj<li then lj else li) sa,t1,t2,m9,g2),⟨by show i+1<=_;omega,rfl⟩,by show(j5 st qa).length-(i+1)<(j5 st qa).length-i;omega,MT⟩
 .have hmin:Yr (j5 st (Lt gr [(k,d)] li qa)) (j5 st qa)=[]:=by
   refine List.eq_nil_iff_forall_not_mem.2 λy hy=>?_;rw[Ys,hsem,oN,List.mem_filter]at hy;exact hy.2 hy.1.1
  have hfin:j5 st (Lt gr [(k,d)] lj (Lt gr [(k,d)] li qa))=j5 st (Lt gr [(k,d)] (if lj<li then lj else li) qa):=by
   rw[hsem2,hsem3,hsem,PR relA.wid];congr 1;split<;>omega
  refine⟨rfl,ht9,7,El g so li sa,a,rfl,λso2 g3 l3 ro=>?_⟩;have X2:=X _ _ (.inr (.inl rfl)) (le9.trans l3) ro;refine⟨v,sc,sl,st,_,_,rfl,rS9.mono (le9.trans l3),hst9.mono (le9.trans l3),X2.rep,ht9,λ_ _=>X2.bok good gb2,λt3 g4 l4 q3=>?_⟩
  have q3:Rows g4 t3 []:=by
   by_cases e:(fB sc [] (ZN 7 (Lt gr [(k,d)] li qa) qa)).2=0
   .rw[X2.res hpl good (zU e).2.2.1,Yk,hmin]at q3;exact q3
   .unfold AW at q3;rw[if_pos e]at q3;exact q3
  have hz:=bV.slen q3;have l9:=le9.trans (l3.trans l4);refine aB (λ_=>?_) (λe=>?_)
  .refine⟨v,sc,sl,st,_,_,rfl,rS9.mono l9,hst9.mono l9,R.rep.mono l9,ht9,λ_ _=>R.bok good gb,λt4 g5 l5 q4=>⟨v,sc,sl,st,_,_,rfl,rS9.mono (l9.trans l5),hst9.mono (l9.trans l5),E.rep.mono (l9.trans l5),ht9,λ_ _=>E.bok good gb,λt5 g6 l6 q5=>?_⟩⟩;rw[R.res hpl good (s3 li lj)]at q4;rw[E.res hpl good (s2 _)]at q5;refine⟨t4,t5,_,_,rfl,bV.mono q4 l6 λr t hv=>cR.mono hv l6,q5,λr hr=>?_⟩;rw[hr.2 hfin];exact hK _ _ hsub
  .have:(t3.len:Int)=0:=by simp at hz;omega
   rw[this]at e;simp at e
end Go.Ps
