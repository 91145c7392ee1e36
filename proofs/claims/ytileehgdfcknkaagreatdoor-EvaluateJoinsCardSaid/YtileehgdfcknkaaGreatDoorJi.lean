/-
  Part 9 of a proof that a law of the given program returns true: a condition generator that is proved sound, and contracts of functions. No condition of its own. Own work, joined by a program (pack2.py).
-/
import Derived.Test.YtileehgdfcknkaaGreatDoorJh
set_option linter.unusedVariables false
set_option linter.unusedSimpArgs false
namespace Go.Ps
open Go Go.Vc Go.Proofs
variable{K:CV->MH->PH->Prop}{m:MH}{h:PH}{s:oS}{ps:List Int}{cb:Nat}{sc:aW}{v:QV}{q:Query}{p:Pred}{l:List Int}{i:Nat}{N:Nat}{m':MH}{h':PH}{co:List Int}{gr:List Int}{od:List (Int×Bool)}{w:Pred}{ta:Int}{li:Int}{xs:List (List Value)}{sz:Nat}{k:Nat}{ks:List (List Int)}{rs:List Int}{r:Sl}{a:List Int}{b:Nat}
structure Hu(s:oS)(st:List (List (List VV))):Prop where
 len:st.length=s.tables.length
 few:∀l∈st,l.length<=4
 ok:Jn s st
 val:ZF st
def WQ:Vc.Spec:=λcvs m h K=>∃cb v s,cvs=[cP cb,aS v,cI 3]/\aL m h cb/\gI h s v/\pK s/\∀st sl m' h',PH.le h h'->Il h' sl st->Hu s st->bA m m' cb->aL m' h' cb->K (Yx sl) m' h'
noncomputable def Ye(cb:Nat)(v:aW):Ctx:=vK [(15,Gn),(44,vN),(43,ZG),(46,W8),(45,ZI)]
 [(3,{A:=Nat×Sl×MH×PH,st:=λ⟨i,s,m,h⟩=>cE 51 54 [(0,pv cb),(2,iv 3),(4,.at (.ptr 4 0)),(6,.at (.ptr 6 0)),(7,.at (.ptr 7 0)),(18,iv v.tables.len),(19,iv i)] [(4,.cells 43 (v.enc.map .val)),(6,.cells 25 [.val bF.val]),(7,.cells 25 [.val (.slice s.a s.len s.cap)])] m h}),
  (6,{A:=Nat×Int×Sl×MH×PH,st:=λ⟨i,n,s,m,h⟩=>cE 51 54 [(0,pv cb),(2,iv 3),(4,.at (.ptr 4 0)),(6,.at (.ptr 6 0)),(7,.at (.ptr 7 0)),(8,iv i),(9,iv n),(18,iv v.tables.len),(19,iv i)] [(4,.cells 43 (v.enc.map .val)),(6,.cells 25 [.val bF.val]),(7,.cells 25 [.val (.slice s.a s.len s.cap)])] m h})] [] [] [2023] [] false
abbrev Fo(a:List At)(b:Sl×MH×PH):Prop:=oQ 25 a=oQ 25 (jG (oT b.1))
noncomputable abbrev oZ(a:Nat×Int×Sl×MH×PH):Sl×MH×PH:=a.2.2
attribute [push_cast] Fo oZ
def Kj(cb:Nat)(v:aW)(m:MH)(h:PH)(K:CV->MH->PH->Prop):Prop:=
  aA (cD (gP v)) (gP v<=gP v) (aA (rI (gP v*24)) (rI (gP v)) (gQ (λs m1=>nR m m1 h s 53 1 (List.replicate (gP v).toNat iN)->∃(I:Nat×Sl×MH×PH->Prop)(m2:Nat×Sl×MH×PH->Nat),(∃(x:Nat×Sl×MH×PH),aA (I x) (cX cb) (aA jH (eP 4) (aA (eP 6) (eP 7) (aA (gR v) (bD x.1) (aA (bV v) pW (aA (Fo (jG (oT s)) x.2) (cK m1 x.2.2) (jN h x.2.2)))))))/\∀(x:Nat×Sl×MH×PH),I x->bC (↑x.1:Int) (aG v.tables) (iZ cb 5 (rH x.2) (eR x.2) (λk m3=>∃(I1:Nat×Int×Sl×MH×PH->Prop)(m4:Nat×Int×Sl×MH×PH->Nat),(∃(x1:Nat×Int×Sl×MH×PH),aA (I1 x1) (cX cb) (aA jH (eP 4) (aA (eP 6) (eP 7) (aA (bP x.1 x1.1) (cG k x1.2.1) (aA (gR v) (bP x.1 x1.1) (aA (bV v) pW (aA (Fo
 (jG (oT x.2.1)) (oZ x1)) (cK m3 (oZ x1).2) (bR (eR x.2) (oZ x1).2/\True))))))))/\∀(x1:Nat×Int×Sl×MH×PH),I1 x1->eB x1.2.1 0 (aU (λb o=>aA (aX (qG v) b o) (0<=(↑x1.1:Int)) ((↑x1.1:Int)<aG v.tables/\∃(y:Int),aA (aM (rH (oZ x1)) (eR (oZ x1)) b (bM o x1.1 5+2) (bT y)) (aZ (eR (oZ x1)) b (bM o x1.1 5+2) (bT y)) (Bj (aY (bI v) (↑x1.1:Int)) (eR (oZ x1)) (λs1 h1=>∃(c:Nat)(s2:Sl)(k1:Int)(k2:List Int),aA (BK cb 0::cW s1::aY (eH y) 3=BK c 0::cW s2::aY (eH k1) 3) (aL (rH (oZ x1)) h1 c) (aA (Ints h1 s2 k2) (fV k2) ((∀(k3:Int),List.Mem k3 k2->k3=3\/k3=4\/k3=5)/\∀(s3:Sl)(r:List VV),iA (λm5 h2=>bJ h1 h2 (cL h2 s3 r) (bO (N4 k1 k2 r) (bA (rH
 (oZ x1)) m5 c) (iO m5 h2 c (kG (λv1 s4=>∃(t:Int),oE (λs5 r1=>aA (bI v::aT (eH (↑x1.1:Int)) (cW s3)=bI v1::aT (eH t) (cW s5)) (gI h2 s4 v1) (aA (cL h2 s5 r1) (j2 r1.length) (cC (λs6 h3=>bJ h2 h3 (cL h3 s6 (FU s4 t r1)) (kG (λv2 s7=>aU (λt1 n=>FN (λc1 u=>∃(u1:Sl)(t2:Nat)(t3:vL)(r2:List (List VV)),oE (λs8 k3=>oE (λs9 r3=>aA (bI v::kN (aR (oZ x1).1)::eH (↑x1.1:Int)::aT (cW s6) (cW s3)=bI v2::kN (iP (Value.slice (kJ t1) n c1))::eH (↑t2:Int)::aT (cW s8) (cW s9)) (gI h3 s7 v2) (aA (IS s7 t2 t3) (Vj m5 t1 u) (aA (n=u.length) (p7 u t2 u1) (aA (Rows h3 u1 r2) (j2 r2.length) (aA (Dg r2 (λr4=>j2 r4.length)) (cL h3 s8 k3) (aA (cL h3 s9 r3) (0<r3.length)
 (j2 r3.length/\∀(u2:Sl),iA (λm6 h4=>bJ h3 h4 (Rows h4 u2 (xT t3 k3 r3 false r2)) (bO (Vj m6 t1 (List.set u t2 u2)) (bA m5 m6 t1) (∃(x2:Nat×Int×Sl×MH×PH),aA (I1 x2) (m4 x2<m4 x1) (aA (cX cb) jH (aA (eP 4) (eP 6) (aA (eP 7) (bP x1.1 x2.1) (aA (cG (dV (x1.2.1-1)) x2.2.1) (gR v) (aA (bP x1.1 x2.1) (bV v) (aA pW (Fo (jG (At.val (Value.slice (kJ t1) n c1))) (oZ x2)) (aA (cK m6 (oZ x2).2) (bR h4 (oZ x2).2) True)))))))))))))))))))))))))))))))))))))) (∃(x2:Nat×Sl×MH×PH),aA (I x2) (m2 x2<m2 x) (aA (cX cb) jH (aA (eP 4) (eP 6) (aA (eP 7) (gR v) (aA (fM (bE x1.1 1)=bX x2.1) (bV v) (aA pW (Fo (jG (oT (oZ x1).1)) x2.2) (aA (eA (oZ x1).2 x2.2.2) (bR (eR (oZ x1)) x2.2.2) True)))))))))
 (K (kN (aR x.2.1)) (rH x.2) (eR x.2)))))
theorem cZ.iceB{m1:MH}{hx:PH}{r:CV}{tb:Nat}{cur:Array Value}{E:TypeId}(hcur:m1 tb=some (.cells cur E (0,0)))(le:PH.le h hx)(hK:∀h2,PH.le hx h2->(∀i,h2 tb i=cur[i]?)->K r (λb=>if b=tb then none else m1 b) h2):cZ h K r m1 hx:=by
 intro hdis;have hg0:∀i,hx tb i=none:=hdis tb _ hcur
 have hle3:PH.le hx (λx i=>if x=tb then cur[i]? else hx x i):=⟨λx i v e=>by
  have:x≠tb:=λe'=>by rw[e',hg0 i]at e;cases e
  simp[this,e]⟩
 refine⟨_,_,λb o e=>?_,le.trans hle3,λx i v e=>?_,hK _ hle3 (λi=>by simp)⟩
 .by_cases e':b=tb
  .simp[e']at e
  .simpa[e']using e
 .by_cases e':x=tb
  .subst e';simp at e;exact .inr ⟨cur,E,(0,0),hcur,e,by simp⟩
  .simp[e']at e;exact .inl e
structure YA(h:PH)(s:oS)(m:MH)(tb:Nat)(us:List Sl)(st:List (List (List VV))):Prop where
 tbl:Vj m tb us
 ulen:us.length=s.tables.length
 slen:st.length=s.tables.length
 rows:∀(j:Nat) u l,us[j]? =some u->st[j]? =some l->Rows h u l
 ok:Jn s st
 val:ZF st
 few:∀l∈st,l.length<=4
theorem YA.mono{tb:Nat}{us:List Sl}{st:List (List (List VV))}(x:YA h s m tb us st)(le:PH.le h h')(e:m' tb=m tb):YA h' s m' tb us st:=by
 obtain⟨cur,h1,h2,h3⟩:=x.tbl;exact⟨⟨cur,by rw[e];exact h1,h2,h3⟩,x.ulen,x.slen,λj u l a b=>bZ.mono (x.rows j u l a b) le λr t hv=>cL.mono hv le,x.ok,x.val,x.few⟩
theorem Xw{t:vL}{r:List VV}(h:N4 t.key (t.columns.map mT.kind) r):CH t r=true:=by
 obtain⟨h1,_,h3⟩:=h;rw[List.length_map]at h1;refine CG.2 ⟨h1,λi hi=>?_⟩;have e1:r[i]? =some (r.getD i zeroV):=by rw[List.getD_eq_getElem?_getD,List.getElem?_eq_getElem hi];rfl
 refine h3 i _ _ e1 ?_;rw[List.getElem?_map,List.getD_eq_getElem?_getD,List.getElem?_eq_getElem aC];rfl
theorem VO{key k:Int}{v:VV}(h:xG key k i v=true)(hw:Ij v):N2 v.kind/\N2 v.int:=by
 simp only[xG,Bool.and_eq_true]at h;have:=Hz h.1;exact⟨⟨aC,aC⟩,hw.int_⟩
theorem YA.put{tb t:Nat}{us:List Sl}{st:List (List (List VV))}{u':Sl}{tab:vL}{l:List (List VV)}{row:List VV}(x:YA h s m tb us st)(le:PH.le h h')(ht:s.tables[t]? =some tab)(hl:st[t]? =some l)(hT:Vj m' tb (us.set t u'))(hr:Rows h' u' (xT tab (jU tab row) row false l))(hf:N4 tab.key (tab.columns.map mT.kind) row)(h4:l.length<=3):
 YA h' s m' tb (us.set t u') (st.set t (xT tab (jU tab row) row false l)):=by
 have hfr:=Xw hf;have htl:=(List.getElem?_eq_some_iff.1 hl).1;have hok:=x.ok t tab l ht hl;refine⟨hT,by rw[List.length_set];exact x.ulen,by rw[List.length_set];exact x.slen,λj u l' hu hl'=>?_,λj t' l' ht' hl'=>?_,λl' hl'=>?_,λl' hl'=>?_⟩
 .by_cases e:t=j
  .subst e;rw[List.getElem?_set_self (by rw[x.ulen, <-x.slen];exact htl)]at hu;rw[List.getElem?_set_self htl]at hl';cases hu;cases hl';exact hr
  .rw[List.getElem?_set_ne e]at hu hl';exact bZ.mono (x.rows j u l' hu hl') le λr t hv=>cL.mono hv le
 .by_cases e:t=j
  .subst e;rw[List.getElem?_set_self htl]at hl';rw[ht]at ht';cases hl';cases ht';refine⟨λr hr=>?_,λi r r' e1 e2=>(JA (K5.of hok.2)).adj i r r' e1 e2⟩;rcases Ip hr with rfl|hr
   .exact hfr
   .exact hok.1 r hr
  .rw[List.getElem?_set_ne e]at hl';exact x.ok j t' l' ht' hl'
 .rcases List.mem_or_eq_of_mem_set hl' with h5|rfl
  .exact x.val l' h5
  .intro r hr v hv;rcases Ip hr with rfl|hr
   .obtain⟨i,hi,rfl⟩:=List.mem_iff_getElem.1 hv;have hi2:i<(tab.columns.map mT.kind).length:=by rw[<-hf.1];exact hi
    exact VO (hf.2.2 i _ _ (List.getElem?_eq_getElem hi) (List.getElem?_eq_getElem hi2)) (hf.2.1 _ hv)
   .exact x.val l (List.mem_of_getElem? hl) r hr v hv
 .rcases List.mem_or_eq_of_mem_set hl' with h5|rfl
  .exact x.few l' h5
  .have:=Iq (t:=tab) (key:=jU tab row) (row:=row) (l:=l) (d:=false);simp at this;omega
theorem UX:Sound Tryz.prog 14 WQ:=by
 refine Xv Tryz.func14 ?_;rintro cvs m h K ⟨cb,v,s,rfl,hc,hs,hp,hK⟩;refine⟨Ye cb v,rfl,aD GQ (aD DB (aD UD (aD LI (aD UC aF)))),Kj cb v m h (cZ h K),by kernel_rfl,?_⟩;show Kj cb v m h (cZ h K);dsimp only[Kj,push_cast];have htl:=hs.tables.slen;obtain⟨hse,hne⟩:=EY hp;have h8:=AP hse;have hs8:=xR hse;have hn0:0<s.tables.length:=List.length_pos_iff.2 hne;refine⟨aC,aC,aC,aC,λsl m1 hnew=>?_⟩;rw[show((v.tables.len:Int)).toNat=s.tables.length by omega]at hnew
 obtain⟨tb,cap,cur,hsl,hcur,_,_,hcs,hct⟩:∃b cap cur,sl=⟨some ⟨b,0,none⟩,s.tables.length,cap⟩/\m1 b=some (.cells cur 53 (0,0))/\s.tables.length<=cap/\cap<=maxLen/\cur.size=cap*1/\cur.toList.take (s.tables.length*1)=(List.replicate s.tables.length [vO]).flatten:=by
  rcases hnew.row.ex with⟨_,e⟩|⟨b,cap,cur,e1,e2,e3,e4,e5,e6⟩
  .have:=congrArg List.length e;rw[List.length_replicate,List.length_nil]at this;omega
  .rw[List.length_replicate]at e1 e3 e6;exact⟨b,cap,cur,e1,e2,e3,e4,e5,e6⟩
 have hcapn:s.tables.length<=cap:=by assumption
 have htb0:cF m h tb:=hnew.fresh tb 0 (by rw[hsl])
 have hne1:tb≠cb:=λe=>by
  obtain⟨cs,e2⟩:=hc.blk;rw[<-e,htb0.m_]at e2;cases e2
 have hoth:∀b,b≠tb->m1 b=m b:=λb hb=>hnew.other b λi e=>by
  rw[hsl]at e;injection e with e;injection e with e1 e2;exact hb e1.symm
 have hc1:aL m1 h cb:=hc.keep (hoth cb (Ne.symm hne1)) (.refl _)
 have hT0:YA h s m1 tb (List.replicate s.tables.length ⟨none,0,0⟩) (List.replicate s.tables.length []):=by
  refine⟨⟨cur,hcur,by rw[List.length_replicate];omega,?_⟩,by simp,by simp,λj u l hu hl=>?_,λj t l ht hl=>?_,λl hl=>?_,λl hl=>?_⟩
  .rw[List.length_replicate, <-Nat.mul_one s.tables.length,hct,Nat.mul_one,List.map_replicate];generalize s.tables.length=k
   induction k with
   |zero=>rfl
   |succ k ih=>rw[List.replicate_succ,List.flatten_cons,ih,List.replicate_succ];rfl
  .have hu:=List.mem_of_getElem? hu;have hl:=List.mem_of_getElem? hl;rw[List.eq_of_mem_replicate hu,List.eq_of_mem_replicate hl];exact bZ.nil _ _ _ _
  .rw[List.eq_of_mem_replicate (List.mem_of_getElem? hl)];exact⟨λr hr=>by simp at hr,λi r r' e=>by simp at e⟩
  .rw[List.eq_of_mem_replicate hl];intro r hr;simp at hr
  .rw[List.eq_of_mem_replicate hl];simp
 clear hct hcs hcur cur;refine⟨λz=>z.1<=s.tables.length/\z.2.1=sl/\PH.le h z.2.2.2/\aL z.2.2.1 z.2.2.2 cb/\(∀b,b≠tb->b≠cb->z.2.2.1 b=m b)/\∃us st,YA z.2.2.2 s z.2.2.1 tb us st/\∀j l,z.1<=j->st[j]? =some l->l=[],λz=>s.tables.length-z.1,⟨(0,sl,m1,h),⟨by simp,rfl,.refl _,hc1,λb h1 _=>hoth b h1,_,_,hT0,λj l _ e=>List.eq_of_mem_replicate (List.mem_of_getElem? e)⟩,MT⟩,?_⟩;clear hT0 hc1;rintro⟨i,sl',m2,h2⟩ ⟨hi,e1,le2,c2,o2,us,st,hT,hnil⟩;dsimp only at hi e1 le2 c2 o2 hT hnil⊢
 rw[e1];clear e1 sl';refine aE (λhlt=>?_) (λhge=>?_)
 .obtain⟨tab,htab⟩:=fG htl hlt;have htabm:=List.mem_of_getElem? htab;obtain⟨tk,tc,tc4,tko⟩:=GA hp htabm;have hil:=(List.getElem?_eq_some_iff.1 htab).1
  have hnil0:st[i]? =some []:=by
   have:=List.getElem?_eq_getElem (l:=st) (i:=i) (by rw[hT.slen];exact hil);rw[this,hnil i _ (Nat.le_refl _) this]
  refine⟨cb,5,rfl,c2,λk m3 k0 k1 o3 c3=>?_⟩;refine⟨λz=>z.1=i/\z.2.2.1=sl/\z.2.1<=4/\PH.le h z.2.2.2.2/\aL z.2.2.2.1 z.2.2.2.2 cb/\(∀b,b≠tb->b≠cb->z.2.2.2.1 b=m b)/\∃us st l,YA z.2.2.2.2 s z.2.2.2.1 tb us st/\st[i]? =some l/\((l.length:Int)<=4-z.2.1)/\0<=z.2.1/\∀j l,i+1<=j->st[j]? =some l->l=[],λz=>z.2.1.toNat,⟨(i,k,sl,m3,h2),⟨rfl,rfl,by show k<=4;omega,le2,c3,λb h1 h2=>by show m3 b=m b;rw[o3.other b h2];exact o2 b h1 h2,us,st,[],hT.mono (.refl _) (o3.other tb hne1),hnil0,by simp;omega,k0,λj l hj=>hnil j l aC⟩,MT⟩,?_⟩;clear o3 c3 m3 k0 k1 hT hnil hnil0 us st k o2 c2 m2;rintro⟨i',n,sl',m3,h3⟩ ⟨e1,e2,hn4,le3,c3,o3,us,st,l,hT,hl,hll,hn0',hnil⟩;dsimp only at e1 e2 hn4 le3 c3 o3 hT hl hll hn0' hnil⊢
  rw[e1,e2];clear e1 e2 i' sl';refine aE (λhn=>?_) (λhn=>?_)
  .obtain⟨b,o,y,ea,rd,hy⟩:=bZ.at (hs.mono le3).tables htab;have hkT:gT s (i:Int)=tab.columns.map mT.kind:=by rw[gT,if_neg aC,Int.toNat_natCast,htab]
   refine⟨b,o,ea,aC,aC,tab.key,.imm (by rw[<-hy.key];exact aZ.part rd 2 1),by rw[<-hy.key];exact aZ.part rd 2 1,v,s,i,rfl,hs.mono le3,hs8,λks h4 le4 hks=>?_⟩;rw[hkT]at hks;refine⟨cb,ks,tab.key,_,rfl,c3.mono le4,hks,by rw[List.length_map];omega,λk hk=>?_,λsr row m5 h5 le5 hrow hfit o5 c5=>?_⟩
   .obtain⟨c,hc,rfl⟩:=List.mem_map.1 hk;exact tko c hc
   have hrl:row.length=tab.columns.length:=by rw[hfit.1,List.length_map]
   refine⟨v,s,i,sr,row,rfl,hs.mono ((le3.trans le4).trans le5),hrow,aC,λsk h6 le6 hkey=>?_⟩;rw[Dy htab]at hkey;have hT6:=hT.mono ((le4.trans le5).trans le6) (o5.other tb hne1);obtain⟨u,hu⟩:∃u,us[i]? =some u:=⟨_,List.getElem?_eq_getElem (by rw[hT.ulen];exact hil)⟩
   have hlm:=List.mem_of_getElem? hl;refine⟨v,s,tb,s.tables.length,cap,us,u,i,tab,l,sk,jU tab row,sr,row,by rw[hsl],hs.mono (((le3.trans le4).trans le5).trans le6),htab,hT6.tbl,hT.ulen.symm,hu,hT6.rows i u l hu hl,by have:=hT.few l hlm;omega,λr hr=>?_,hkey,cL.mono hrow le6,aC,aC,λu' m7 h7 le7 hr7 hT7 o7=>?_⟩
   .have:=(NA ((hT.ok i tab l htab hl).1 r hr)).1;omega
   have hw:IntKind.i64.wrap (n-1)=n-1:=dW aC aC;have hpl:=Iq (t:=tab) (key:=jU tab row) (row:=row) (l:=l) (d:=false);simp at hpl;refine⟨(i,n-1,sl,m7,h7),⟨rfl,rfl,by show n-1<=4;omega,(((le3.trans le4).trans le5).trans le6).trans le7,(c5.mono (le6.trans le7)).keep (o7.other cb (Ne.symm hne1)) (.refl _),λb h1 h2=>by show m7 b=m b;rw[o7.other b h1,o5.other b h2];exact o3 b h1 h2,us.set i u',st.set i _,_,hT6.put le7 htab hl hT7 hr7 hfit aC,List.getElem?_set_self (List.getElem?_eq_some_iff.1 hl).1,by show(_:Int)<=4-(n-1);omega,by show 0<=n-1;omega,λj l' hj e=>?_⟩,by show(n-1).toNat<n.toNat;omega,?_⟩
   .rw[List.getElem?_set_ne aC]at e;exact hnil j l' hj e
   .rw[hw,hsl];exact MT
  .refine⟨(i+1,sl,m3,h3),⟨by show i+1<=s.tables.length;omega,rfl,le3,c3,o3,us,st,hT,hnil⟩,by show s.tables.length-(i+1)<s.tables.length-i;omega,?_⟩;rw[j8 aC];exact MT
 .obtain⟨cur,hcur,hcs,hct⟩:=hT.tbl;refine cZ.iceB hcur le2 λh3 le3 hice=>hK st sl _ h3 (le2.trans le3) ⟨⟨⟨us,⟨by rw[hsl,List.length_map];exact hT.ulen.symm,.inr ⟨tb,0,by rw[hsl],λj e hj=>⟨λn x hx=>?_⟩⟩,by rw[hsl];exact hcapn⟩,by rw[hT.slen,hT.ulen],λj l hl=>?_⟩,by rw[hT.slen];omega⟩,by rw[hT.slen];omega,hT.val⟩ ⟨hT.slen,hT.few,hT.ok,hT.val⟩ ⟨λb hb=>?_⟩ ?_
  .rw[List.getElem?_map,Option.map_eq_some_iff]at hj;obtain⟨u,hu,rfl⟩:=hj;have hn:n=0:=by have:=(List.getElem?_eq_some_iff.1 hx).1;simp[eS]at this;omega
   subst hn
   have hx:u.val=x:=by
    simp[eS]at hx;exact hx
   subst hx;have e:(cur.toList.take us.length)[j]? =some u.val:=by rw[hct,List.getElem?_map,hu];rfl
   rw[List.getElem?_take,if_pos (List.getElem?_eq_some_iff.1 hu).1,Array.getElem?_toList]at e;rw[hice,show 0+j*1+0=j by omega];exact e
  .have hjl:=(List.getElem?_eq_some_iff.1 hl).1;have hju:j<us.length:=by rw[hT.ulen, <-hT.slen];exact hjl
   have hu:us[j]? =some us[j]:=List.getElem?_eq_getElem hju;exact⟨_,hu,bZ.mono (hT.rows j _ l hu hl) le3 λr t hv=>cL.mono hv le3⟩
  .by_cases e:b=tb
   .subst e;simp[htb0.m_]
   .simp only[e,if_false];exact o2 b e hb
  .refine aL.keep c2 ?_ le3;simp[Ne.symm hne1]
def Xf:Vc.Spec:=λcvs m h K=>cvs=[]/\iW m/\K (cB true) m h
def J9(m:MH)(h:PH)(K:CV->MH->PH->Prop):Prop:=
  cC (λs h1=>bJ h h1 (a8 h1 s 2 (vT IJ 4::fO (vT (IK 99) 4))) (jW 1 (λn=>jW 10 (λn1=>jW 2 (λn2=>jW 10 (λn3=>jW 3 (λn4=>jW 20 (λn5=>cC (λs1 h2=>bJ h1 h2 (a8 h2 s1 3 (uI n::fO (uI n1))) (cC (λs2 h3=>bJ h2 h3 (a8 h3 s2 3 (uI n2::fO (uI n3))) (cC (λs3 h4=>bJ h3 h4 (a8 h4 s3 3 (uI n4::fO (uI n5))) (cC (λs4 h5=>bJ h4 h5 (a8 h5 s4 1 (aR s1::aR s2::fO (aR s3))) (cC (λs5 h6=>bJ h5 h6 (a8 h6 s5 5 (fO (Dp 116 97 115 107 (rG 115) s 1))) (cC (λs6 h7=>bJ h6 h7 (a8 h7 s6 1 (fO (aR s4))) (cC (λs7 h8=>bJ h7 h8 (a8 h8 s7 1 (fO (bT 1))) (cC (λs8 h9=>bJ h8 h9 (a8 h9 s8 2 (fO (gM aK Ac))) (cC (λs9 a=>
 bJ h9 a (a8 a s9 21 (fO (aI (dK 1) aK (aI aK aK (aI aK aK (aI aK aK (xU (A5 vO iN)))))))) (kG (λv a1=>Co (λa2 a3=>pE (λw q=>aA (kN (gM aK (dO s5))::aT (kN (aR s6)) (kN (aI (dK 9) aK (aI aK aK (aI aK aK (aI aK aK (xU (aI vO (dO s7) (aI (dO s8) (dK 1) (aR s9)))))))))=bI v::aT (kN (aR a2)) (cN w)) (gI a a1 v) (aA (Il a a2 a3) (dA a q w) (aA (dX (iR q)) (iW m) (bO ((dG a1 [] q).2=0) (oI a1 a3=0) (D8 a3 q)/\cC (λa4 a5=>bJ a a5 (Rows a5 a4 (DW a1 a3 q).1) (dL (DW a1 a3 q).2 0 (dL (aG a4) 2 (aU (λb o=>aA (aX a4.a b o) ((0:Int)<=0) (0<aG a4/\∃(y:Sl),aM m a5 b (o+0) (aR y)/\aU (λb1 o1=>aA (aX y.a b1 o1) ((0:Int)<=0) (0<
 aG y/\∃(y1:VV),aA (aM m a5 b1 (o1+0) y1.enc) (aZ a5 b (o+0) (aR y)) (aZ a5 b1 (o1+0) y1.enc/\jW 2 (λn6=>lX 27 y1.enc (uI n6) (λr=>branch r (aU (λb2 o2=>aA (aX a4.a b2 o2) ((0:Int)<=1) (1<aG a4/\∃(y2:Sl),aM m a5 b2 (o2+1) (aR y2)/\aU (λb3 o3=>aA (aX y2.a b3 o3) ((0:Int)<=0) (0<aG y2/\∃(y3:VV),aA (aM m a5 b3 (o3+0) y3.enc) (aZ a5 b (o+0) (aR y)) (aA (aZ a5 b1 (o1+0) y1.enc) (aZ a5 b2 (o2+1) (aR y2)) (aZ a5 b3 (o3+0) y3.enc/\jW 3 (λn7=>lX 27 y3.enc (uI n7) (λr1=>branch r1 (aU (λb4 o4=>aA (aX a4.a b4 o4) ((0:Int)<=0) (0<aG a4/\∃(y4:Sl),aM m a5 b4 (o4+0) (aR y4)/\aU (λb5 o5=>aA (aX a4.a b5 o5) ((0:Int)<=1) (1<aG a4/\∃(y5:Sl),aA (aM m a5
 b5 (o5+1) (aR y5)) (aZ a5 b (o+0) (aR y)) (aA (aZ a5 b1 (o1+0) y1.enc) (aZ a5 b2 (o2+1) (aR y2)) (aZ a5 b3 (o3+0) y3.enc/\jT (λo6 a6=>∃(t:Sl)(o7:List (Int×Bool))(a7 b6:List VV),aA (cW s8::aT (cW y4) (cW y5)=cW o6::aT (cW a6) (cW t)) (iJ a5 o6 o7) (aA (cL a5 a6 a7) (cL a5 t b6) (K (AB (kI o7 a7 b6==1)) m a5)))))))))) (aA (aZ a5 b (o+0) (aR y)) (aZ a5 b1 (o1+0) y1.enc) (aA (aZ a5 b2 (o2+1) (aR y2)) (aZ a5 b3 (o3+0) y3.enc) (K bB m a5)))))))))))) (aA (aZ a5 b (o+0) (aR y)) (aZ a5 b1 (o1+0) y1.enc) (aA (aZ a5 b (o+0) (aR y)) (aZ a5 b1 (o1+0) y1.enc) (K bB m a5))))))))))) (K bB m a5)) (K bB m a5)))))))))))))))))))))))))))))))))))
def nV(n:Int):VV:=⟨4,n,⟨#[]⟩⟩
def bS:oS:=⟨0,[⟨⟨⟨[116,97,115,107,115]⟩⟩,[⟨⟨⟨[105,100]⟩⟩,4⟩,⟨⟨⟨[112,114,111,106,101,99,116]⟩⟩,4⟩],1,[],[]⟩]⟩
def Vm:List (List (List VV)):=[[[nV 1,nV 10],[nV 2,nV 10],[nV 3,nV 20]]]
def WI:Query:=.mk 1 0 hZ [] [] [] [] 0 []
def bQ:Query:=.mk 9 0 hZ [] [] [1] [(0,true)] 1 [WI]
theorem YK:eK bS=0:=Vw (by decide) (λt ht=>by simp[bS]at ht;subst ht;exact⟨by simp,rfl,rfl⟩) (by decide) (by decide) (by
 refine xE ⟨⟨?_,?_,?_,?_,xE ⟨⟨?_,?_,?_⟩,⟨?_,?_,?_⟩,trivial⟩⟩,trivial⟩
 all_goals first|rfl|(simp;done)|decide)
theorem QS{k:List Int}(h:bY s ps q=(k,0))(hr:v8 k gr od li)(hk:k.length<=12):bY s ps (.mk 9 0 hZ [] [] gr od li [q])=(k,0):=by
 rw[GM (by decide) h];unfold iC;rw[if_neg (by simp[arity,dE])];dsimp only;rw[if_neg (by decide),if_neg (by decide),if_neg (by decide),if_neg (by decide),if_neg (by decide),if_pos rfl,if_pos hr,FR hk]
theorem WJ:bY bS [] bQ=([4,4],0):=by
 have e:gT bS 0=[4,4]:=rfl
 have h:bY bS [] WI=([4,4],0):=by
  have:=JV (s:=bS) (ps:=[]) (t:=0) (by decide) (by decide) (by rw[e];decide);rw[e]at this;exact this
 exact QS h ⟨xE ⟨⟨by decide,by simp⟩,trivial⟩,xE ⟨by show Cx _ _=true;decide,trivial⟩,by decide,by decide,by decide⟩ (by decide)
theorem Jy{k:List Int}(hs:eK s=0)(h:iR q=true)(hk:bY s [] q=(k,0)):dG s [] q=(k,0):=by
 unfold dG;rw[if_pos hs,if_pos (by rfl),if_pos h,hk]
theorem ZD:dG bS [] bQ=([4,4],0):=Jy YK (by rfl) WJ
theorem Zr:oI bS Vm=0:=by
 unfold oI;rw[if_neg (by simp[YK]),if_neg (by decide),if_neg (by decide),if_pos];intro i t l ht hl
 match i,ht,hl with
 |0,ht,hl=>
  simp[bS]at ht;simp[Vm]at hl;subst ht hl;refine⟨λr hr=>?_,λi r r' e1 e2=>?_⟩
  .simp at hr;have hv:∀n,xG 1 4 0 (nV n)=true/\xG 1 4 1 (nV n)=true:=λn=>by simp[xG,nV,Vr]
   rcases hr with rfl|rfl|rfl
   all_goals
    refine CG.2 ⟨rfl,λi hi=>?_⟩
    match i,hi with
    |0,_=>exact(hv _).1
    |1,_=>exact(hv _).2
    |i+2,hi=>simp at hi;omega
  .match i,e1,e2 with
   |0,e1,e2=>simp at e1 e2;subst e1 e2;decide
   |1,e1,e2=>simp at e1 e2;subst e1 e2;decide
   |i+2,e1,e2=>simp at e2
 |i+1,ht,hl=>simp[bS]at ht
theorem ZC:vB Vm bQ=[[nV 2,nV 10],[nV 3,nV 20]]:=by rfl
theorem MS{s:Sl}{l:List VV}(r:a8 h s 3 (l.map VV.enc))(hl:l.length<=1000):cL h s l:=⟨⟨l,r,rfl,λi x hx=>⟨x,hx,rfl⟩⟩,aC⟩
theorem UK:Sound Tryz.prog 23 Xf:=by
 refine FW Tryz.func23 ?_;rintro cvs m h K ⟨rfl,ht,hK⟩;refine⟨dM [(61,TH),(21,WX),(34,Gp)] [] [] [] false,rfl,aD UB (aD LP (aD G0 aF)),J9 m h (kO h K),by kernel_rfl,?_⟩;show J9 m h (kO h K);dsimp only[J9,push_cast];intro s1 h1 le1 r1;refine⟨1,rfl,10,rfl,2,rfl,10,rfl,3,rfl,20,rfl,?_⟩;intro s2 h2 le2 r2 s3 h3 le3 r3 s4 h4 le4 r4 s5 h5 le5 r5 s6 h6 le6 r6 s7 h7 le7 r7 s8 h8 le8 r8 s9 h9 le9 r9 sa ha lea ra;have l9:=le9.trans lea;have l8:=le8.trans l9;have l7:=le7.trans l8;have l6:=le6.trans l7;have l5:=le5.trans l6;have l4:=le4.trans l5;have l3:=le3.trans l4;have l2:=le2.trans l3;have rs:dA ha WI ⟨1,0,eV,bF,bF,bF,bF,0,bF⟩:=Ao ha 0;have so:iJ ha s9 [(0,true)]:=⟨r9.mono lea,by simp⟩
 have rq:dA ha bQ ⟨9,0,eV,bF,bF,s8,s9,1,sa⟩:=pJ.rep ⟨rfl,rfl,Am ha,iQ ha,pM ha,⟨r8.mono l9,by simp⟩,so,rfl,xJ (v:=⟨1,0,eV,bF,bF,bF,bF,0,bF⟩) ra rs⟩;have rt:Hv ha ⟨⟨⟨[116,97,115,107,115]⟩⟩,[⟨⟨⟨[105,100]⟩⟩,4⟩,⟨⟨⟨[112,114,111,106,101,99,116]⟩⟩,4⟩],1,[],[]⟩ ⟨⟨⟨[116,97,115,107,115]⟩⟩,s1,1,bF,bF⟩:=⟨rfl,Gc (l:=[⟨_,_⟩,⟨_,_⟩]) (r1.mono l2) (by simp),rfl,bZ.nil _ _ _ _,bZ.nil _ _ _ _⟩
 have rS:gI ha bS ⟨0,s6⟩:=⟨rfl,⟨⟨[⟨⟨⟨[116,97,115,107,115]⟩⟩,s1,1,bF,bF⟩],r6.mono l7,rfl,λi x e=>by
  match i,e with
  |0,e=>simp[bS]at e;subst e;exact⟨_,rfl,rt⟩
  |i+1,e=>simp[bS]at e⟩,by simp[bS]⟩⟩
 have v1:cL ha s2 [nV 1,nV 10]:=MS (r2.mono l3) (by simp);have v2:cL ha s3 [nV 2,nV 10]:=MS (r3.mono l4) (by simp);have v3:cL ha s4 [nV 3,nV 20]:=MS (r4.mono l5) (by simp)
 have rr:Rows ha s5 [[nV 1,nV 10],[nV 2,nV 10],[nV 3,nV 20]]:=⟨⟨[s2,s3,s4],r5.mono l6,rfl,λi x e=>by
  match i,e with
  |0,e=>simp at e;subst e;exact⟨_,rfl,v1⟩
  |1,e=>simp at e;subst e;exact⟨_,rfl,v2⟩
  |2,e=>simp at e;subst e;exact⟨_,rfl,v3⟩
  |i+3,e=>simp at e⟩,by simp⟩
 have rst:Il ha s7 Vm:=⟨⟨⟨[s5],r7.mono l8,rfl,λi x e=>by
  match i,e with
  |0,e=>simp[Vm]at e;subst e;exact⟨_,rfl,rr⟩
  |i+1,e=>simp[Vm]at e⟩,by simp[Vm]⟩,by simp[Vm],λl hl r hr v hv=>by
   simp[Vm]at hl;subst hl;simp at hr;rcases hr with rfl|rfl|rfl<;>simp at hv<;>rcases hv with rfl|rfl<;>exact⟨by constructor<;>decide,by constructor<;>decide⟩⟩
 have hres:DW bS Vm bQ=([[nV 2,nV 10],[nV 3,nV 20]],0):=by
  unfold DW;rw[ZD,if_neg (by simp),if_neg (by simp[Zr]),ZC]
 refine⟨⟨0,s6⟩,bS,s7,Vm,⟨9,0,eV,bF,bF,s8,s9,1,sa⟩,bQ,rfl,rS,rst,rq,by rfl,ht,λ_ _=>⟨3,by decide,λl hl=>by simp[Vm]at hl;subst hl;simp,by decide⟩,λs' hb leb hr=>?_⟩;rw[hres]at hr⊢
 dsimp only at hr⊢
 have hrl:=bZ.slen hr;have hrl:s'.len=2:=hrl;obtain⟨b1,o1,u1,ea1,rd1,hv1⟩:=bZ.at hr (i:=0) rfl;obtain⟨b2,o2,u2,ea2,rd2,hv2⟩:=bZ.at hr (i:=1) rfl;obtain⟨b3,o3,x1,ea3,rd3,e3⟩:=bZ.at hv1 (i:=0) rfl;obtain⟨b4,o4,x2,ea4,rd4,e4⟩:=bZ.at hv2 (i:=0) rfl;subst e3 e4;have n1:u1.len=2:=bZ.slen hv1;have n2:u2.len=2:=bZ.slen hv2;have eq2:∀v:VV,U5 v v=true:=λv=>by simp[U5]
 have rd1:aZ hb b1 (o1+0) [dO u1]:=rd1;have rd2:aZ hb b2 (o2+1) [dO u2]:=rd2;have rd3:aZ hb b3 (o3+0) (VV.enc (nV 2)):=by simpa using rd3
 have rd4:aZ hb b4 (o4+0) (VV.enc (nV 3)):=by simpa using rd4
 have hc:kI [(0,true)] [nV 2,nV 10] [nV 3,nV 20]=1:=by decide
 refine aB (λ_=>aB (λ_=>⟨b1,o1,ea1,aC,aC,u1,.imm rd1,b3,o3,ea3,aC,aC,nV 2,.imm rd3,rd1,rd3,2,rfl,_,F3 (nV 2) (nV 2),aB (λ_=>⟨b2,o2,ea2,aC,aC,u2,.imm rd2,b4,o4,ea4,aC,aC,nV 3,.imm rd4,rd1,rd3,rd2,rd4,3,rfl,_,F3 (nV 3) (nV 3),aB (λ_=>⟨b1,o1,ea1,aC,aC,u1,.imm rd1,b2,o2,ea2,aC,aC,u2,.imm rd2,rd1,rd3,rd2,rd4,s9,u1,u2,[(0,true)],_,_,rfl,so.mono leb,hv1,hv2,?_⟩) (λe=>?_)⟩) (λe=>?_)⟩) (λe=>?_)) (λe=>?_)
 .rw[hc];exact .out (Sub.refl m) ((le1.trans l2).trans leb) hK
 .rw[eq2]at e;cases e
 .rw[eq2]at e;cases e
 .rw[hrl]at e;cases e
 .cases e
abbrev Rel:=List (List VV)
theorem join_filter{on:List (Int×Int)}{p:List VV->Bool}{a b:Rel}(h:∀x∈a,∀y∈b,p (x++y)=(oV (iI on) x&&(oV (eF on) y&&agree on x y))):(a.flatMap (iX [] b)).filter p=a.flatMap (iX on b):=by
 induction a with
 |nil=>rfl
 |cons x a ih=>
  rw[List.flatMap_cons,List.flatMap_cons,List.filter_append,ih λx hx=>h x (List.mem_cons_of_mem _ hx)];congr 1;have h:=h x (List.mem_cons_self ..)
  have e1:iX [] b x=b.map (x++ ·):=by
   unfold iX;rw[if_pos (by simp[oV,iI,pick])];congr 1;exact List.filter_eq_self.2 λy _=>by simp[oV,iI,eF,pick,agree,dP]
  rw[e1,List.filter_map];unfold iX;split
  .rename_i hx;congr 1;exact List.filter_congr λy hy=>by rw[Function.comp,h y hy,hx,Bool.true_and]
  .rename_i hx;rw[List.map_eq_nil_iff,List.filter_eq_nil_iff];intro y hy;rw[Function.comp,h y hy];simp[hx]
def ZT:Vc.Spec:=λcvs m h K=>∃s cs,cvs=[cS s]/\a8 h s 1 (bG cs)/\s.len<=s.cap/\iW m/\∀m' h',Sub m m'->K (cB true) m' h'
noncomputable def OU:List (Nat×Vc.Spec):=[(11,ZJ),(12,W0),(13,Sz 5),(25,CR),(26,NY),(30,yI),(14,WQ),(27,YR),(28,NX),(29,Y3),(24,YN),(23,Xf),(15,Gn),(16,KN)]
theorem Uc:∀g S,assoc OU g=some S->Sound Tryz.prog g S:=aD U1 (aD U0 (aD (Tn 5) (aD LM (aD LL (aD DC (aD UX (aD UI (aD LK (aD UH (aD UJ (aD UK (aD GQ (aD xL aF)))))))))))))
def SC(k:List Int):Prop:=k≠[]/\DY k
theorem Lv{kss:List (List Int)}(h:∀k∈kss,SC k)(hi:i<kss.length):SC (kss.getD i []):=by
 rw[List.getD_eq_getElem?_getD,List.getElem?_eq_getElem hi];exact h _ (List.getElem_mem hi)
mutual
theorem OW{s:oS}{ps:List Int}(hk:WU s)(hc:∀t∈s.tables,t.columns≠[]):∀{q:Query}{ks:List Int},bY s ps q=(ks,0)->SC ks
 |.mk op ta w co on gr od li args,ks,h=>by
  obtain⟨kss,h1,h2,h3⟩:=yC h;have ih:=Lp hk hc h1;have ar:arity op=1\/arity op=2->SC (kss.getD 0 []):=λe=>Lv ih aC;have ar2:arity op=2->SC (kss.getD 1 []):=λe=>Lv ih aC;unfold iC at h3;dsimp only at h3;split at h3
  .simp[iY]at h3
  rename_i hn;have hpos:0<=arity op:=by have:¬arity op<0:=λe=>hn (.inl e);omega
  split at h3
  .rename_i e1;subst e1;split at h3
   .rename_i h4;obtain⟨rfl,_⟩:=kH h3;refine⟨λe=>?_,hk ta⟩;have ht:ta.toNat<s.tables.length:=by omega
    rw[gT,if_neg aC,List.getElem?_eq_getElem ht]at e;exact hc _ (List.getElem_mem ht) (List.map_eq_nil_iff.1 e)
   .simp[iY]at h3
  .rename_i e1
   have h12:arity op=1\/arity op=2:=by
    unfold arity at hpos⊢
    split
    .rename_i e;simp at e;exact absurd e e1
    .split
     .exact .inl rfl
     .split
      .exact .inr rfl
      .rename_i a b c;rw[if_neg a,if_neg b,if_neg c]at hpos;omega
   have k0:=ar h12;split at h3
   .split at h3
    .obtain⟨rfl,_⟩:=kH h3;exact k0
    .rename_i e;simp only[iY,Prod.mk.injEq]at h3;exact absurd h3.2 e
   split at h3
   .split at h3
    .rename_i hg;obtain⟨rfl,_⟩:=kH h3;refine⟨λe=>hg.1 (List.map_eq_nil_iff.1 e),λk hkm=>?_⟩;obtain⟨c,hcm,rfl⟩:=List.mem_map.1 hkm;obtain⟨_,h5⟩:=CE hg.2 hcm;have h5:=JY h5;rw[List.getD_eq_getElem?_getD,List.getElem?_eq_getElem aC];exact k0.2 _ (List.getElem_mem _)
    .simp[iY]at h3
   split at h3
   .rename_i e4;subst e4;split at h3
    .obtain⟨rfl,_⟩:=kH h3;refine⟨λe=>k0.1 (List.append_eq_nil_iff.1 e).1,λk hkm=>?_⟩;rcases List.mem_append.1 hkm with hkm|hkm
     .exact k0.2 k hkm
     .exact(ar2 rfl).2 k hkm
    .simp[iY]at h3
   all_goals
    repeat' split at h3
    all_goals first
     |(obtain⟨rfl,_⟩:=kH h3;exact k0)
     |(simp[iY]at h3;done)
theorem Lp{s:oS}{ps:List Int}(hk:WU s)(hc:∀t∈s.tables,t.columns≠[]):∀{qs:List Query}{kss:List (List Int)},eX s ps qs=(kss,0)->∀k∈kss,SC k
 |[],kss,h,k,hkm=>by rw[eX]at h;simp only[Prod.mk.injEq,and_true]at h;subst h;simp at hkm
 |q::qs,kss,h,k,hkm=>by
  obtain⟨k1,kss',h1,h2,rfl⟩:=j6 h;rcases List.mem_cons.1 hkm with rfl|hkm
  .exact OW hk hc h1
  .exact Lp hk hc h2 k hkm
end
theorem HL(h:pK s){ks:List Int}(hq:bY s ps q=(ks,0)):SC ks:=OW (QH h) (λt ht e=>by have:=(GA h ht).2.1;rw[e]at this;simp at this) hq
def KZ(p:Pred)(a:Query):Query:=.mk 2 0 p [] [] [] [] 0 [a]
structure KH(s:oS)(h:PH)(v:QV)(q:Query)(k:List Int)(b:Nat):Prop where
 rep:dA h q v
 kin:bY s [] q=(k,0)
 bnd:mU 4 q<=b
theorem KH.mono{k:List Int}{b':Nat}(x:KH s h v q k b)(le:PH.le h h')(hb:b<=b'):KH s h' v q k b':=⟨x.rep.mono le,x.kin,Nat.le_trans x.bnd hb⟩
theorem QF{s:Sl}{w:QV}{p:Query}(r:a8 h s 21 [QV.enc v,QV.enc w])(hq:dA h q v)(hp:dA h p w):zX h s [q,p]:=⟨⟨[v,w],r,rfl,λi x e=>by
 match i,e with
 |0,e=>simp at e;subst e;exact⟨v,rfl,hq⟩
 |1,e=>simp at e;subst e;exact⟨w,rfl,hp⟩
 |i+2,e=>simp at e⟩,by simp⟩
theorem O5{st:List (List (List VV))}(hp:pK s)(h:Hu s st):oI s st=0:=by
 obtain⟨hse,hne⟩:=EY hp;have h8:=AP hse;have hl:=h.len
 have hsum:∀l:List (List (List VV)),(∀x∈l,x.length<=4)->(l.map λx=>(x.length:Int)).sum<=4*(l.length:Int):=λl=>by
  induction l with
  |nil=>intro _;simp
  |cons a l ih=>
   intro hx;have:=ih λx h=>hx x (List.mem_cons_of_mem _ h);have:=hx a (List.mem_cons_self ..);simp only[List.map_cons,List.sum_cons,List.length_cons];omega
 have:=hsum st h.few;unfold oI;rw[if_neg (by simp[hse]),if_neg aC,if_neg (by simp[hl]),if_pos h.ok]
theorem KH.res{k:List Int}{st:List (List (List VV))}(x:KH s h v q k b)(hp:pK s)(hst:Hu s st)(hs:iR q=true):DW s st q=(vB st q,0):=by
 unfold DW;rw[Jy (EY hp).1 hs x.kin,if_neg (by simp),if_neg (by simp[O5 hp hst])]
theorem KH.bok{k:List Int}{st:List (List (List VV))}(x:KH s h v q k b)(hst:Hu s st)(hb:b<=1000000):D8 st q:=⟨4,aC,hst.few,Nat.le_trans x.bnd hb⟩
theorem KH.rel{k:List Int}{st:List (List (List VV))}(x:KH s h v q k b)(hp:pK s)(hst:Hu s st)(hb:b<=1000000):gX k.length (vB st q):=(Vu (O5 hp hst) hst.val hst.few aC x.kin (Nat.le_trans x.bnd hb)).2.2.1
theorem Xk(st:List (List (List VV)))(p:Pred)(a:Query):vB st (KZ p a)=(vB st a).filter λr=>iH r p:=by
 rw[KZ,vB,if_neg (by decide)];rfl
theorem KH.of{d:Nat}(r:dA h q v)(e:(dG s [] q).2=0)(f:K6 d q):KH s h v q (dG s [] q).1 (gB d):=by
 obtain⟨h1,h2,h3,h4⟩:=HI e;have e2:bY s [] q=((bY s [] q).1,0):=Prod.ext rfl h4;have e3:=Jy h1 h3 e2;exact⟨r,by rw[e3];exact e2,f.b⟩
theorem iW.new(ht:iW m)(hc:m cb=none)(o:bA m m' cb):iW m':=by
 obtain⟨T,fz,e⟩:=ht;refine⟨T,fz,?_⟩;rw[o.other 1 (λe2=>by rw[<-e2,e]at hc;cases hc)];exact e
theorem KH.fil{sl:Sl}{p:PV}{a:Query}{pr:Pred}{k:List Int}(x:KH s h v a k b)(hp:eJ h pr p)(he:fX k [] pr=0)(le:PH.le h h')(r:a8 h' sl 21 [QV.enc v]):KH s h' ⟨2,0,p,bF,bF,bF,bF,0,sl⟩ (KZ pr a) k b:=
 ⟨Et (hp.mono le) (xJ r (x.rep.mono le)),kinds_filter x.kin he (by have:=BB s [] a;rw[x.kin]at this;exact this),by
  have h1:=x.bnd;simp only[KZ,mU,yO];rw[if_neg aC,if_neg aC];omega⟩
abbrev It(o:Int)(s:Sl):QV:=⟨o,0,eV,bF,bF,bF,bF,0,s⟩
def Sk(n:Nat)(p:Int×Int):Pred:=.mk 3 1 ⟨1,p.1,zeroV⟩ ⟨1,n+p.2,zeroV⟩ []
def Ht(n:Nat)(on:List (Int×Int)):Pred:=.mk 4 0 cM cM (on.map (Sk n))
def CO(n:Nat)(p:Int×Int):PV:=⟨3,1,⟨1,p.1,⟨0,0,⟨#[]⟩⟩⟩,⟨1,n+p.2,⟨0,0,⟨#[]⟩⟩⟩,bF⟩
theorem WB{x y:List VV}{c:Int}(h0:0<=c)(h1:c<x.length):EA (x++y) ⟨1,c,zeroV⟩=x.getD c.toNat zeroV:=by
 unfold EA;dsimp only;rw[if_neg aC,if_pos ⟨rfl,h0,by simp only[List.length_append];omega⟩,List.getD_eq_getElem?_getD,List.getD_eq_getElem?_getD,List.getElem?_append_left aC]
theorem U8{x y:List VV}{c:Int}(h0:0<=c)(h1:c<y.length):EA (x++y) ⟨1,x.length+c,zeroV⟩=y.getD c.toNat zeroV:=by
 unfold EA;dsimp only;rw[if_neg aC,if_pos ⟨rfl,aC,by simp only[List.length_append];omega⟩,List.getD_eq_getElem?_getD,List.getD_eq_getElem?_getD];rw[List.getElem?_append_right aC,show((x.length:Int)+c).toNat-x.length=c.toNat by omega]
theorem Ui{on:List (Int×Int)}{x y:List VV}(h:∀p∈on,0<=p.1/\p.1<x.length/\0<=p.2/\p.2<y.length):iH (x++y) (Ht x.length on)=(oV (iI on) x&&(oV (eF on) y&&agree on x y)):=by
 have e1:iH (x++y) (Ht x.length on)=(on.map (Sk x.length)).all (iH (x++y)):=by
  rw[Ht,iH,if_neg (by decide),if_neg (by decide),if_pos rfl,CA]
 have e2:∀p∈on,(iH (x++y) (Sk x.length p)=true↔kP (x.getD p.1.toNat zeroV)=true/\kP (y.getD p.2.toNat zeroV)=true/\x.getD p.1.toNat zeroV=y.getD p.2.toNat zeroV):=λp hp=>by
  obtain⟨h1,h2,h3,h4⟩:=h p hp;rw[Sk,iH,if_neg (by decide),if_pos rfl,WB h1 h2,U8 h3 h4];simp only[Cy,SL,if_true,Bool.and_eq_true,beq_iff_eq,DR];constructor
  .rintro⟨⟨⟨a,b⟩,_⟩,d⟩;exact⟨a,b,d⟩
  .rintro⟨a,b,d⟩;exact⟨⟨⟨a,b⟩,by rw[d]⟩,d⟩
 have e3:pick x (iI on)=on.map λp=>x.getD p.1.toNat zeroV:=by simp only[pick,iI,List.map_map];rfl
 have e4:pick y (eF on)=on.map λp=>y.getD p.2.toNat zeroV:=by simp only[pick,eF,List.map_map];rfl
 rw[e1,Bool.eq_iff_iff,List.all_eq_true,Bool.and_eq_true,Bool.and_eq_true,oV,oV,MC,e3,e4,List.all_eq_true,List.all_eq_true,List.map_inj_left];constructor
 .intro h5;have h6:=λp(hp:p∈on)=>(e2 p hp).1 (h5 _ (List.mem_map_of_mem hp));refine⟨λz hz=>?_,λz hz=>?_,λp hp=>(h6 p hp).2.2⟩
  .obtain⟨p,hp,rfl⟩:=List.mem_map.1 hz;exact(h6 p hp).1
  .obtain⟨p,hp,rfl⟩:=List.mem_map.1 hz;exact(h6 p hp).2.1
 .rintro⟨h5,h6,h7⟩ z hz;obtain⟨p,hp,rfl⟩:=List.mem_map.1 hz;exact(e2 p hp).2 ⟨h5 _ (List.mem_map_of_mem hp),h6 _ (List.mem_map_of_mem hp),h7 p hp⟩
theorem TZ{k:List Int}{p:Int×Int}(hk:DY k)(h:tG k l [] p):gZ (k++l) [] (Sk k.length p)=true:=by
 obtain⟨h1,h2,h3, -⟩:=h;simp only[Cx,Bool.and_eq_true,decide_eq_true_eq]at h1 h2
 have e1:kindOf (k++l) [] ⟨1,p.1,zeroV⟩=k.getD p.1.toNat 0:=by
  unfold kindOf oG;dsimp only;rw[if_neg (by decide),if_neg (by decide),if_pos (by decide),if_neg (by rw[F2];simp only[List.length_append,Bool.or_eq_true,decide_eq_true_eq,Bool.not_true,Bool.false_eq_true,or_false];omega),List.getD_eq_getElem?_getD,List.getD_eq_getElem?_getD,List.getElem?_append_left aC]
 have e2:kindOf (k++l) [] ⟨1,k.length+p.2,zeroV⟩=l.getD p.2.toNat 0:=by
  unfold kindOf oG;dsimp only;rw[if_neg (by decide),if_neg (by decide),if_pos (by decide),if_neg (by rw[F2];simp only[List.length_append,Bool.or_eq_true,decide_eq_true_eq,Bool.not_true,Bool.false_eq_true,or_false];omega),List.getD_eq_getElem?_getD,List.getD_eq_getElem?_getD,List.getElem?_append_right aC,show((k.length:Int)+p.2).toNat-k.length=p.2.toNat by omega]
 have hc:k.getD p.1.toNat 0≠0:=by
  rw[List.getD_eq_getElem?_getD,List.getElem?_eq_getElem (show p.1.toNat<k.length by omega)];have:=hk _ (List.getElem_mem (show p.1.toNat<k.length by omega));intro e;rw[Option.getD_some]at e;rw[e]at this;unfold Vp at this;omega
 rw[Sk,gZ,e1,e2, <-h3];generalize k.getD p.1.toNat 0=c at hc;simp[hc]
theorem Vi{k:List Int}{on:List (Int×Int)}(hk:DY k)(hl:DY l)(h:∀p∈on,tG k l [] p)(h3:on.length<=3):fX (k++l) [] (Ht k.length on)=0:=by
 have hc:(k++l).all cV=true:=by
  rw[List.all_eq_true];intro c hc;have:Vp c:=(List.mem_append.1 hc).elim (hk c) (hl c);unfold Vp at this;simp only[cV,Bool.or_eq_true,beq_iff_eq];omega
 have hs:Gl 1 (Ht k.length on):=Gl.node (λp hp=>by
  obtain⟨a,_,rfl⟩:=List.mem_map.1 hp;exact Gl.leaf 0) (by rw[List.length_map];exact h3)
 have hv:gZ (k++l) [] (Ht k.length on)=true:=by
  rw[Ht,gZ,yM,List.all_eq_true.2 λp hp=>by
   obtain⟨a,ha,rfl⟩:=List.mem_map.1 hp;exact TZ hk (h a ha),if_neg (by decide),if_neg (by decide),if_pos (by simp)]
  rw[vE];rfl
 have h1:=Eh (Ht k.length on) 0;have h2:=hs.n;have h4:=hs.d;unfold fX;simp only[gF]at h2;rw[hc,show([]:List Int).all cV=true from rfl,if_neg (by simp),CL _ 8 aC,if_neg (by simp;omega),hv];rfl
theorem Yw{n:Nat}{on:List (Int×Int)}{s:Sl}(r:a8 h s 13 ((on.map (CO n)).map PV.enc))(h3:on.length<=3):eJ h (Ht n on) ⟨4,0,cM,cM,s⟩:=by
 have hl:BW h s (on.map (Sk n)):=⟨⟨on.map (CO n),r,by simp,λi x e=>by
  rw[List.getElem?_map,Option.map_eq_some_iff]at e;obtain⟨p,hp,rfl⟩:=e;refine⟨CO n p,by rw[List.getElem?_map,hp];rfl,?_⟩;exact eJ.mk (v:=CO n p) (bZ.nil h 13 PV.enc (eJ h))⟩,by rw[List.length_map];omega⟩
 exact eJ.mk (v:=⟨4,0,cM,cM,s⟩) hl
def tI(on:List (Int×Int))(a b:Query):Query:=.mk 4 0 hZ [] on [] [] 0 [a,b]
theorem Oz(st:List (List (List VV)))(on:List (Int×Int))(a b:Query):vB st (tI on a b)=(vB st a).flatMap (iX on (vB st b)):=by
 rw[tI,vB,if_neg (by decide)];rfl
theorem KH.join{so sl:Sl}{w:QV}{a c:Query}{k:List Int}{b':Nat}{on:List (Int×Int)}(x:KH s h v a k b)(y:KH s h w c l b')(hg:Good (tG k l) on)(hk:(k++l).length<=12)(le:PH.le h h')(ro:lK h' so on)(r:a8 h' sl 21 [QV.enc v,QV.enc w]):KH s h' ⟨4,0,eV,bF,so,bF,bF,0,sl⟩ (tI on a c) (k++l) (b*b'):=
 ⟨pJ.rep ⟨rfl,rfl,Am h',iQ h',ro,iQ h',tN h',rfl,QF r (x.rep.mono le) (y.rep.mono le)⟩,by
  rw[tI,Ud (by decide) x.kin y.kin];unfold iC;rw[if_neg (by simp[dE,arity])];dsimp only;rw[if_neg aC,if_neg aC,if_neg aC,if_pos rfl,if_pos hg,FR hk],by
  simp only[tI,mU,tP];rw[if_neg aC,if_pos trivial,Nat.mul_one];exact Nat.mul_le_mul x.bnd y.bnd⟩
theorem Ic{st:List (List (List VV))}{on:List (Int×Int)}{a b:Query}{k:List Int}(ha:gX k.length (vB st a))(hb:gX l.length (vB st b))(h:∀p∈on,tG k l [] p):vB st (KZ (Ht k.length on) (tI [] a b))=vB st (tI on a b):=by
 rw[Xk,Oz,Oz];refine join_filter λx hx y hy=>?_;have e1:=ha.wid x hx;have e2:=hb.wid y hy;rw[<-e1];refine Ui λp hp=>?_;obtain⟨h1,h2, -, -⟩:=h p hp;simp only[Cx,Bool.and_eq_true,decide_eq_true_eq]at h1 h2;omega
noncomputable def Zl:Ctx:=vK OU
 [(11,{A:=Nat×List (Int×Int)×Nat×aW×Sl×Sl×Sl×QV×MH×PH,st:=λ⟨i,on,cb,sc,k,l,sj,p,m,h⟩=>cE 154 155 [(3,pv cb),(4,.at (.ptr 4 0)),(7,sv k),(9,sv l),(11,.at (.ptr 11 0)),(12,.at (.ptr 12 0)),(13,.at (.ptr 13 0)),(57,iv k.len),(58,iv i)] [(4,.cells 43 (sc.enc.map .val)),(11,.cells 38 (((⟨4,0,eV,bF,bF,bF,bF,0,sj⟩:QV).enc.take 16).map .val++(.lst 119::[.val bF.val,.val bF.val,.val (.int .i64 0),.val sj.val]))),(12,.cells 38 (p.enc.map .val)),(13,.cells 32 (((⟨4,0,cM,cM,⟨none,0,0⟩⟩:PV).enc.take 12).map .val++[.lst 132])),(119,.lst 69 2 (on.map mX)),(132,.lst 32 13 ((on.map (CO k.len)).map PV.enc))] m h}),
  (14,{A:=Nat×Nat×List (Int×Int)×Nat×aW×Sl×Sl×Sl×QV×MH×PH,st:=λ⟨j,i,on,cb,sc,k,l,sj,p,m,h⟩=>cE 154 155 [(3,pv cb),(4,.at (.ptr 4 0)),(7,sv k),(9,sv l),(11,.at (.ptr 11 0)),(12,.at (.ptr 12 0)),(13,.at (.ptr 13 0)),(14,iv i),(57,iv k.len),(58,iv i),(62,iv l.len),(63,iv j)] [(4,.cells 43 (sc.enc.map .val)),(11,.cells 38 (((⟨4,0,eV,bF,bF,bF,bF,0,sj⟩:QV).enc.take 16).map .val++(.lst 119::[.val bF.val,.val bF.val,.val (.int .i64 0),.val sj.val]))),(12,.cells 38 (p.enc.map .val)),(13,.cells 32 (((⟨4,0,cM,cM,⟨none,0,0⟩⟩:PV).enc.take 12).map .val++[.lst 132])),(119,.lst 69 2 (on.map mX)),(132,.lst 32 13 ((on.map (CO k.len)).map PV.enc))] m h}),
  (19,{A:=Nat×Bool×Nat×Nat×List (Int×Int)×Nat×aW×Sl×Sl×Sl×QV×MH×PH,st:=λ⟨t,ok,j,i,on,cb,sc,k,l,sj,p,m,h⟩=>cE 154 155 [(3,pv cb),(4,.at (.ptr 4 0)),(7,sv k),(9,sv l),(11,.at (.ptr 11 0)),(12,.at (.ptr 12 0)),(13,.at (.ptr 13 0)),(14,iv i),(15,iv j),(16,bv ok),(57,iv k.len),(58,iv i),(62,iv l.len),(63,iv j),(86,.at (.lst 119)),(87,iv on.length),(88,iv t)] [(4,.cells 43 (sc.enc.map .val)),(11,.cells 38 (((⟨4,0,eV,bF,bF,bF,bF,0,sj⟩:QV).enc.take 16).map .val++(.lst 119::[.val bF.val,.val bF.val,.val (.int .i64 0),.val sj.val]))),(12,.cells 38 (p.enc.map .val)),(13,.cells 32 (((⟨4,0,cM,cM,⟨none,0,0⟩⟩:PV).enc.take 12).map .val++[.lst 132])),(119,.lst 69 2 (on.map mX)),(132,.lst 32 13 ((on.map (CO k.len)).map PV.enc))] m h})]
 [(4,{A:=Nat×aW×QV×QV×MH×PH,st:=λ⟨cb,sc,a,b,m,h⟩=>cE 154 155 [(3,pv cb),(4,.at (.ptr 4 0)),(5,.at (.ptr 5 0)),(6,.at (.ptr 6 0))] [(4,.cells 43 (sc.enc.map .val)),(5,.cells 38 (a.enc.map .val)),(6,.cells 38 (b.enc.map .val))] m h}),
  (9,{A:=Nat×aW×Sl×Sl×Sl×QV×MH×PH,st:=λ⟨cb,sc,k,l,sj,p,m,h⟩=>cE 154 155 [(3,pv cb),(4,.at (.ptr 4 0)),(7,sv k),(9,sv l),(11,.at (.ptr 11 0)),(12,.at (.ptr 12 0))] [(4,.cells 43 (sc.enc.map .val)),(11,.cells 38 ((⟨4,0,eV,bF,bF,bF,bF,0,sj⟩:QV).enc.map .val)),(12,.cells 38 (p.enc.map .val))] m h}),
  (17,{A:=Nat×Nat×List (Int×Int)×Nat×aW×Sl×Sl×Sl×QV×MH×PH,st:=λ⟨j,i,on,cb,sc,k,l,sj,p,m,h⟩=>cE 154 155 [(3,pv cb),(4,.at (.ptr 4 0)),(7,sv k),(9,sv l),(11,.at (.ptr 11 0)),(12,.at (.ptr 12 0)),(13,.at (.ptr 13 0)),(14,iv i),(15,iv j),(57,iv k.len),(58,iv i),(62,iv l.len),(63,iv j)] [(4,.cells 43 (sc.enc.map .val)),(11,.cells 38 (((⟨4,0,eV,bF,bF,bF,bF,0,sj⟩:QV).enc.take 16).map .val++(.lst 119::[.val bF.val,.val bF.val,.val (.int .i64 0),.val sj.val]))),(12,.cells 38 (p.enc.map .val)),(13,.cells 32 (((⟨4,0,cM,cM,⟨none,0,0⟩⟩:PV).enc.take 12).map .val++[.lst 132])),(119,.lst 69 2 (on.map mX)),(132,.lst 32 13 ((on.map (CO k.len)).map PV.enc))] m h})] [] [100149] [] false
set_option maxRecDepth 100000 in
abbrev pP(a:Nat×aW×QV×QV×MH×PH->Prop)(b:Nat×aW×QV×QV×MH×PH)(c:Nat)(d:aW)(e g:QV)(i:Prop):Prop:=aA (a b) (cJ c b.1) (aA (eP 4) (eP 5) (aA (eP 6) (jO d b.2.1) (aA (fK e b.2.2.1) (fK g b.2.2.2.1) i)))
noncomputable abbrev Er(a:Nat×aW×QV×QV×MH×PH):MH×PH:=a.2.2.2.2
abbrev pX(a:MH)(b:Nat×aW×QV×QV×MH×PH)(c:PH):Prop:=aA (cK a (Er b)) (bR c (Er b)) True
abbrev sK(a:Int)(b:PH)(c:oS)(d:List Int)(e:MH)(g:Nat)(i:QV->MH->PH->(Nat×aW×QV×QV×MH×PH)->Prop):Prop:=uY a 5 b (λx x1 x2 x3=>bO ((dG c d x1).2=0) (bA e x2 g) (aL x2 x3 g->∃(x4:Nat×aW×QV×QV×MH×PH),i x x2 x3 x4))
abbrev zF(a:Int)(b:Nat×aW×QV×QV×MH×PH)(c:Int->QV->QV->Prop):Prop:=∃(x:Int)(x1 x2:QV),eH a::aT (cN b.2.2.1) (cN b.2.2.2.1)=eH x::aT (cN x1) (cN x2)/\c x x1 x2
noncomputable abbrev sN(a:Nat×aW×Sl×Sl×Sl×QV×MH×PH):Sl:=a.2.2.1
noncomputable abbrev Bk(a:Nat×aW×Sl×Sl×Sl×QV×MH×PH):Sl:=a.2.2.2.1
abbrev pS(a:Nat×aW×Sl×Sl×Sl×QV×MH×PH->Prop)(b:Nat×aW×Sl×Sl×Sl×QV×MH×PH)(c:Nat×aW×QV×QV×MH×PH)(d e:Sl)(g:Prop):Prop:=aA (a b) (cJ c.1 b.1) (aA (eP 4) (bK d (sN b)) (aA (bK e (Bk b)) nC (aA (eP 12) (jO c.2.1 b.2.1) g)))
noncomputable abbrev GI(a:Nat×aW×Sl×Sl×Sl×QV×MH×PH):QV:=a.2.2.2.2.2.1
noncomputable abbrev oC(a:Nat×aW×Sl×Sl×Sl×QV×MH×PH):MH×PH:=a.2.2.2.2.2.2
abbrev pR(a:Int)(b:Sl)(c:Nat×aW×Sl×Sl×Sl×QV×MH×PH)(d:Int)(e:Sl)(g:Nat×aW×QV×QV×MH×PH)(i:PH):Prop:=aA (oQ 38 (I0 a b)=oQ 38 (tV 4 (tV 0 (Bz 0 (Af (Af (fU Qx (jE 0) (jG (oT c.2.2.2.2.1))))))))) (vS (I0 d e) (GI c)) (aA (eA (Er g) (oC c)) (bR i (oC c)) True)
abbrev sL(a:Nat×aW×QV×QV×MH×PH)(b:PH)(c:Int->Sl->PH->(Nat×aW×Sl×Sl×Sl×QV×MH×PH)->Prop):Prop:=zF 4 a (λx x1 x2=>cC (λx3 x4=>bJ b x4 (a8 x4 x3 21 (AX x1 x2)) (∃(x5:Nat×aW×Sl×Sl×Sl×QV×MH×PH),c x x3 x4 x5)))
noncomputable abbrev eO(a:Nat×List (Int×Int)×Nat×aW×Sl×Sl×Sl×QV×MH×PH):Nat×aW×Sl×Sl×Sl×QV×MH×PH:=a.2.2
noncomputable abbrev GC(a:Nat×List (Int×Int)×Nat×aW×Sl×Sl×Sl×QV×MH×PH):aW:=(eO a).2.1
noncomputable abbrev Nl(a:Nat×aW×Sl×Sl×Sl×QV×MH×PH):List At:=tV 4 (tV 0 (Bz 0 (Af (fU (At.lst 119) Qx (fU Qx (jE 0) (jG (oT a.2.2.2.2.1)))))))
abbrev p5(a b:Nat×aW×Sl×Sl×Sl×QV×MH×PH):Prop:=oQ 38 (Nl a)=oQ 38 (Nl b)
abbrev p6(a b:Nat×aW×Sl×Sl×Sl×QV×MH×PH):Prop:=fK (GI a) (GI b)
abbrev pT:Prop:=eQ (oQ 32 (tV 4 (fU (jE 0) (jE 0) (Bz 0 (jG (At.lst 132))))))
noncomputable abbrev Ng(a:Sl)(b:List (Int×Int)):List (List Value):=List.map PV.enc (List.map (CO a.len) b)
noncomputable abbrev Dr(a:Nat×List (Int×Int)×Nat×aW×Sl×Sl×Sl×QV×MH×PH):List (List Value):=Ng (sN (eO a)) a.2.1
noncomputable abbrev fJ(a:Nat×Nat×List (Int×Int)×Nat×aW×Sl×Sl×Sl×QV×MH×PH):Nat×aW×Sl×Sl×Sl×QV×MH×PH:=a.2.2.2
noncomputable abbrev hU(a:Nat×Nat×List (Int×Int)×Nat×aW×Sl×Sl×Sl×QV×MH×PH):Sl:=sN (fJ a)
noncomputable abbrev iE(a:Nat×Nat×List (Int×Int)×Nat×aW×Sl×Sl×Sl×QV×MH×PH):Sl:=Bk (fJ a)
noncomputable abbrev qH(a:Nat×Nat×List (Int×Int)×Nat×aW×Sl×Sl×Sl×QV×MH×PH):Nat:=a.2.1
noncomputable abbrev rD(a:Nat×Nat×List (Int×Int)×Nat×aW×Sl×Sl×Sl×QV×MH×PH):aW:=(fJ a).2.1
noncomputable abbrev oB(a:Nat×Nat×List (Int×Int)×Nat×aW×Sl×Sl×Sl×QV×MH×PH):List (Int×Int):=a.2.2.1
abbrev pU(a b:List (List Value)):Prop:=Option.some (Own.lst 32 13 a)=Option.some (Own.lst 32 13 b)
noncomputable abbrev nJ(a:Nat×Nat×List (Int×Int)×Nat×aW×Sl×Sl×Sl×QV×MH×PH):List (List Value):=Ng (hU a) (oB a)
noncomputable abbrev i6(a:Nat×Nat×List (Int×Int)×Nat×aW×Sl×Sl×Sl×QV×MH×PH):MH×PH:=oC (fJ a)
noncomputable abbrev oX(a:Nat×Nat×List (Int×Int)×Nat×aW×Sl×Sl×Sl×QV×MH×PH):Nat->Nat->Option Value:=(i6 a).2
abbrev kD(a b:Nat×Nat×List (Int×Int)×Nat×aW×Sl×Sl×Sl×QV×MH×PH):Prop:=bP (qH a) (qH b)
abbrev Dq(a:Nat)(b:Nat×Nat×List (Int×Int)×Nat×aW×Sl×Sl×Sl×QV×MH×PH):Prop:=fM (bE a 1)=bX b.1
noncomputable abbrev mM(a:Nat×Bool×Nat×Nat×List (Int×Int)×Nat×aW×Sl×Sl×Sl×QV×MH×PH):Nat×Nat×List (Int×Int)×Nat×aW×Sl×Sl×Sl×QV×MH×PH:=a.2.2
noncomputable abbrev lT(a:Nat×Bool×Nat×Nat×List (Int×Int)×Nat×aW×Sl×Sl×Sl×QV×MH×PH):Nat×aW×Sl×Sl×Sl×QV×MH×PH:=fJ (mM a)
noncomputable abbrev pC(a:Nat×Bool×Nat×Nat×List (Int×Int)×Nat×aW×Sl×Sl×Sl×QV×MH×PH):Sl:=sN (lT a)
noncomputable abbrev rB(a:Nat×Bool×Nat×Nat×List (Int×Int)×Nat×aW×Sl×Sl×Sl×QV×MH×PH):Sl:=Bk (lT a)
noncomputable abbrev lP(a:Nat×Bool×Nat×Nat×List (Int×Int)×Nat×aW×Sl×Sl×Sl×QV×MH×PH):Nat:=(mM a).1
noncomputable abbrev lS(a:Nat×Bool×Nat×Nat×List (Int×Int)×Nat×aW×Sl×Sl×Sl×QV×MH×PH):List (Int×Int):=oB (mM a)
noncomputable abbrev Eo(a:Nat×Bool×Nat×Nat×List (Int×Int)×Nat×aW×Sl×Sl×Sl×QV×MH×PH):aW:=(lT a).2.1
noncomputable abbrev pY(a:Nat×Bool×Nat×Nat×List (Int×Int)×Nat×aW×Sl×Sl×Sl×QV×MH×PH):List (List Value):=Ng (pC a) (lS a)
noncomputable abbrev lQ(a:Nat×Bool×Nat×Nat×List (Int×Int)×Nat×aW×Sl×Sl×Sl×QV×MH×PH):MH×PH:=oC (lT a)
abbrev IM(a:(Nat×Bool×Nat×Nat×List (Int×Int)×Nat×aW×Sl×Sl×Sl×QV×MH×PH)->Prop)(b:(Nat×Bool×Nat×Nat×List (Int×Int)×Nat×aW×Sl×Sl×Sl×QV×MH×PH)->Nat)(c:Nat)(d:Nat×Bool×Nat×Nat×List (Int×Int)×Nat×aW×Sl×Sl×Sl×QV×MH×PH)(e:(Nat×Bool×Nat×Nat×List (Int×Int)×Nat×aW×Sl×Sl×Sl×QV×MH×PH)->Nat×Bool×Nat×Nat×List (Int×Int)×Nat×aW×Sl×Sl×Sl×QV×MH×PH)(g:(Nat×Bool×Nat×Nat×List (Int×Int)×Nat×aW×Sl×Sl×Sl×QV×MH×PH)->Prop):Prop:=∃(x:Nat×Bool×Nat×Nat×List (Int×Int)×Nat×aW×Sl×Sl×Sl×QV×MH×PH),aA (a x) (b x<c) (aA (cJ (lT d).1 (lT (e x)).1) (eP 4) (aA (bK (pC d) (pC (e x))) (bK (rB d) (rB (e x))) (aA nC (eP 12) (g x))))
abbrev IL(a b:Nat×Bool×Nat×Nat×List (Int×Int)×Nat×aW×Sl×Sl×Sl×QV×MH×PH)(c d:Prop):Prop:=aA (eL 119) (bP (lS a).length (lS b).length) (aA (fM (bE a.1 1)=bX b.1) (jO (Eo a) (Eo b)) (aA (p5 (lT a) (lT b)) (p6 (lT a) (lT b)) (aA pT c d)))
abbrev IP(a:(Nat×Nat×List (Int×Int)×Nat×aW×Sl×Sl×Sl×QV×MH×PH)->Prop)(b:(Nat×Nat×List (Int×Int)×Nat×aW×Sl×Sl×Sl×QV×MH×PH)->Nat)(c:Nat)(d:Nat×Bool×Nat×Nat×List (Int×Int)×Nat×aW×Sl×Sl×Sl×QV×MH×PH)(e:(Nat×Nat×List (Int×Int)×Nat×aW×Sl×Sl×Sl×QV×MH×PH)->Nat×Nat×List (Int×Int)×Nat×aW×Sl×Sl×Sl×QV×MH×PH)(g:(Nat×Nat×List (Int×Int)×Nat×aW×Sl×Sl×Sl×QV×MH×PH)->Prop):Prop:=∃(x:Nat×Nat×List (Int×Int)×Nat×aW×Sl×Sl×Sl×QV×MH×PH),aA (a x) (b x<c) (aA (cJ (lT d).1 (fJ (e x)).1) (eP 4) (aA (bK (pC d) (hU (e x))) (bK (rB d) (iE (e x))) (aA nC (eP 12) (g x))))
abbrev Fp(a:PH)(b:Nat)(c:List (List Value))(d:Nat×List (Int×Int)×Nat×aW×Sl×Sl×Sl×QV×MH×PH)(e:Sl)(g:Sl->CV)(i:PH->oS->(List (List (List VV)))->Query->Prop):Prop:=cC (λx x1=>bJ a x1 (a8 x1 x b c) (kG (λx2 x3=>Co (λx4 x5=>pE (λx6 x7=>aA (bI (GC d)::aT (kN (aR e)) (g x)=bI x2::aT (kN (aR x4)) (cN x6)) (gI x1 x3 x2) (aA (Il x1 x4 x5) (dA x1 x7 x6) (i x1 x3 x5 x7)))))))
attribute [push_cast] pP Er pX sK zF sN Bk pS GI oC pR sL eO GC Nl p5 p6 pT Ng Dr fJ hU iE qH rD oB pU nJ i6 oX kD Dq mM lT pC rB lP lS Eo pY lQ IM IL IP Fp
def Ti(s:Sl)(m:MH)(h:PH)(K:CV->MH->PH->Prop):Prop:=
  ∃(s1:Sl)(c:List UInt8)(m1:Nat),aA (aY (cW s) 220=aY (cW s1) (↑m1:Int)) (a8 h s1 1 (bG c)) (aA (s1.len<=s1.cap) (j2 m1) (∀(c1:Nat),iA (λm2 h1=>bJ h h1 (Bw m c1) (bO (bA m m2 c1) (aL m2 h1 c1) (∃(c2:Nat),aA (kA (fI c1)=kA (fI c2)) (aL m2 h1 c2) (∀(s2:oS)(v:aW),iA (λm3 h2=>bO (pK s2) (gI h2 s2 v) (bJ h1 h2 (bA m2 m3 c2) (iO m3 h2 c2 (∃(I:Nat×aW×QV×QV×MH×PH->Prop),aA (∃(c3:Nat),j4 (nY c1 0 (bI v) 1) c3 m3 h2 (λp=>p) (λs3 p d=>uY d 5 h2 (λw q m4 h3=>bO ((dG s3 p q).2=0) (bA m3 m4 c3) (iO m4 h3 c3 (aA (∃(c4:Nat),j4 (nY c1 0 (bI v) 1) c4 m4 h3 (λp1=>p1) (λs4 p1 d1=>uY d1 5 h3 (λw1 q1 m5 h4=>bO ((dG s4 p1 q1).2=0) (bA m4 m5 c4) (iO m5
 h4 c4 ((∃(x:Nat×aW×QV×QV×MH×PH),pP I x c1 v w w1 (pX m5 x h4))/\∃(x:Nat×aW×QV×QV×MH×PH),pP I x c1 v w w1 (pX m5 x h4)))))) ((∃(c4:Nat),j4 (nY c1 0 (bI v) 1) c4 m4 h3 (λp1=>p1) (λs4 p1 d1=>sK d1 h3 s4 p1 m4 c4 (λw1 m5 h4 x=>pP I x c1 v w w1 (pX m5 x h4))))/\∃(c4:Nat),j4 (nY c1 0 (bI v) 1) c4 m4 h3 (λp1=>p1) (λs4 p1 d1=>sK d1 h3 s4 p1 m4 c4 (λw1 m5 h4 x=>pP I x c1 v w w1 (pX m5 x h4)))) ((∃(c4:Nat),j4 (nY c1 0 (bI v) 1) c4 m4 h3 (λp1=>p1) (λs4 p1 d1=>sK d1 h3 s4 p1 m4 c4 (λw1 m5 h4 x=>pP I x c1 v w w1 (pX m5 x h4))))/\∃(c4:Nat),j4 (nY c1 0 (bI v) 1) c4 m4 h3 (λp1=>p1) (λs4 p1 d1=>sK d1 h3 s4 p1 m4 c4 (λw1 m5 h4 x=>pP I x c1 v w w1 (pX m5 x
 h4))))))))) ((∃(c3:Nat),j4 (nY c1 0 (bI v) 1) c3 m3 h2 (λp=>p) (λs3 p d=>uY d 5 h2 (λw q m4 h3=>bO ((dG s3 p q).2=0) (bA m3 m4 c3) (iO m4 h3 c3 ((∃(c4:Nat),j4 (nY c1 0 (bI v) 1) c4 m4 h3 (λp1=>p1) (λs4 p1 d1=>sK d1 h3 s4 p1 m4 c4 (λw1 m5 h4 x=>pP I x c1 v w w1 (pX m5 x h4))))/\∃(c4:Nat),j4 (nY c1 0 (bI v) 1) c4 m4 h3 (λp1=>p1) (λs4 p1 d1=>sK d1 h3 s4 p1 m4 c4 (λw1 m5 h4 x=>pP I x c1 v w w1 (pX m5 x h4))))))))/\∃(c3:Nat),j4 (nY c1 0 (bI v) 1) c3 m3 h2 (λp=>p) (λs3 p d=>uY d 5 h2 (λw q m4 h3=>bO ((dG s3 p q).2=0) (bA m3 m4 c3) (iO m4 h3 c3 (∃(c4:Nat),j4 (nY c1 0 (bI v) 1) c4 m4 h3 (λp1=>p1) (λs4 p1 d1=>sK d1 h3 s4 p1 m4 c4 (λw1 m5 h4 x=>pP I x c1 v
 w w1 (pX m5 x h4)))))))) ((∃(c3:Nat),j4 (nY c1 0 (bI v) 1) c3 m3 h2 (λp=>p) (λs3 p d=>uY d 5 h2 (λw q m4 h3=>bO ((dG s3 p q).2=0) (bA m3 m4 c3) (iO m4 h3 c3 ((∃(c4:Nat),j4 (nY c1 0 (bI v) 1) c4 m4 h3 (λp1=>p1) (λs4 p1 d1=>sK d1 h3 s4 p1 m4 c4 (λw1 m5 h4 x=>pP I x c1 v w w1 (pX m5 x h4))))/\∃(c4:Nat),j4 (nY c1 0 (bI v) 1) c4 m4 h3 (λp1=>p1) (λs4 p1 d1=>sK d1 h3 s4 p1 m4 c4 (λw1 m5 h4 x=>pP I x c1 v w w1 (pX m5 x h4))))))))/\∃(c3:Nat),j4 (nY c1 0 (bI v) 1) c3 m3 h2 (λp=>p) (λs3 p d=>uY d 5 h2 (λw q m4 h3=>bO ((dG s3 p q).2=0) (bA m3 m4 c3) (iO m4 h3 c3 (∃(c4:Nat),j4 (nY c1 0 (bI v) 1) c4 m4 h3 (λp1=>p1) (λs4 p1 d1=>sK d1 h3 s4 p1 m4 c4 (λw1 m5 h4 x
 =>pP I x c1 v w w1 (pX m5 x h4))))))))/\∀(x:Nat×aW×QV×QV×MH×PH),I x->Dh (bI x.2.1::aT mW (cN x.2.2.1)) (Er x).2 (λ_ _ _ s3 h3=>Dh (bI x.2.1::aT mW (cN x.2.2.2.1)) h3 (λ_ _ _ s4 h4=>eB (dV (aG s3+aG s4)) 12 (aA (([]:List CV)=[]) (iW (Er x).1) (K fH (Er x).1 h4)) (∃(I1:Nat×aW×Sl×Sl×Sl×QV×MH×PH->Prop),aA (zF 4 x (λo v1 w=>cC (λs5 h5=>bJ h4 h5 (a8 h5 s5 21 (AX v1 w)) (aA (zF 4 x (λo1 v2 w1=>cC (λs6 h6=>bJ h5 h6 (a8 h6 s6 21 (AX v2 w1)) ((∃(x1:Nat×aW×Sl×Sl×Sl×QV×MH×PH),pS I1 x1 x s3 s4 (pR o s5 x1 o1 s6 x h6))/\∃(x1:Nat×aW×Sl×Sl×Sl×QV×MH×PH),pS I1 x1 x s3 s4 (pR o s5 x1 o1 s6 x h6))))) (sL x h5 (λo1 s6 h6 x1=>pS I1 x1 x s3
 s4 (pR o s5 x1 o1 s6 x h6))/\sL x h5 (λo1 s6 h6 x1=>pS I1 x1 x s3 s4 (pR o s5 x1 o1 s6 x h6))) (sL x h5 (λo1 s6 h6 x1=>pS I1 x1 x s3 s4 (pR o s5 x1 o1 s6 x h6))/\sL x h5 (λo1 s6 h6 x1=>pS I1 x1 x s3 s4 (pR o s5 x1 o1 s6 x h6))))))) (zF 4 x (λo v1 w=>cC (λs5 h5=>bJ h4 h5 (a8 h5 s5 21 (AX v1 w)) (sL x h5 (λo1 s6 h6 x1=>pS I1 x1 x s3 s4 (pR o s5 x1 o1 s6 x h6))/\sL x h5 (λo1 s6 h6 x1=>pS I1 x1 x s3 s4 (pR o s5 x1 o1 s6 x h6)))))/\zF 4 x (λo v1 w=>cC (λs5 h5=>bJ h4 h5 (a8 h5 s5 21 (AX v1 w)) (sL x h5 (λo1 s6 h6 x1=>pS I1 x1 x s3 s4 (pR o s5 x1 o1 s6 x h6)))))) (zF 4 x (λo v1 w=>cC (λs5 h5=>bJ h4 h5 (a8 h5 s5 21 (AX v1 w)) (sL x h5 (λo1 s6 h6 x1=>pS I1 x1 x s3 s4
 (pR o s5 x1 o1 s6 x h6))/\sL x h5 (λo1 s6 h6 x1=>pS I1 x1 x s3 s4 (pR o s5 x1 o1 s6 x h6)))))/\zF 4 x (λo v1 w=>cC (λs5 h5=>bJ h4 h5 (a8 h5 s5 21 (AX v1 w)) (sL x h5 (λo1 s6 h6 x1=>pS I1 x1 x s3 s4 (pR o s5 x1 o1 s6 x h6))))))/\∀(x1:Nat×aW×Sl×Sl×Sl×QV×MH×PH),I1 x1->∃(I2:Nat×List (Int×Int)×Nat×aW×Sl×Sl×Sl×QV×MH×PH->Prop)(m4:Nat×List (Int×Int)×Nat×aW×Sl×Sl×Sl×QV×MH×PH->Nat),(∃(x2:Nat×List (Int×Int)×Nat×aW×Sl×Sl×Sl×QV×MH×PH),aA (I2 x2) (cJ x1.1 (eO x2).1) (aA (eP 4) (bK (sN x1) (sN (eO x2))) (aA (bK (Bk x1) (Bk (eO x2))) nC (aA (eP 12) iM (aA (bL (sN x1) (sN (eO x2))) (bD x2.1) (aA (jO x1.2.1 (GC x2)) (p5 x1 (eO x2))
 (aA (p6 x1 (eO x2)) pT (aA (rF 69 2 (j3 x2.2.1)) (rF 32 13 (Dr x2)) (aA (eA (oC x1) (oC (eO x2))) (bR (oC x1).2 (oC (eO x2))) True)))))))))/\∀(x2:Nat×List (Int×Int)×Nat×aW×Sl×Sl×Sl×QV×MH×PH),I2 x2->bC (↑x2.1:Int) (aG (sN (eO x2))) (∃(I3:Nat×Nat×List (Int×Int)×Nat×aW×Sl×Sl×Sl×QV×MH×PH->Prop)(m5:Nat×Nat×List (Int×Int)×Nat×aW×Sl×Sl×Sl×QV×MH×PH->Nat),(∃(x3:Nat×Nat×List (Int×Int)×Nat×aW×Sl×Sl×Sl×QV×MH×PH),aA (I3 x3) (cJ (eO x2).1 (fJ x3).1) (aA (eP 4) (bK (sN (eO x2)) (hU x3)) (aA (bK (Bk (eO x2)) (iE x3)) nC (aA (eP 12) iM (aA (bP x2.1 (qH x3)) (bL (sN (eO x2)) (hU x3)) (aA (bP x2.1 (qH x3)) (bL
 (Bk (eO x2)) (iE x3)) (aA (bD x3.1) (jO (GC x2) (rD x3)) (aA (p5 (eO x2) (fJ x3)) (p6 (eO x2) (fJ x3)) (aA pT (kK x2.2.1 (oB x3)) (aA (pU (Dr x2) (nJ x3)) (eA (oC (eO x2)) (i6 x3)) (jN (oC (eO x2)).2 (i6 x3))))))))))))/\∀(x3:Nat×Nat×List (Int×Int)×Nat×aW×Sl×Sl×Sl×QV×MH×PH),I3 x3->bC (↑x3.1:Int) (aG (iE x3)) (∃(I4:Nat×Nat×List (Int×Int)×Nat×aW×Sl×Sl×Sl×QV×MH×PH->Prop),aU (λb o=>aA (aX (hU x3).a b o) (0<=(↑(qH x3):Int)) ((↑(qH x3):Int)<aG (hU x3)/\∃(y:Int),aM (i6 x3).1 (oX x3) b (bM o (qH x3) 1) (bT y)/\aU (λb1 o1=>aA (aX (iE x3).a b1 o1) (0<=(↑x3.1:Int)) ((↑x3.1:Int)<aG (iE x3)/\∃(y1:Int),aM
 (i6 x3).1 (oX x3) b1 (bM o1 x3.1 1) (bT y1)/\cR (y !=y1) (aA (aZ (oX x3) b (bM o (qH x3) 1) (bT y)) (aZ (oX x3) b1 (bM o1 x3.1 1) (bT y1)) (∃(x4:Nat×Nat×List (Int×Int)×Nat×aW×Sl×Sl×Sl×QV×MH×PH),aA (I3 x4) (m5 x4<m5 x3) (aA (cJ (fJ x3).1 (fJ x4).1) (eP 4) (aA (bK (hU x3) (hU x4)) (bK (iE x3) (iE x4)) (aA nC (eP 12) (aA iM (kD x3 x4) (aA (bL (hU x3) (hU x4)) (kD x3 x4) (aA (bL (iE x3) (iE x4)) (Dq x3.1 x4) (aA (jO (rD x3) (rD x4)) (p5 (fJ x3) (fJ x4)) (aA (p6 (fJ x3) (fJ x4)) pT (aA (kK (oB x3) (oB x4)) (pU (nJ x3) (nJ x4)) (aA (eA (i6 x3) (i6 x4)) (bR (oX x3) (i6 x4)) True)))))))))))) ((↑(qH x3):Int) !=
 (↑x3.1:Int)) (aA (aZ (oX x3) b (bM o (qH x3) 1) (bT y)) (aZ (oX x3) b1 (bM o1 x3.1 1) (bT y1)) (j5 (fJ x3).1 3 (i6 x3).1 (oX x3) (λc3 r=>∀(m6:MH),bO (bA (i6 x3).1 m6 c3) (aL m6 (oX x3) c3) (gA r (∃(x4:Nat×Nat×List (Int×Int)×Nat×aW×Sl×Sl×Sl×QV×MH×PH),aA (I3 x4) (m5 x4<m5 x3) (aA (cJ (fJ x3).1 (fJ x4).1) (eP 4) (aA (bK (hU x3) (hU x4)) (bK (iE x3) (iE x4)) (aA nC (eP 12) (aA iM (kD x3 x4) (aA (bL (hU x3) (hU x4)) (kD x3 x4) (aA (bL (iE x3) (iE x4)) (Dq x3.1 x4) (aA (jO (rD x3) (rD x4)) (p5 (fJ x3) (fJ x4)) (aA (p6 (fJ x3) (fJ x4)) pT (aA (kK (oB x3) (oB x4)) (pU (nJ x3) (nJ x4)) (aA (cK m6 (i6 x4))
 (bR (oX x3) (i6 x4)) True))))))))))) (∃(x4:Nat×Nat×List (Int×Int)×Nat×aW×Sl×Sl×Sl×QV×MH×PH),aA (I4 x4) (cJ (fJ x3).1 (fJ x4).1) (aA (eP 4) (bK (hU x3) (hU x4)) (aA (bK (iE x3) (iE x4)) nC (aA (eP 12) iM (aA (kD x3 x4) (bP x3.1 x4.1) (aA (bL (hU x3) (hU x4)) (kD x3 x4) (aA (bL (iE x3) (iE x4)) (bP x3.1 x4.1) (aA (jO (rD x3) (rD x4)) (p5 (fJ x3) (fJ x4)) (aA (p6 (fJ x3) (fJ x4)) pT (aA (kK (oB x3) (oB x4)) (pU (nJ x3) (nJ x4)) (aA (cK m6 (i6 x4)) (bR (oX x3) (i6 x4)) True))))))))))))))) (aA (aZ (oX x3) b (bM o (qH x3) 1) (bT y)) (aZ (oX x3) b1 (bM o1 x3.1 1) (bT y1)) (∃(x4:Nat×Nat×List (Int×Int)×Nat×aW×Sl×Sl
 ×Sl×QV×MH×PH),aA (I4 x4) (cJ (fJ x3).1 (fJ x4).1) (aA (eP 4) (bK (hU x3) (hU x4)) (aA (bK (iE x3) (iE x4)) nC (aA (eP 12) iM (aA (kD x3 x4) (bP x3.1 x4.1) (aA (bL (hU x3) (hU x4)) (kD x3 x4) (aA (bL (iE x3) (iE x4)) (bP x3.1 x4.1) (aA (jO (rD x3) (rD x4)) (p5 (fJ x3) (fJ x4)) (aA (p6 (fJ x3) (fJ x4)) pT (aA (kK (oB x3) (oB x4)) (pU (nJ x3) (nJ x4)) (aA (eA (i6 x3) (i6 x4)) (bR (oX x3) (i6 x4)) True))))))))))))))))/\∀(x4:Nat×Nat×List (Int×Int)×Nat×aW×Sl×Sl×Sl×QV×MH×PH),I4 x4->∃(I5:Nat×Bool×Nat×Nat×List (Int×Int)×Nat×aW×Sl×Sl×Sl×QV×MH×PH->Prop)(m6:Nat×Bool×Nat×Nat×List (Int×Int)×Nat×aW×Sl×Sl×Sl×QV×MH
 ×PH->Nat),(∃(x5:Nat×Bool×Nat×Nat×List (Int×Int)×Nat×aW×Sl×Sl×Sl×QV×MH×PH),aA (I5 x5) (cJ (fJ x4).1 (lT x5).1) (aA (eP 4) (bK (hU x4) (pC x5)) (aA (bK (iE x4) (rB x5)) nC (aA (eP 12) iM (aA (kD x4 (mM x5)) (bP x4.1 (lP x5)) (aA (tR x5.2.1) (bL (hU x4) (pC x5)) (aA (kD x4 (mM x5)) (bL (iE x4) (rB x5)) (aA (bP x4.1 (lP x5)) (eL 119) (aA (bP (j3 (oB x4)).length (lS x5).length) (bD x5.1) (aA (jO (rD x4) (Eo x5)) (p5 (fJ x4) (lT x5)) (aA (p6 (fJ x4) (lT x5)) pT (aA (kK (oB x4) (lS x5)) (pU (nJ x4) (pY x5)) (aA (eA (i6 x4) (lQ x5)) (bR (oX x4) (lQ x5)) True)))))))))))))/\∀(x5:Nat×Bool×Nat×Nat×List (Int×Int)×
 Nat×aW×Sl×Sl×Sl×QV×MH×PH),I5 x5->bC (↑x5.1:Int) (↑(lS x5).length:Int) (aA (cD (↑x5.1:Int)) ((↑x5.1:Int)<kE (j3 (lS x5))) (∃(e:List Value),uZ (j3 (lS x5)) (oP x5.1) e/\∃(y:Int×Int),Dw 2 0 e (sT y)/\branch x5.2.1 (aA (cD 0) ((0:Int)<2) (dT y.1 (↑(qH (mM x5)):Int) (aA (cD 1) ((1:Int)<2) (IM (λx6=>I5 x6) (λx6=>m6 x6) (m6 x5) x5 (λx6=>x6) (λx6=>aA iM (kD (mM x5) (mM x6)) (aA (bP (lP x5) (lP x6)) (gC (y.2 !=(↑(lP x5):Int)) x6.2.1) (aA (bL (pC x5) (pC x6)) (kD (mM x5) (mM x6)) (aA (bL (rB x5) (rB x6)) (bP (lP x5) (lP x6)) (IL x5 x6 (kK (lS x5) (lS x6)) (aA (pU (pY x5) (pY x6)) (eA (lQ x5) (lQ x6)) (bR
 (lQ x5).2 (lQ x6)/\True))))))))) (IM (λx6=>I5 x6) (λx6=>m6 x6) (m6 x5) x5 (λx6=>x6) (λx6=>aA iM (kD (mM x5) (mM x6)) (aA (bP (lP x5) (lP x6)) (xX x6.2.1) (aA (bL (pC x5) (pC x6)) (kD (mM x5) (mM x6)) (aA (bL (rB x5) (rB x6)) (bP (lP x5) (lP x6)) (IL x5 x6 (kK (lS x5) (lS x6)) (aA (pU (pY x5) (pY x6)) (eA (lQ x5) (lQ x6)) (bR (lQ x5).2 (lQ x6)/\True)))))))))) (IM (λx6=>I5 x6) (λx6=>m6 x6) (m6 x5) x5 (λx6=>x6) (λx6=>aA iM (kD (mM x5) (mM x6)) (aA (bP (lP x5) (lP x6)) (xX x6.2.1) (aA (bL (pC x5) (pC x6)) (kD (mM x5) (mM x6)) (aA (bL (rB x5) (rB x6)) (bP (lP x5) (lP x6)) (IL x5 x6 (kK (lS x5)
 (lS x6)) (aA (pU (pY x5) (pY x6)) (eA (lQ x5) (lQ x6)) (bR (lQ x5).2 (lQ x6)/\True)))))))))) (branch x5.2.1 (bC (↑(j3 (lS x5)).length:Int) 3 (aA (fY (((j3 (lS x5)).length+1)*16)) (gS (j3 (lS x5))) (aA (fY (((pY x5).length+1)*136)) (gS (pY x5)) (IP (λx6=>I3 x6) (λx6=>m5 x6) (m5 x3) x5 (λx6=>x6) (λx6=>aA iM (kD (mM x5) x6) (aA (bL (pC x5) (hU x6)) (kD (mM x5) x6) (aA (bL (rB x5) (iE x6)) (Dq (lP x5) x6) (aA (jO (Eo x5) (rD x6)) (p5 (lT x5) (fJ x6)) (aA (p6 (lT x5) (fJ x6)) pT (aA (Option.some (Own.lst 69 2 (dU (j3 (lS x5)) (gM (dK (↑(qH (mM x5)):Int)) (dK (↑(lP x5):Int)))))=Option.some (Own.lst 69 2 (j3 (oB
 x6)))) (Option.some (Own.lst 32 13 (dU (pY x5) (aI (dK 3) (dK 1) (aI (dK 1) (dK (↑(qH (mM x5)):Int)) (aI aK aK (aI HB (dK 1) (IN (dK (dV (aG (pC x5)+(↑(lP x5):Int)))))))))))=Option.some (Own.lst 32 13 (nJ x6))) (aA (eA (lQ x5) (i6 x6)) (bR (lQ x5).2 (i6 x6)) True)))))))))) (IP (λx6=>I3 x6) (λx6=>m5 x6) (m5 x3) x5 (λx6=>x6) (λx6=>aA iM (kD (mM x5) x6) (aA (bL (pC x5) (hU x6)) (kD (mM x5) x6) (aA (bL (rB x5) (iE x6)) (Dq (lP x5) x6) (aA (jO (Eo x5) (rD x6)) (p5 (lT x5) (fJ x6)) (aA (p6 (lT x5) (fJ x6)) pT (aA (kK (lS x5) (oB x6)) (pU (pY x5) (nJ x6)) (aA (eA (lQ x5) (i6 x6)) (bR (lQ x5).2 (i6 x6)) True)))))))))
 (IP (λx6=>I3 x6) (λx6=>m5 x6) (m5 x3) x5 (λx6=>x6) (λx6=>aA iM (kD (mM x5) x6) (aA (bL (pC x5) (hU x6)) (kD (mM x5) x6) (aA (bL (rB x5) (iE x6)) (Dq (lP x5) x6) (aA (jO (Eo x5) (rD x6)) (p5 (lT x5) (fJ x6)) (aA (p6 (lT x5) (fJ x6)) pT (aA (kK (lS x5) (oB x6)) (pU (pY x5) (nJ x6)) (aA (eA (lQ x5) (i6 x6)) (bR (lQ x5).2 (i6 x6)) True)))))))))) (∃(x4:Nat×List (Int×Int)×Nat×aW×Sl×Sl×Sl×QV×MH×PH),aA (I2 x4) (m4 x4<m4 x2) (aA (cJ (fJ x3).1 (eO x4).1) (eP 4) (aA (bK (hU x3) (sN (eO x4))) (bK (iE x3) (Bk (eO x4))) (aA nC (eP 12) (aA iM (bL (hU x3) (sN (eO x4))) (aA (fM (bE (qH x3) 1)=bX x4.1) (jO
 (rD x3) (GC x4)) (aA (p5 (fJ x3) (eO x4)) (p6 (fJ x3) (eO x4)) (aA pT (kK (oB x3) x4.2.1) (aA (pU (nJ x3) (Dr x4)) (eA (i6 x3) (oC (eO x4))) (bR (oX x3) (oC (eO x4))/\True))))))))))) (∃(c3:Nat),kG (λv1 s5=>aA (fI (eO x2).1::aY (bI (GC x2)) 3=fI c3::aY (bI v1) 3) (aL (oC (eO x2)).1 (oC (eO x2)).2 c3) (aA (gI (oC (eO x2)).2 s5 v1) (pK s5) (∀(s6:List (List (List VV)))(s7:Sl),iA (λm5 h5=>bJ (oC (eO x2)).2 h5 (Il h5 s7 s6) (bO (Hu s5 s6) (bA (oC (eO x2)).1 m5 c3) (iO m5 h5 c3 (aA (([]:List CV)=[]) (iW m5) (Fp h5 2 (j3 x2.2.1) x2 s7 (λs8=>kN (aI (dK 4) aK (aI aK aK (aI aK aK (aI aK aK (xU (A5
 (dO s8) (aR (eO x2).2.2.2.2.1)))))))) (λh6 s8 s9 q=>aA (dX (iR q)) (iW m5) (bO ((dG s8 [] q).2=0) (oI s8 s9=0) (D8 s9 q)/\cC (λa h7=>bJ h6 h7 (Rows h7 a (DW s8 s9 q).1) (cC (λa1 h8=>bJ h7 h8 (a8 h8 a1 21 (fO (GI (eO x2)).enc)) (Fp h8 13 (Dr x2) x2 s7 (λa2=>kN (aI (dK 2) aK (aI (dK 4) aK (aI aK aK (aI aK aK (aI HB aK (aI aK aK (aI aK HB (aI (dO a2) vO (zE a1)))))))))) (λh9 a2 a3 q1=>aA (dX (iR q1)) (iW m5) (bO ((dG a2 [] q1).2=0) (oI a2 a3=0) (D8 a3 q1)/\cC (λa4 a5=>bJ h9 a5 (Rows a5 a4 (DW a2 a3 q1).1) (jT (λa6 t=>∃(a7 b:List (List VV)),aA (mO a a4=mO a6 t) (Rows a5 a6 a7) (Rows a5 t b/\∀(r:Bool),(dX r↔a7=b)->K (AB r) m5 a5))))))))))))/\cC (λs8
 h6=>bJ h5 h6 (a8 h6 s8 21 (fO (GI (eO x2)).enc)) (Fp h6 2 (j3 x2.2.1) x2 s7 (λs9=>kN (aI (dK 4) aK (aI aK aK (aI aK aK (aI aK aK (xU (A5 (dO s9) (aR (eO x2).2.2.2.2.1)))))))) (λh7 s9 a q=>aA (dX (iR q)) (iW m5) (bO ((dG s9 [] q).2=0) (oI s9 a=0) (D8 a q)/\cC (λa1 h8=>bJ h7 h8 (Rows h8 a1 (DW s9 a q).1) (Fp h8 13 (Dr x2) x2 s7 (λa2=>kN (aI (dK 2) aK (aI (dK 4) aK (aI aK aK (aI aK aK (aI HB aK (aI aK aK (aI aK HB (aI (dO a2) vO (zE s8)))))))))) (λh9 a2 a3 q1=>aA (dX (iR q1)) (iW m5) (bO ((dG a2 [] q1).2=0) (oI a2 a3=0) (D8 a3 q1)/\cC (λa4 a5=>bJ h9 a5 (Rows a5 a4 (DW a2 a3 q1).1) (jT (λa6 t=>∃(a7 b:List (List VV)),aA (mO a1 a4=
 mO a6 t) (Rows a5 a6 a7) (Rows a5 t b/\∀(r:Bool),(dX r↔a7=b)->K (AB r) m5 a5))))))))))))))))))))))))))))))))))
structure SA(k l:List Int)(on:List (Int×Int)):Prop where
 len:on.length<=3
 good:Good (tG k l) on
theorem SA.nil(k l:List Int):SA k l []:=⟨by simp,λj x h=>by simp at h⟩
theorem SA.add{k:List Int}{on:List (Int×Int)}{j:Nat}(x:SA k l on)(h3:on.length<3)(hi:i<k.length)(hj:j<l.length)(e:k.getD i 0=l.getD j 0)(hn:∀p∈on,p.1≠i/\p.2≠j):SA k l (on++[((i:Int),(j:Int))]):=by
 refine⟨by simp only[List.length_append,List.length_singleton];omega,λt y hy=>?_⟩;by_cases ht:t<on.length
 .rw[List.getElem?_append_left ht]at hy;rw[List.take_append_of_le_length aC];exact x.good t y hy
 .have ht2:t=on.length:=by
   have:=(List.getElem?_eq_some_iff.1 hy).1;simp only[List.length_append,List.length_singleton]at this;omega
  subst ht2;rw[List.getElem?_append_right aC,Nat.sub_self]at hy;simp only[List.getElem?_cons_zero,Option.some.injEq]at hy;subst hy;rw[List.take_append_of_le_length aC,List.take_length];exact⟨by simp[Cx,hi],by simp[Cx,hj],e,hn⟩
theorem VP:Sound Tryz.prog 7 ZT:=by
 refine iB Tryz.func7 ?_;rintro cvs m h K ⟨s,cs,rfl,hr,hcap,ht,hK⟩;refine⟨Zl,rfl,Uc,Ti s m h K,by kernel_rfl,?_⟩;dsimp only[Ti,push_cast];refine⟨s,cs,220,rfl,hr,hcap,aC,λcb m1 h1 le1 hcb o1 c1=>⟨cb,rfl,c1,λsc v m2 h2 hpl rS le2 o2 c2=>?_⟩⟩;obtain⟨hse,hne⟩:=EY hpl;have h8t:=AP hse;refine⟨λz=>∃a b m4 h4,z=(cb,v,a,b,m4,h4)/\aL m4 h4 cb/\bA m m4 cb/\PH.le h2 h4/\∃qa qb,dA h4 qa a/\dA h4 qb b/\yK 1 qa/\yK 1 qb/\(dG sc [] qa).2=0/\(dG sc [] qb).2=0,?_,?_⟩
 .repeat' apply And.intro
  all_goals refine⟨cb,v,bF,sc,[],1,rfl,c2,rS,hse,hne,iQ _,by simp,by simp,aC,aC,by decide,λa qa m3 h3 le3 rq qw fq hq o3 c3=>?_⟩
  all_goals repeat' apply And.intro
  all_goals refine⟨cb,v,bF,sc,[],1,rfl,c3,rS.mono le3,hse,hne,iQ _,by simp,by simp,aC,aC,by decide,λb qb m4 h4 le4 rqb qwb fqb hqb o4 c4=>?_⟩
  all_goals repeat' apply And.intro
  all_goals first
   |exact⟨(cb,v,a,b,m4,h4),⟨a,b,m4,h4,rfl,c4,((o1.trans o2).trans o3).trans o4,le3.trans le4,qa,qb,rq.mono le4,rqb,fq,fqb,hq,hqb⟩,MT⟩
   |exact⟨(cb,v,b,a,m4,h4),⟨b,a,m4,h4,rfl,c4,((o1.trans o2).trans o3).trans o4,le3.trans le4,qb,qa,rqb,rq.mono le4,fqb,fq,hqb,hq⟩,MT⟩
 rintro _ ⟨a,b,m4,h4,rfl,c4,o4,le4,qa,qb,rqa,rqb,fqa,fqb,hqa,hqb⟩;dsimp only;have rS4:=rS.mono le4;refine⟨v,bF,a,sc,[],qa,rfl,rS4,iQ _,rqa,λks h5 le5 hks=>⟨v,bF,b,sc,[],qb,rfl,rS4.mono le5,iQ _,rqb.mono le5,λls h6 le6 hls=>?_⟩⟩;have A0:=KH.of rqa hqa fqa.arg;have B0:=KH.of rqb hqb fqb.arg;have hkl:=AS sc [] qa;have hll:=AS sc [] qb;generalize (dG sc [] qa).1=kl at hks A0 hkl;generalize (dG sc [] qb).1=ll at hls B0 hll;obtain⟨kn,kc⟩:=HL hpl A0.kin;obtain⟨ln,lc⟩:=HL hpl B0.kin;have hks:=hks.mono le6;have L6:PH.le h4 h6:=le5.trans le6;have hslk:=hks.slen;have hsll:=hls.slen;have ht4:=ht.new hcb o4;have hsub:∀{mx:MH},bA m mx cb->Sub m mx:=λox b o e=>by rw[ox.other b (λe2=>by rw[e2,hcb]at e;cases e)];exact e
 have hw:IntKind.i64.wrap ((ks.len:Int)+(ls.len:Int))=((kl.length+ll.length:Nat):Int):=by
  rw[show(ks.len:Int)+(ls.len:Int)=((kl.length+ll.length:Nat):Int)by omega];exact dW aC aC
 rw[hw];refine aE (λ_=>⟨rfl,ht4,hK _ _ (hsub o4)⟩) (λh12=>?_);refine⟨λz=>∃sj sp hz,z=(cb,v,ks,ls,sj,It 4 sp,m4,hz)/\PH.le h6 hz/\a8 hz sj 21 [QV.enc a,QV.enc b]/\a8 hz sp 21 [QV.enc a,QV.enc b],?_,?_⟩
 .repeat' apply And.intro
  all_goals refine⟨4,a,b,rfl,λs1 g1 e1 r1=>?_⟩
  all_goals repeat' apply And.intro
  all_goals refine⟨4,a,b,rfl,λs2 g2 e2 r2=>?_⟩
  all_goals repeat' apply And.intro
  all_goals first
   |exact⟨(cb,v,ks,ls,s1,It 4 s2,m4,g2),⟨s1,s2,g2,rfl,PH.le.trans e1 e2,r1.mono e2,r2⟩,MT⟩
   |exact⟨(cb,v,ks,ls,s2,It 4 s1,m4,g2),⟨s2,s1,g2,rfl,PH.le.trans e1 e2,r2,r1.mono e2⟩,MT⟩
 rintro _ ⟨sj,sp,hz,rfl,lez,rj,rp⟩;dsimp only;have Lz:PH.le h4 hz:=L6.trans lez;have A:=A0.mono Lz (Nat.le_refl _);have B:=B0.mono Lz (Nat.le_refl _);have kz:=hks.mono lez;have lz:=hls.mono lez;refine⟨λz=>∃mx,z=(z.1,z.2.1,cb,v,ks,ls,sj,It 4 sp,mx,hz)/\z.1<=kl.length/\SA kl ll z.2.1/\aL mx hz cb/\bA m mx cb,λz=>kl.length-z.1,⟨(0,[],cb,v,ks,ls,sj,It 4 sp,m4,hz),⟨m4,rfl,by simp,.nil _ _,c4.mono (L6.trans lez),o4⟩,MT⟩,?_⟩;rintro⟨i,on,cb',v',ks',ls',sj',p',mx,hx⟩ ⟨_,e,hi,hon,cx,ox⟩;simp only[Prod.mk.injEq,true_and]at e;obtain⟨rfl,rfl,rfl,rfl,rfl,rfl,rfl,rfl⟩:=e;dsimp only at hi hon⊢
 refine aE (λhlt=>?_) (λhge=>?_)
 .have hik:i<kl.length:=by omega
  have hwi:IntKind.i64.wrap ((i:Int)+1)=((i+1:Nat):Int):=j8 aC;refine⟨λz=>∃mx,z=(z.1,i,z.2.2.1,cb',v',ks',ls',sj',It 4 sp,mx,hx)/\z.1<=ll.length/\SA kl ll z.2.2.1/\aL mx hx cb'/\bA m mx cb',λz=>ll.length-z.1,⟨(0,i,on,cb',v',ks',ls',sj',It 4 sp,mx,hx),⟨mx,rfl,by simp,hon,cx,ox⟩,MT⟩,?_⟩;clear hon cx ox;rintro⟨j,i',on,cb2,v2,ks2,ls2,sj2,p2,my,hy⟩ ⟨_,e,hj,hon,cy,oy⟩;simp only[Prod.mk.injEq,true_and]at e;obtain⟨rfl,rfl,rfl,rfl,rfl,rfl,rfl,rfl,rfl⟩:=e;dsimp only at hj hon⊢
  refine aE (λhlt2=>?_) (λhge2=>?_)
  .have hjl:j<ll.length:=by omega
   have hwj:IntKind.i64.wrap ((j:Int)+1)=((j+1:Nat):Int):=j8 aC;obtain⟨b1,f1,ea1,r1⟩:=kz.at' (List.getElem?_eq_getElem hik);obtain⟨b2,f2,ea2,r2⟩:=lz.at' (List.getElem?_eq_getElem hjl);rw[hwj];refine⟨λz=>∃mx,z=(j,i',on,cb2,v2,ks2,ls2,sj2,It 4 sp,mx,hy)/\aL mx hy cb2/\bA m mx cb2/\kl[i']=ll[j],?_,?_⟩
   .refine⟨b1,f1,ea1,aC,aC,kl[i'],.imm r1,b2,f2,ea2,aC,aC,ll[j],.imm r2,aB (λ_=>?_) (λek=>?_)⟩
    .exact⟨r1,r2,(j+1,i',on,cb2,v2,ks2,ls2,sj2,It 4 sp,my,hy),⟨my,rfl,by show j+1<=_;omega,hon,cy,oy⟩,by show ll.length-(j+1)<ll.length-j;omega,MT⟩
    have ek:kl[i']=ll[j]:=by simpa using ek
    refine aB (λ_=>⟨r1,r2,cb2,3,rfl,aC,aC,cy,λr m9 o9 c9=>aB (λ_=>?_) (λ_=>?_)⟩) (λ_=>?_)
    .exact⟨(j+1,i',on,cb2,v2,ks2,ls2,sj2,It 4 sp,m9,hy),⟨m9,rfl,by show j+1<=_;omega,hon,c9,oy.trans o9⟩,by show ll.length-(j+1)<ll.length-j;omega,MT⟩
    .exact⟨(j,i',on,cb2,v2,ks2,ls2,sj2,It 4 sp,m9,hy),⟨m9,rfl,c9,oy.trans o9,ek⟩,MT⟩
    .exact⟨r1,r2,(j,i',on,cb2,v2,ks2,ls2,sj2,It 4 sp,my,hy),⟨my,rfl,cy,oy,ek⟩,MT⟩
   rintro _ ⟨mw,rfl,cw,ow,ek⟩;dsimp only;refine⟨λz=>z=(z.1,z.2.1,j,i',on,cb2,v2,ks2,ls2,sj2,It 4 sp,mw,hy)/\z.1<=on.length/\(z.2.1=true->∀p∈on.take z.1,p.1≠i'/\p.2≠j),λz=>on.length-z.1,⟨(0,true,j,i',on,cb2,v2,ks2,ls2,sj2,It 4 sp,mw,hy),⟨rfl,by simp,by simp⟩,by rw[List.length_map];exact MT⟩,?_⟩;rintro⟨t,ok,j',i2,on',cb3,v3,ks3,ls3,sj3,p3,mz,hw3⟩ ⟨e,htn,hok⟩;simp only[Prod.mk.injEq,true_and]at e;obtain⟨rfl,rfl,rfl,rfl,rfl,rfl,rfl,rfl,rfl,rfl,rfl⟩:=e;dsimp only at htn hok⊢
   refine aE (λhlt3=>?_) (λhge3=>?_)
   .have hton:t<on'.length:=by omega
    have hon3:=hon.len;have hwt:IntKind.i64.wrap ((t:Int)+1)=((t+1:Nat):Int):=j8 aC;rw[hwt];refine⟨aC,by rw[List.length_map];omega,mX on'[t],by rw[List.getElem?_map,show((t:Int)).toNat=t from rfl,List.getElem?_eq_getElem hton];rfl,on'[t],rfl,?_⟩
    have nxt:∀ok2:Bool,(ok2=true->ok=true/\on'[t].1≠i2/\on'[t].2≠j')->(ok2=true->∀p∈on'.take (t+1),p.1≠i2/\p.2≠j'):=λok2 h2 e p hp=>by
     obtain⟨h3,h4⟩:=h2 e;rw[List.take_add_one,List.getElem?_eq_getElem hton]at hp;rcases List.mem_append.1 hp with hp|hp
     .exact hok h3 p hp
     .simp at hp;subst hp;exact h4
    refine aB (λe1=>⟨aC,aC,aB (λe2=>⟨aC,aC,?_⟩) (λe2=>?_)⟩) (λe1=>?_)
    .exact⟨(t+1,on'[t].2 !=(j':Int),j',i2,on',cb3,v3,ks3,ls3,sj3,It 4 sp,mz,hw3),⟨rfl,by show t+1<=_;omega,nxt _ λe3=>⟨e1,by simpa using e2,by simpa using e3⟩⟩,by show on'.length-(t+1)<on'.length-t;omega,MT⟩
    .exact⟨(t+1,false,j',i2,on',cb3,v3,ks3,ls3,sj3,It 4 sp,mz,hw3),⟨rfl,by show t+1<=_;omega,nxt _ λe3=>by cases e3⟩,by show on'.length-(t+1)<on'.length-t;omega,MT⟩
    .exact⟨(t+1,false,j',i2,on',cb3,v3,ks3,ls3,sj3,It 4 sp,mz,hw3),⟨rfl,by show t+1<=_;omega,nxt _ λe3=>by cases e3⟩,by show on'.length-(t+1)<on'.length-t;omega,MT⟩
   rw[hwj];have old:∃x_2:Nat×Nat×List (Int×Int)×Nat×aW×Sl×Sl×Sl×QV×MH×PH,x_2=(j'+1,i2,on',cb3,v3,ks3,ls3,sj3,It 4 sp,mz,hw3):=⟨_,rfl⟩
   refine aB (λe1=>aE (λh3=>?_) (λ_=>?_)) (λ_=>?_)
   .rw[List.length_map]at h3;have hwn:IntKind.i64.wrap ((ks3.len:Int)+(j':Int))=((ks3.len:Nat):Int)+(j':Int):=dW aC aC;rw[hwn];refine⟨by rw[List.length_map];omega,by rw[List.length_map];omega,by rw[List.length_map,List.length_map];omega,by rw[List.length_map,List.length_map];omega,(j'+1,i2,on'++[((i2:Int),(j':Int))],cb3,v3,ks3,ls3,sj3,It 4 sp,mz,hw3),⟨mz,rfl,by show j'+1<=_;omega,hon.add aC hik hjl ?_ ?_,cw,ow⟩,by show ll.length-(j'+1)<ll.length-j';omega,?_⟩
    .rw[List.getD_eq_getElem?_getD,List.getD_eq_getElem?_getD,List.getElem?_eq_getElem hik,List.getElem?_eq_getElem hjl];exact ek
    .have:=hok e1
     rwa [List.take_of_length_le aC]at this
    .simp only[List.map_append];exact MT
   .exact⟨(j'+1,i2,on',cb3,v3,ks3,ls3,sj3,It 4 sp,mz,hw3),⟨mz,rfl,by show j'+1<=_;omega,hon,cw,ow⟩,by show ll.length-(j'+1)<ll.length-j';omega,MT⟩
   .exact⟨(j'+1,i2,on',cb3,v3,ks3,ls3,sj3,It 4 sp,mz,hw3),⟨mz,rfl,by show j'+1<=_;omega,hon,cw,ow⟩,by show ll.length-(j'+1)<ll.length-j';omega,MT⟩
  .rw[hwi];exact⟨(i'+1,on,cb2,v2,ks2,ls2,sj2,It 4 sp,my,hy),⟨my,rfl,by show i'+1<=_;omega,hon,cy,oy⟩,by show kl.length-(i'+1)<kl.length-i';omega,MT⟩
 have L4:PH.le h4 hx:=Lz;have hkl12:(kl++ll).length<=12:=by rw[List.length_append];omega
 refine⟨cb',v',sc,rfl,cx,rS4.mono L4,hpl,λst sl m7 h7 le7 hst good o7 c7=>?_⟩;have ht7:=ht.new hcb (ox.trans o7);have hsub7:=hsub (ox.trans o7)
 have hpr:∀p∈on,tG kl ll [] p:=λp hp=>by
  obtain⟨j,hj⟩:=List.getElem?_of_mem hp;obtain⟨a1,a2,a3,_⟩:=hon.good j p hj;exact⟨a1,a2,a3,λ_ h=>by simp at h⟩
 have hon3:=hon.len;have na:=fqa.arg.n;have da:=fqa.arg.d;have nb:=fqb.arg.n;have db:=fqb.arg.d;simp only[gN,gD]at na da nb db;have g1:gB 1*gB 1<=1000000:=by decide
 have sj1:∀on,iR (tI on qa qb)=true:=λon=>Ov (by simp only[tI,tZ,qR];omega) (by simp only[tI,CK,yE];omega);have sf1:iR (KZ (Ht kl.length on) (tI [] qa qb))=true:=Ov (by simp only[KZ,tI,tZ,qR];omega) (by simp only[KZ,tI,CK,yE];omega);have hsk':ks'.len=kl.length:=by omega
 have law:vB st (KZ (Ht kl.length on) (tI [] qa qb))=vB st (tI on qa qb):=Ic (A.rel hpl good (by decide)) (B.rel hpl good (by decide)) hpr
 have J:∀{so:Sl}{g:PH},PH.le h7 g->a8 g so 2 (on.map mX)->KH sc g ⟨4,0,eV,bF,so,bF,bF,0,sj'⟩ (tI on qa qb) (kl++ll) (gB 1*gB 1):=fun{so g} le ro=>
  A.join B hon.good hkl12 (le7.trans le) ⟨ro,aC⟩ (rj.mono (le7.trans le))
 have F:∀{sp1 sa:Sl}{g:PH},PH.le h7 g->a8 g sa 21 [QV.enc (It 4 sp)]->a8 g sp1 13 ((on.map (CO ks'.len)).map PV.enc)->KH sc g ⟨2,0,⟨4,0,cM,cM,sp1⟩,bF,bF,bF,bF,0,sa⟩ (KZ (Ht kl.length on) (tI [] qa qb)) (kl++ll) (gB 1*gB 1):=fun{sp1 sa g} le ra rp1=>
  KH.fil (A.join B (λj x h=>by simp at h) hkl12 (le7.trans le) (pM _) (rp.mono (le7.trans le))) (Yw (by rw[hsk']at rp1;exact rp1) hon3) (Vi kc lc hpr hon3) (.refl _) ra
 have fin:∀{sp1 sa t1:Sl}{g g2 g3:PH},PH.le h7 g->PH.le g g2->PH.le g2 g3->Rows g2 t1 (vB st (tI on qa qb))->a8 g3 sa 21 [QV.enc (It 4 sp)]->a8 g3 sp1 13 ((on.map (CO ks'.len)).map PV.enc)->
  ∃(v:aW)(s_4:oS)(sl_3:Sl),∃(st:List (List (List VV))),∃(w:QV)(q:Query),[aS v',Yx sl,aQ ⟨2,0,⟨4,0,cM,cM,sp1⟩,bF,bF,bF,bF,0,sa⟩]=[aS v,Yx sl_3,aQ w]/\gI g3 s_4 v/\Il g3 sl_3 st/\dA g3 q w/\iR q=true/\iW m7/\((dG s_4 [] q).2=0->oI s_4 st=0->D8 st q)/\∀(s'_1:Sl)(h'_5:PH),PH.le g3 h'_5->Rows h'_5 s'_1 (DW s_4 st q).1->∃(s t:Sl),∃(a b:List (List VV)),[cS t1,cS s'_1]=[cS s,cS t]/\Rows h'_5 s a/\Rows h'_5 t b/\∀(r:Bool),(r=true↔a=b)->K (cB r) m7 h'_5:=fun{sp1 sa t1 g g2 g3} l1 l2 l3 hr1 ra rp1=>by
  have l13:PH.le h7 g3:=l1.trans (l2.trans l3);have F1:=F l13 ra rp1;refine⟨v',sc,sl,st,_,_,rfl,rS4.mono (L4.trans (le7.trans l13)),hst.mono l13,F1.rep,sf1,ht7,λ_ _=>F1.bok good g1,λt2 h2 le2 hr2=>?_⟩;rw[F1.res hpl good sf1]at hr2;refine⟨t1,t2,_,_,rfl,bZ.mono hr1 (l3.trans le2) λr t hv=>cL.mono hv (l3.trans le2),hr2,λr hr=>?_⟩;rw[hr.2 law.symm];exact hK _ _ hsub7
 refine⟨rfl,ht7,λso g5 l1 ro=>?_,λsa g4 l0 ra so g5 l1 ro=>?_⟩
 .refine⟨v',sc,sl,st,_,_,rfl,rS4.mono (L4.trans (le7.trans l1)),hst.mono l1,(J l1 ro).rep,sj1 on,ht7,λ_ _=>(J l1 ro).bok good g1,λt1 g6 l2 hr1 sa g7 l3 ra sp1 g8 l4 rp1=>?_⟩;rw[(J l1 ro).res hpl good (sj1 on)]at hr1;exact fin l1 l2 (l3.trans l4) hr1 (ra.mono l4) rp1
 .have l01:=l0.trans l1;refine⟨v',sc,sl,st,_,_,rfl,rS4.mono (L4.trans (le7.trans l01)),hst.mono l01,(J l01 ro).rep,sj1 on,ht7,λ_ _=>(J l01 ro).bok good g1,λt1 g6 l2 hr1 sp1 g8 l4 rp1=>?_⟩;rw[(J l01 ro).res hpl good (sj1 on)]at hr1;exact fin l01 l2 l4 hr1 (ra.mono (l1.trans (l2.trans l4))) rp1
end Go.Ps
