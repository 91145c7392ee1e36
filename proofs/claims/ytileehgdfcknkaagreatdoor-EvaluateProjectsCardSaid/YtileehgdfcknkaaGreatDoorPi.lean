/-
  Part 9 of a proof that a law of the given program returns true: a condition generator that is proved sound, and contracts of functions. No condition of its own. Own work, joined by a program (pack2.py).
-/
import Derived.Test.YtileehgdfcknkaaGreatDoorPh
set_option linter.unusedVariables false
set_option linter.unusedSimpArgs false
namespace Go.Ps
open Go Go.Vc Go.Proofs
variable{K:CV->MH->PH->Prop}{m:MH}{h:PH}{s:nY}{ps:List Int}{cb:Nat}{sc:bX}{v:QV}{q:Query}{p:Pred}{l:List Int}{i:Nat}{N:Nat}{m':MH}{h':PH}{co:List Int}{gr:List Int}{od:List (Int×Bool)}{w:Pred}{ta:Int}{li:Int}{xs:List (List Value)}{sz:Nat}{k:Nat}{ks:List (List Int)}{rs:List Int}{r:Sl}{a:List Int}{b:Nat}
structure JY(s:nY)(st:List (List (List VV))):Prop where
 len:st.length=s.tables.length
 few:∀l∈st,l.length<=4
 ok:Ix s st
 val:Ze st
def Wk:Vc.Spec:=λcvs m h K=>∃cb v s,cvs=[cP cb,aS v,cI 3]/\aK m h cb/\fQ h s v/\pE s/\∀st sl m' h',PH.le h h'->FF h' sl st->JY s st->bB m m' cb->aK m' h' cb->K (Y1 sl) m' h'
noncomputable def XM(cb:Nat)(v:bX):Ctx:=uJ [(15,FH),(44,uM),(43,Zf),(46,WA),(45,Zh)]
 [(3,{A:=Nat×Sl×MH×PH,st:=λ⟨i,s,m,h⟩=>cJ 51 54 [(0,pv cb),(2,iv 3),(4,.at (.ptr 4 0)),(6,.at (.ptr 6 0)),(7,.at (.ptr 7 0)),(18,iv v.tables.len),(19,iv i)] [(4,.cells 43 (v.enc.map .val)),(6,.cells 25 [.val bU.val]),(7,.cells 25 [.val (.slice s.a s.len s.cap)])] m h}),
  (6,{A:=Nat×Int×Sl×MH×PH,st:=λ⟨i,n,s,m,h⟩=>cJ 51 54 [(0,pv cb),(2,iv 3),(4,.at (.ptr 4 0)),(6,.at (.ptr 6 0)),(7,.at (.ptr 7 0)),(8,iv i),(9,iv n),(18,iv v.tables.len),(19,iv i)] [(4,.cells 43 (v.enc.map .val)),(6,.cells 25 [.val bU.val]),(7,.cells 25 [.val (.slice s.a s.len s.cap)])] m h})] [] [] [2023] [] false
abbrev vL(a:List At)(b:Sl×MH×PH):Prop:=oQ 25 a=oQ 25 (pW b.1)
noncomputable abbrev nN(a:Nat×Int×Sl×MH×PH):Sl×MH×PH:=a.2.2
attribute [push_cast] vL nN
def JE(cb:Nat)(v:bX)(m:MH)(h:PH)(K:CV->MH->PH->Prop):Prop:=
  aA (cD (gO v)) (gO v<=gO v) (aA (p5 (gO v*24)) (p5 (gO v)) (gR (λs m1=>mP m m1 h s 53 1 (List.replicate (gO v).toNat iD)->∃(I:Nat×Sl×MH×PH->Prop)(m2:Nat×Sl×MH×PH->Nat),(∃(x:Nat×Sl×MH×PH),aA (I x) (cX cb) (aA lM (eP 4) (aA (eP 6) (eP 7) (aA (gE v) (bE x.1) (aA (bR v) oF (aA (vL (pW s) x.2) (bK m1 x.2.2) (bT h (dM x.2))))))))/\∀(x:Nat×Sl×MH×PH),I x->bA (↑x.1:Int) (aG v.tables) (gZ cb 5 (iM x.2) (dM x.2) (λk m3=>∃(I1:Nat×Int×Sl×MH×PH->Prop)(m4:Nat×Int×Sl×MH×PH->Nat),(∃(x1:Nat×Int×Sl×MH×PH),aA (I1 x1) (cX cb) (aA lM (eP 4) (aA (eP 6) (eP 7) (aA (cF x.1 x1.1) (cM k x1.2.1) (aA (gE v) (cF x.1 x1.1) (aA (bR v) oF (aH
 (vL (pW x.2.1) (nN x1)) (bK m3 (nN x1).2) (dM x.2=dM (nN x1)) True)))))))/\∀(x1:Nat×Int×Sl×MH×PH),I1 x1->dV x1.2.1 0 (aW (λb o=>aH (aX (oU v) b o) (0<=(↑x1.1:Int)) ((↑x1.1:Int)<aG v.tables) (∃(y:Int),aA (aM (iM (nN x1)) (dM (nN x1)) b (bL o x1.1 5+2) (bN y)) (aZ (dM (nN x1)) b (bL o x1.1 5+2) (bN y)) (AQ (bD (jI (bI v)) (↑x1.1:Int)) (dM (nN x1)) (λs1 h1=>∃(c:Nat)(s2:Sl)(k1:Int)(k2:List Int),aA (qB cb 0::cH s1 (bD (eK y) 3)=qB c 0::cH s2 (bD (eK k1) 3)) (aK (iM (nN x1)) h1 c) (aA (Ints h1 s2 k2) (fI k2) ((∀(k3:Int),List.Mem k3 k2->k3=3\/k3=4\/k3=5)/\∀(s3:Sl)(r:List VV),fC (λm5 h2=>dK h1 h2 (cK h2 s3 r) (aU (Nr k1 k2 r) (bB
 (iM (nN x1)) m5 c) (jQ m5 h2 c (iU (λv1 s4=>∃(t:Int),nB (λs5 r1=>aA (cL (bI v) (dZ (eK (↑x1.1:Int)) (pD s3))=cL (bI v1) (dZ (eK t) (pD s5))) (fQ h2 s4 v1) (aA (cK h2 s5 r1) (jG r1.length) (lC (λs6 h3=>dK h2 h3 (cK h3 s6 (Fe s4 t r1)) (iU (λv2 s7=>aW (λt1 n=>I0 (λc1 u=>∃(u1:Sl)(t2:Nat)(t3:uK)(r2:List (List VV)),nB (λs8 k3=>nB (λs9 r3=>aA (cL (bI v) (cL (aR (nN x1).1) (eK (↑x1.1:Int)::eY s6 s3))=cL (bI v2) (cL (iC (Value.slice (j5 t1) n c1)) (eK (↑t2:Int)::eY s8 s9))) (fQ h3 s7 v2) (aA (H0 s7 t2 t3) (UK m5 t1 u) (aA (n=u.length) (sK u t2 u1) (aA (Rows h3 u1 r2) (jG r2.length) (aA (CP r2 (λr4=>jG r4.length)) (cK h3 s8 k3) (aA (cK h3 s9 r3) (0<
 r3.length) (jG r3.length/\∀(u2:Sl),fC (λm6 h4=>dK h3 h4 (Rows h4 u2 (wT t3 k3 r3 false r2)) (aU (UK m6 t1 (List.set u t2 u2)) (bB m5 m6 t1) (∃(x2:Nat×Int×Sl×MH×PH),aA (I1 x2) (m4 x2<m4 x1) (aA (cX cb) lM (aA (eP 4) (eP 6) (aA (eP 7) (cF x1.1 x2.1) (aA (cM (mG x1.2.1) x2.2.1) (gE v) (aA (cF x1.1 x2.1) (bR v) (aA oF (vL (oK (At.val (Value.slice (j5 t1) n c1))) (nN x2)) (aA (bK m6 (nN x2).2) (h4=dM (nN x2)) True)))))))))))))))))))))))))))))))))))))) (∃(x2:Nat×Sl×MH×PH),aA (I x2) (m2 x2<m2 x) (aA (cX cb) lM (aA (eP 4) (eP 6) (aA (eP 7) (gE v) (aA (fY (aT ((↑x1.1:Int)+1))=bZ x2.1) (bR v) (aA oF (vL (pW (nN x1).1) x2.2) (cA (bK (iM (nN x1)) x2.2.2) (dM (nN x1)) (dM
 x2.2)))))))))) (K (jI (aR x.2.1)) (iM x.2) (dM x.2)))))
theorem cZ.iceB{m1:MH}{hx:PH}{r:CV}{tb:Nat}{cur:Array Value}{E:TypeId}(hcur:m1 tb=some (.cells cur E (0,0)))(le:PH.le h hx)(hK:∀h2,PH.le hx h2->(∀i,h2 tb i=cur[i]?)->K r (λb=>if b=tb then none else m1 b) h2):cZ h K r m1 hx:=by
 intro hdis;have hg0:∀i,hx tb i=none:=hdis tb _ hcur
 have hle3:PH.le hx (λx i=>if x=tb then cur[i]? else hx x i):=⟨λx i v e=>by
  have:x≠tb:=λe'=>by rw[e',hg0 i]at e;cases e
  simp[this,e]⟩
 refine⟨_,_,λb o e=>?_,le.trans hle3,λx i v e=>?_,hK _ hle3 (λi=>by simp)⟩
 .by_cases e':b=tb
  .simp[e']at e
  .simpa[e']using e
 .by_cases e':x=tb
  .subst e';simp at e;exact .inr ⟨cur,E,(0,0),hcur,e,by simp⟩
  .simp[e']at e;exact .inl e
structure X5(h:PH)(s:nY)(m:MH)(tb:Nat)(us:List Sl)(st:List (List (List VV))):Prop where
 tbl:UK m tb us
 ulen:us.length=s.tables.length
 slen:st.length=s.tables.length
 rows:∀(j:Nat) u l,us[j]? =some u->st[j]? =some l->Rows h u l
 ok:Ix s st
 val:Ze st
 few:∀l∈st,l.length<=4
theorem X5.mono{tb:Nat}{us:List Sl}{st:List (List (List VV))}(x:X5 h s m tb us st)(le:PH.le h h')(e:m' tb=m tb):X5 h' s m' tb us st:=by
 obtain⟨cur,h1,h2,h3⟩:=x.tbl;exact⟨⟨cur,by rw[e];exact h1,h2,h3⟩,x.ulen,x.slen,λj u l a b=>bY.mono (x.rows j u l a b) le λr t hv=>cK.mono hv le,x.ok,x.val,x.few⟩
theorem W5{t:uK}{r:List VV}(h:Nr t.key (t.columns.map lS.kind) r):Cj t r=true:=by
 obtain⟨h1,_,h3⟩:=h;rw[List.length_map]at h1;refine Ci.2 ⟨h1,λi hi=>?_⟩;have e1:r[i]? =some (r.getD i zeroV):=by rw[List.getD_eq_getElem?_getD,List.getElem?_eq_getElem hi];rfl
 refine h3 i _ _ e1 ?_;rw[List.getElem?_map,List.getD_eq_getElem?_getD,List.getElem?_eq_getElem aC];rfl
theorem Vk{key k:Int}{v:VV}(h:wG key k i v=true)(hw:HB v):Np v.kind/\Np v.int:=by
 simp only[wG,Bool.and_eq_true]at h;have:=GW h.1;exact⟨⟨aC,aC⟩,hw.int_⟩
theorem X5.put{tb t:Nat}{us:List Sl}{st:List (List (List VV))}{u':Sl}{tab:uK}{l:List (List VV)}{row:List VV}(x:X5 h s m tb us st)(le:PH.le h h')(ht:s.tables[t]? =some tab)(hl:st[t]? =some l)(hT:UK m' tb (us.set t u'))(hr:Rows h' u' (wT tab (jK tab row) row false l))(hf:Nr tab.key (tab.columns.map lS.kind) row)(h4:l.length<=3):
 X5 h' s m' tb (us.set t u') (st.set t (wT tab (jK tab row) row false l)):=by
 have hfr:=W5 hf;have htl:=(List.getElem?_eq_some_iff.1 hl).1;have hok:=x.ok t tab l ht hl;refine⟨hT,by rw[List.length_set];exact x.ulen,by rw[List.length_set];exact x.slen,λj u l' hu hl'=>?_,λj t' l' ht' hl'=>?_,λl' hl'=>?_,λl' hl'=>?_⟩
 .by_cases e:t=j
  .subst e;rw[List.getElem?_set_self (by rw[x.ulen, <-x.slen];exact htl)]at hu;rw[List.getElem?_set_self htl]at hl';cases hu;cases hl';exact hr
  .rw[List.getElem?_set_ne e]at hu hl';exact bY.mono (x.rows j u l' hu hl') le λr t hv=>cK.mono hv le
 .by_cases e:t=j
  .subst e;rw[List.getElem?_set_self htl]at hl';rw[ht]at ht';cases hl';cases ht';refine⟨λr hr=>?_,λi r r' e1 e2=>(IJ (Ko.of hok.2)).adj i r r' e1 e2⟩;rcases HF hr with rfl|hr
   .exact hfr
   .exact hok.1 r hr
  .rw[List.getElem?_set_ne e]at hl';exact x.ok j t' l' ht' hl'
 .rcases List.mem_or_eq_of_mem_set hl' with h5|rfl
  .exact x.val l' h5
  .intro r hr v hv;rcases HF hr with rfl|hr
   .obtain⟨i,hi,rfl⟩:=List.mem_iff_getElem.1 hv;have hi2:i<(tab.columns.map lS.kind).length:=by rw[<-hf.1];exact hi
    exact Vk (hf.2.2 i _ _ (List.getElem?_eq_getElem hi) (List.getElem?_eq_getElem hi2)) (hf.2.1 _ hv)
   .exact x.val l (List.mem_of_getElem? hl) r hr v hv
 .rcases List.mem_or_eq_of_mem_set hl' with h5|rfl
  .exact x.few l' h5
  .have:=HG (t:=tab) (key:=jK tab row) (row:=row) (l:=l) (d:=false);simp at this;omega
theorem Uq:Sound Tryz.prog 14 Wk:=by
 refine W4 Tryz.func14 ?_;rintro cvs m h K ⟨cb,v,s,rfl,hc,hs,hp,hK⟩;refine⟨XM cb v,rfl,aD Gb (aD Da (aD T6 (aD K2 (aD T5 aF)))),JE cb v m h (cZ h K),by kernel_rfl,?_⟩;show JE cb v m h (cZ h K);dsimp only[JE,push_cast];have htl:=hs.tables.slen;obtain⟨hse,hne⟩:=Eu hp;have h8:=An hse;have hs8:=sF hse;have hn0:0<s.tables.length:=List.length_pos_iff.2 hne;refine⟨aC,aC,aC,aC,λsl m1 hnew=>?_⟩;rw[show((v.tables.len:Int)).toNat=s.tables.length by omega]at hnew
 obtain⟨tb,cap,cur,hsl,hcur,_,_,hcs,hct⟩:∃b cap cur,sl=⟨some ⟨b,0,none⟩,s.tables.length,cap⟩/\m1 b=some (.cells cur 53 (0,0))/\s.tables.length<=cap/\cap<=maxLen/\cur.size=cap*1/\cur.toList.take (s.tables.length*1)=(List.replicate s.tables.length [tZ]).flatten:=by
  rcases hnew.row.ex with⟨_,e⟩|⟨b,cap,cur,e1,e2,e3,e4,e5,e6⟩
  .have:=congrArg List.length e;rw[List.length_replicate,List.length_nil]at this;omega
  .rw[List.length_replicate]at e1 e3 e6;exact⟨b,cap,cur,e1,e2,e3,e4,e5,e6⟩
 have hcapn:s.tables.length<=cap:=by assumption
 have htb0:cE m h tb:=hnew.fresh tb 0 (by rw[hsl])
 have hne1:tb≠cb:=λe=>by
  obtain⟨cs,e2⟩:=hc.blk;rw[<-e,htb0.m_]at e2;cases e2
 have hoth:∀b,b≠tb->m1 b=m b:=λb hb=>hnew.other b λi e=>by
  rw[hsl]at e;injection e with e;injection e with e1 e2;exact hb e1.symm
 have hc1:aK m1 h cb:=hc.keep (hoth cb (Ne.symm hne1)) (.refl _)
 have hT0:X5 h s m1 tb (List.replicate s.tables.length ⟨none,0,0⟩) (List.replicate s.tables.length []):=by
  refine⟨⟨cur,hcur,by rw[List.length_replicate];omega,?_⟩,by simp,by simp,λj u l hu hl=>?_,λj t l ht hl=>?_,λl hl=>?_,λl hl=>?_⟩
  .rw[List.length_replicate, <-Nat.mul_one s.tables.length,hct,Nat.mul_one,List.map_replicate];generalize s.tables.length=k
   induction k with
   |zero=>rfl
   |succ k ih=>rw[List.replicate_succ,List.flatten_cons,ih,List.replicate_succ];rfl
  .have hu:=List.mem_of_getElem? hu;have hl:=List.mem_of_getElem? hl;rw[List.eq_of_mem_replicate hu,List.eq_of_mem_replicate hl];exact bY.nil _ _ _ _
  .rw[List.eq_of_mem_replicate (List.mem_of_getElem? hl)];exact⟨λr hr=>by simp at hr,λi r r' e=>by simp at e⟩
  .rw[List.eq_of_mem_replicate hl];intro r hr;simp at hr
  .rw[List.eq_of_mem_replicate hl];simp
 clear hct hcs hcur cur;refine⟨λz=>z.1<=s.tables.length/\z.2.1=sl/\PH.le h z.2.2.2/\aK z.2.2.1 z.2.2.2 cb/\(∀b,b≠tb->b≠cb->z.2.2.1 b=m b)/\∃us st,X5 z.2.2.2 s z.2.2.1 tb us st/\∀j l,z.1<=j->st[j]? =some l->l=[],λz=>s.tables.length-z.1,⟨(0,sl,m1,h),⟨by simp,rfl,.refl _,hc1,λb h1 _=>hoth b h1,_,_,hT0,λj l _ e=>List.eq_of_mem_replicate (List.mem_of_getElem? e)⟩,MT⟩,?_⟩;clear hT0 hc1;rintro⟨i,sl',m2,h2⟩ ⟨hi,e1,le2,c2,o2,us,st,hT,hnil⟩;dsimp only at hi e1 le2 c2 o2 hT hnil⊢
 rw[e1];clear e1 sl';refine aE (λhlt=>?_) (λhge=>?_)
 .obtain⟨tab,htab⟩:=fJ htl hlt;have htabm:=List.mem_of_getElem? htab;obtain⟨tk,tc,tc4,tko⟩:=FW hp htabm;have hil:=(List.getElem?_eq_some_iff.1 htab).1
  have hnil0:st[i]? =some []:=by
   have:=List.getElem?_eq_getElem (l:=st) (i:=i) (by rw[hT.slen];exact hil);rw[this,hnil i _ (Nat.le_refl _) this]
  refine⟨cb,5,rfl,c2,λk m3 k0 k1 o3 c3=>?_⟩;refine⟨λz=>z.1=i/\z.2.2.1=sl/\z.2.1<=4/\PH.le h z.2.2.2.2/\aK z.2.2.2.1 z.2.2.2.2 cb/\(∀b,b≠tb->b≠cb->z.2.2.2.1 b=m b)/\∃us st l,X5 z.2.2.2.2 s z.2.2.2.1 tb us st/\st[i]? =some l/\((l.length:Int)<=4-z.2.1)/\0<=z.2.1/\∀j l,i+1<=j->st[j]? =some l->l=[],λz=>z.2.1.toNat,⟨(i,k,sl,m3,h2),⟨rfl,rfl,by show k<=4;omega,le2,c3,λb h1 h2=>by show m3 b=m b;rw[o3.other b h2];exact o2 b h1 h2,us,st,[],hT.mono (.refl _) (o3.other tb hne1),hnil0,by simp;omega,k0,λj l hj=>hnil j l aC⟩,MT⟩,?_⟩;clear o3 c3 m3 k0 k1 hT hnil hnil0 us st k o2 c2 m2;rintro⟨i',n,sl',m3,h3⟩ ⟨e1,e2,hn4,le3,c3,o3,us,st,l,hT,hl,hll,hn0',hnil⟩;dsimp only at e1 e2 hn4 le3 c3 o3 hT hl hll hn0' hnil⊢
  rw[e1,e2];clear e1 e2 i' sl';refine aE (λhn=>?_) (λhn=>?_)
  .obtain⟨b,o,y,ea,rd,hy⟩:=bY.at (hs.mono le3).tables htab;have hkT:gT s (i:Int)=tab.columns.map lS.kind:=by rw[gT,if_neg aC,Int.toNat_natCast,htab]
   refine⟨b,o,ea,aC,aC,tab.key,.imm (by rw[<-hy.key];exact aZ.part rd 2 1),by rw[<-hy.key];exact aZ.part rd 2 1,v,s,i,rfl,hs.mono le3,hs8,λks h4 le4 hks=>?_⟩;rw[hkT]at hks;refine⟨cb,ks,tab.key,_,rfl,c3.mono le4,hks,by rw[List.length_map];omega,λk hk=>?_,λsr row m5 h5 le5 hrow hfit o5 c5=>?_⟩
   .obtain⟨c,hc,rfl⟩:=List.mem_map.1 hk;exact tko c hc
   have hrl:row.length=tab.columns.length:=by rw[hfit.1,List.length_map]
   refine⟨v,s,i,sr,row,rfl,hs.mono ((le3.trans le4).trans le5),hrow,aC,λsk h6 le6 hkey=>?_⟩;rw[C7 htab]at hkey;have hT6:=hT.mono ((le4.trans le5).trans le6) (o5.other tb hne1);obtain⟨u,hu⟩:∃u,us[i]? =some u:=⟨_,List.getElem?_eq_getElem (by rw[hT.ulen];exact hil)⟩
   have hlm:=List.mem_of_getElem? hl;refine⟨v,s,tb,s.tables.length,cap,us,u,i,tab,l,sk,jK tab row,sr,row,by rw[hsl],hs.mono (((le3.trans le4).trans le5).trans le6),htab,hT6.tbl,hT.ulen.symm,hu,hT6.rows i u l hu hl,by have:=hT.few l hlm;omega,λr hr=>?_,hkey,cK.mono hrow le6,aC,aC,λu' m7 h7 le7 hr7 hT7 o7=>?_⟩
   .have:=(MV ((hT.ok i tab l htab hl).1 r hr)).1;omega
   have hw:IntKind.i64.wrap (n-1)=n-1:=dJ aC aC;have hpl:=HG (t:=tab) (key:=jK tab row) (row:=row) (l:=l) (d:=false);simp at hpl;refine⟨(i,n-1,sl,m7,h7),⟨rfl,rfl,by show n-1<=4;omega,(((le3.trans le4).trans le5).trans le6).trans le7,(c5.mono (le6.trans le7)).keep (o7.other cb (Ne.symm hne1)) (.refl _),λb h1 h2=>by show m7 b=m b;rw[o7.other b h1,o5.other b h2];exact o3 b h1 h2,us.set i u',st.set i _,_,hT6.put le7 htab hl hT7 hr7 hfit aC,List.getElem?_set_self (List.getElem?_eq_some_iff.1 hl).1,by show(_:Int)<=4-(n-1);omega,by show 0<=n-1;omega,λj l' hj e=>?_⟩,by show(n-1).toNat<n.toNat;omega,?_⟩
   .rw[List.getElem?_set_ne aC]at e;exact hnil j l' hj e
   .rw[hw,hsl];exact MT
  .refine⟨(i+1,sl,m3,h3),⟨by show i+1<=s.tables.length;omega,rfl,le3,c3,o3,us,st,hT,hnil⟩,by show s.tables.length-(i+1)<s.tables.length-i;omega,?_⟩;rw[kN aC];exact MT
 .obtain⟨cur,hcur,hcs,hct⟩:=hT.tbl;refine cZ.iceB hcur le2 λh3 le3 hice=>hK st sl _ h3 (le2.trans le3) ⟨⟨⟨us,⟨by rw[hsl,List.length_map];exact hT.ulen.symm,.inr ⟨tb,0,by rw[hsl],λj e hj=>⟨λn x hx=>?_⟩⟩,by rw[hsl];exact hcapn⟩,by rw[hT.slen,hT.ulen],λj l hl=>?_⟩,by rw[hT.slen];omega⟩,by rw[hT.slen];omega,hT.val⟩ ⟨hT.slen,hT.few,hT.ok,hT.val⟩ ⟨λb hb=>?_⟩ ?_
  .rw[List.getElem?_map,Option.map_eq_some_iff]at hj;obtain⟨u,hu,rfl⟩:=hj;have hn:n=0:=by have:=(List.getElem?_eq_some_iff.1 hx).1;simp[eS]at this;omega
   subst hn
   have hx:u.val=x:=by
    simp[eS]at hx;exact hx
   subst hx;have e:(cur.toList.take us.length)[j]? =some u.val:=by rw[hct,List.getElem?_map,hu];rfl
   rw[List.getElem?_take,if_pos (List.getElem?_eq_some_iff.1 hu).1,Array.getElem?_toList]at e;rw[hice,show 0+j*1+0=j by omega];exact e
  .have hjl:=(List.getElem?_eq_some_iff.1 hl).1;have hju:j<us.length:=by rw[hT.ulen, <-hT.slen];exact hjl
   have hu:us[j]? =some us[j]:=List.getElem?_eq_getElem hju;exact⟨_,hu,bY.mono (hT.rows j _ l hu hl) le3 λr t hv=>cK.mono hv le3⟩
  .by_cases e:b=tb
   .subst e;simp[htb0.m_]
   .simp only[e,if_false];exact o2 b e hb
  .refine aK.keep c2 ?_ le3;simp[Ne.symm hne1]
def WI:Vc.Spec:=λcvs m h K=>cvs=[]/\jY m/\K (cB true) m h
def Jv(m:MH)(h:PH)(K:CV->MH->PH->Prop):Prop:=
  bM h 2 (nP HX 4::eX (nP (HY 99) 4)) (λs h1=>jM 1 (λn=>jM 10 (λn1=>jM 2 (λn2=>jM 10 (λn3=>jM 3 (λn4=>jM 20 (λn5=>bM h1 3 (tB n::eX (tB n1)) (λs1 h2=>bM h2 3 (tB n2::eX (tB n3)) (λs2 h3=>bM h3 3 (tB n4::eX (tB n5)) (λs3 h4=>bM h4 1 (aR s1::aR s2::eX (aR s3)) (λs4 h5=>bM h5 5 (eX (CY 116 97 115 107 (pZ 115) s 1)) (λs5 h6=>bM h6 1 (eX (aR s4)) (λs6 h7=>bM h7 1 (eX (bN 1)) (λs7 h8=>bM h8 2 (eX (jJ bC zB)) (λs8 h9=>bM h9 21 (eX (aL (dY 1) bC (aL bC bC (aL bC bC (aL bC bC (sL tZ (zA iD))))))) (λs9 a=>iU (λv a1=>w8 (λa2 a3=>lQ (λw q=>aA (cL (jJ bC
 (dT s5)) (jE (aR s6) (aL (dY 9) bC (aL bC bC (aL bC bC (aL bC bC (sL tZ (aL tZ (dT s7) (aL (dT s8) (dY 1) (aR s9)))))))))=cL (bI v) (yE a2 w)) (fQ a a1 v) (aA (FF a a2 a3) (cT a q w) (A4 q m a1 a3 (lC (λa4 a5=>dK a a5 (Rows a5 a4 (DM a1 a3 q).1) (dL (DM a1 a3 q).2 0 (dL (aG a4) 2 (aW (λb o=>aH (aX a4.a b o) ((0:Int)<=0) (0<aG a4) (∃(y:Sl),aM m a5 b (o+0) (aR y)/\aW (λb1 o1=>aH (aX y.a b1 o1) ((0:Int)<=0) (0<aG y) (∃(y1:VV),aH (aM m a5 b1 (o1+0) y1.enc) (aZ a5 b (o+0) (aR y)) (aZ a5 b1 (o1+0) y1.enc) (jM 2 (λn6=>lG 27 y1.enc (tB n6) (λr=>branch r (aW (λb2 o2=>aH (aX a4.a b2 o2) ((0:Int)<=1) (1<aG a4) (∃(y2:Sl),aM m a5 b2 (o2+1) (aR y2)/\
 aW (λb3 o3=>aH (aX y2.a b3 o3) ((0:Int)<=0) (0<aG y2) (∃(y3:VV),aA (aM m a5 b3 (o3+0) y3.enc) (aZ a5 b (o+0) (aR y)) (aA (aZ a5 b1 (o1+0) y1.enc) (aZ a5 b2 (o2+1) (aR y2)) (aZ a5 b3 (o3+0) y3.enc/\jM 3 (λn7=>lG 27 y3.enc (tB n7) (λr1=>branch r1 (aW (λb4 o4=>aH (aX a4.a b4 o4) ((0:Int)<=0) (0<aG a4) (∃(y4:Sl),aM m a5 b4 (o4+0) (aR y4)/\aW (λb5 o5=>aH (aX a4.a b5 o5) ((0:Int)<=1) (1<aG a4) (∃(y5:Sl),aA (aM m a5 b5 (o5+1) (aR y5)) (aZ a5 b (o+0) (aR y)) (aA (aZ a5 b1 (o1+0) y1.enc) (aZ a5 b2 (o2+1) (aR y2)) (aZ a5 b3 (o3+0) y3.enc/\iZ (λo6 a6=>∃(t:Sl)(o7:List (Int×Bool))(a7 b6:List VV),aA (cH s8 (eY y4 y5)=cH o6 (eY a6 t)) (iH a5 o6 o7) (aA
 (cK a5 a6 a7) (cK a5 t b6) (K (Ag (j4 o7 a7 b6==1)) m a5)))))))))) (aA (aZ a5 b (o+0) (aR y)) (aZ a5 b1 (o1+0) y1.enc) (aA (aZ a5 b2 (o2+1) (aR y2)) (aZ a5 b3 (o3+0) y3.enc) (K aY m a5)))))))))))) (aA (aZ a5 b (o+0) (aR y)) (aZ a5 b1 (o1+0) y1.enc) (aA (aZ a5 b (o+0) (aR y)) (aZ a5 b1 (o1+0) y1.enc) (K aY m a5))))))))))) (K aY m a5)) (K aY m a5)))))))))))))))))))))))))
def nV(n:Int):VV:=⟨4,n,⟨#[]⟩⟩
def bS:nY:=⟨0,[⟨⟨⟨[116,97,115,107,115]⟩⟩,[⟨⟨⟨[105,100]⟩⟩,4⟩,⟨⟨⟨[112,114,111,106,101,99,116]⟩⟩,4⟩],1,[],[]⟩]⟩
def UN:List (List (List VV)):=[[[nV 1,nV 10],[nV 2,nV 10],[nV 3,nV 20]]]
def Wd:Query:=.mk 1 0 gV [] [] [] [] 0 []
def bQ:Query:=.mk 9 0 gV [] [] [1] [(0,true)] 1 [Wd]
theorem Yh:eD bS=0:=UY (by decide) (λt ht=>by simp[bS]at ht;subst ht;exact⟨by simp,rfl,rfl⟩) (by decide) (by decide) (by
 refine wE ⟨⟨?_,?_,?_,?_,wE ⟨⟨?_,?_,?_⟩,⟨?_,?_,?_⟩,trivial⟩⟩,trivial⟩
 all_goals first|rfl|(simp;done)|decide)
theorem Qi{k:List Int}(h:bO s ps q=(k,0))(hr:uZ k gr od li)(hk:k.length<=12):bO s ps (.mk 9 0 gV [] [] gr od li [q])=(k,0):=by
 rw[F7 (by decide) h];unfold iA;rw[if_neg (by simp[arity,dE])];dsimp only;rw[if_neg (by decide),if_neg (by decide),if_neg (by decide),if_neg (by decide),if_neg (by decide),if_pos rfl,if_pos hr,Fc hk]
theorem We:bO bS [] bQ=([4,4],0):=by
 have e:gT bS 0=[4,4]:=rfl
 have h:bO bS [] Wd=([4,4],0):=by
  have:=Jg (s:=bS) (ps:=[]) (t:=0) (by decide) (by decide) (by rw[e];decide);rw[e]at this;exact this
 exact Qi h ⟨wE ⟨⟨by decide,by simp⟩,trivial⟩,wE ⟨by show BA _ _=true;decide,trivial⟩,by decide,by decide,by decide⟩ (by decide)
theorem IH{k:List Int}(hs:eD s=0)(h:jZ q=true)(hk:bO s [] q=(k,0)):fZ s [] q=(k,0):=by
 unfold fZ;rw[if_pos hs,if_pos (by rfl),if_pos h,hk]
theorem Zc:fZ bS [] bQ=([4,4],0):=IH Yh (by rfl) We
theorem Y0:rW bS UN=0:=by
 unfold rW;rw[if_neg (by simp[Yh]),if_neg (by decide),if_neg (by decide),if_pos];intro i t l ht hl
 match i,ht,hl with
 |0,ht,hl=>
  simp[bS]at ht;simp[UN]at hl;subst ht hl;refine⟨λr hr=>?_,λi r r' e1 e2=>?_⟩
  .simp at hr;have hv:∀n,wG 1 4 0 (nV n)=true/\wG 1 4 1 (nV n)=true:=λn=>by simp[wG,nV,UR]
   rcases hr with rfl|rfl|rfl
   all_goals
    refine Ci.2 ⟨rfl,λi hi=>?_⟩
    match i,hi with
    |0,_=>exact(hv _).1
    |1,_=>exact(hv _).2
    |i+2,hi=>simp at hi;omega
  .match i,e1,e2 with
   |0,e1,e2=>simp at e1 e2;subst e1 e2;decide
   |1,e1,e2=>simp at e1 e2;subst e1 e2;decide
   |i+2,e1,e2=>simp at e2
 |i+1,ht,hl=>simp[bS]at ht
theorem Zb:xJ UN bQ=[[nV 2,nV 10],[nV 3,nV 20]]:=by rfl
theorem Md{s:Sl}{l:List VV}(r:cN h s 3 (l.map VV.enc))(hl:l.length<=1000):cK h s l:=⟨⟨l,r,rfl,λi x hx=>⟨x,hx,rfl⟩⟩,aC⟩
theorem Ue:Sound Tryz.prog 23 WI:=by
 refine Fg Tryz.func23 ?_;rintro cvs m h K ⟨rfl,ht,hK⟩;refine⟨dN [(61,Tb),(21,Wq),(34,FI)] [] [] [] false,rfl,aD T4 (aD K9 (aD Gl aF)),Jv m h (j9 h K),by kernel_rfl,?_⟩;show Jv m h (j9 h K);dsimp only[Jv,push_cast];intro s1 h1 le1 r1;refine⟨1,rfl,10,rfl,2,rfl,10,rfl,3,rfl,20,rfl,?_⟩;intro s2 h2 le2 r2 s3 h3 le3 r3 s4 h4 le4 r4 s5 h5 le5 r5 s6 h6 le6 r6 s7 h7 le7 r7 s8 h8 le8 r8 s9 h9 le9 r9 sa ha lea ra;have l9:=le9.trans lea;have l8:=le8.trans l9;have l7:=le7.trans l8;have l6:=le6.trans l7;have l5:=le5.trans l6;have l4:=le4.trans l5;have l3:=le3.trans l4;have l2:=le2.trans l3;have rs:cT ha Wd ⟨1,0,fT,bU,bU,bU,bU,0,bU⟩:=zN ha 0;have so:iH ha s9 [(0,true)]:=⟨r9.mono lea,by simp⟩
 have rq:cT ha bQ ⟨9,0,fT,bU,bU,s8,s9,1,sa⟩:=nW.rep ⟨rfl,rfl,zK ha,iV ha,nZ ha,⟨r8.mono l9,by simp⟩,so,rfl,wJ (v:=⟨1,0,fT,bU,bU,bU,bU,0,bU⟩) ra rs⟩;have rt:GR ha ⟨⟨⟨[116,97,115,107,115]⟩⟩,[⟨⟨⟨[105,100]⟩⟩,4⟩,⟨⟨⟨[112,114,111,106,101,99,116]⟩⟩,4⟩],1,[],[]⟩ ⟨⟨⟨[116,97,115,107,115]⟩⟩,s1,1,bU,bU⟩:=⟨rfl,Fw (l:=[⟨_,_⟩,⟨_,_⟩]) (r1.mono l2) (by simp),rfl,bY.nil _ _ _ _,bY.nil _ _ _ _⟩
 have rS:fQ ha bS ⟨0,s6⟩:=⟨rfl,⟨⟨[⟨⟨⟨[116,97,115,107,115]⟩⟩,s1,1,bU,bU⟩],r6.mono l7,rfl,λi x e=>by
  match i,e with
  |0,e=>simp[bS]at e;subst e;exact⟨_,rfl,rt⟩
  |i+1,e=>simp[bS]at e⟩,by simp[bS]⟩⟩
 have v1:cK ha s2 [nV 1,nV 10]:=Md (r2.mono l3) (by simp);have v2:cK ha s3 [nV 2,nV 10]:=Md (r3.mono l4) (by simp);have v3:cK ha s4 [nV 3,nV 20]:=Md (r4.mono l5) (by simp)
 have rr:Rows ha s5 [[nV 1,nV 10],[nV 2,nV 10],[nV 3,nV 20]]:=⟨⟨[s2,s3,s4],r5.mono l6,rfl,λi x e=>by
  match i,e with
  |0,e=>simp at e;subst e;exact⟨_,rfl,v1⟩
  |1,e=>simp at e;subst e;exact⟨_,rfl,v2⟩
  |2,e=>simp at e;subst e;exact⟨_,rfl,v3⟩
  |i+3,e=>simp at e⟩,by simp⟩
 have rst:FF ha s7 UN:=⟨⟨⟨[s5],r7.mono l8,rfl,λi x e=>by
  match i,e with
  |0,e=>simp[UN]at e;subst e;exact⟨_,rfl,rr⟩
  |i+1,e=>simp[UN]at e⟩,by simp[UN]⟩,by simp[UN],λl hl r hr v hv=>by
   simp[UN]at hl;subst hl;simp at hr;rcases hr with rfl|rfl|rfl<;>simp at hv<;>rcases hv with rfl|rfl<;>exact⟨by constructor<;>decide,by constructor<;>decide⟩⟩
 have hres:DM bS UN bQ=([[nV 2,nV 10],[nV 3,nV 20]],0):=by
  unfold DM;rw[Zc,if_neg (by simp),if_neg (by simp[Y0]),Zb]
 refine⟨⟨0,s6⟩,bS,s7,UN,⟨9,0,fT,bU,bU,s8,s9,1,sa⟩,bQ,rfl,rS,rst,rq,by rfl,ht,λ_ _=>⟨3,by decide,λl hl=>by simp[UN]at hl;subst hl;simp,by decide⟩,λs' hb leb hr=>?_⟩;rw[hres]at hr⊢
 dsimp only at hr⊢
 have hrl:=bY.slen hr;have hrl:s'.len=2:=hrl;obtain⟨b1,o1,u1,ea1,rd1,hv1⟩:=bY.at hr (i:=0) rfl;obtain⟨b2,o2,u2,ea2,rd2,hv2⟩:=bY.at hr (i:=1) rfl;obtain⟨b3,o3,x1,ea3,rd3,e3⟩:=bY.at hv1 (i:=0) rfl;obtain⟨b4,o4,x2,ea4,rd4,e4⟩:=bY.at hv2 (i:=0) rfl;subst e3 e4;have n1:u1.len=2:=bY.slen hv1;have n2:u2.len=2:=bY.slen hv2;have eq2:∀v:VV,Uy v v=true:=λv=>by simp[Uy]
 have rd1:aZ hb b1 (o1+0) [dT u1]:=rd1;have rd2:aZ hb b2 (o2+1) [dT u2]:=rd2;have rd3:aZ hb b3 (o3+0) (VV.enc (nV 2)):=by simpa using rd3
 have rd4:aZ hb b4 (o4+0) (VV.enc (nV 3)):=by simpa using rd4
 have hc:j4 [(0,true)] [nV 2,nV 10] [nV 3,nV 20]=1:=by decide
 refine aB (λ_=>aB (λ_=>⟨b1,o1,ea1,aC,aC,u1,.imm rd1,b3,o3,ea3,aC,aC,nV 2,.imm rd3,rd1,rd3,2,rfl,_,Fl (nV 2) (nV 2),aB (λ_=>⟨b2,o2,ea2,aC,aC,u2,.imm rd2,b4,o4,ea4,aC,aC,nV 3,.imm rd4,rd1,rd3,rd2,rd4,3,rfl,_,Fl (nV 3) (nV 3),aB (λ_=>⟨b1,o1,ea1,aC,aC,u1,.imm rd1,b2,o2,ea2,aC,aC,u2,.imm rd2,rd1,rd3,rd2,rd4,s9,u1,u2,[(0,true)],_,_,rfl,so.mono leb,hv1,hv2,?_⟩) (λe=>?_)⟩) (λe=>?_)⟩) (λe=>?_)) (λe=>?_)
 .rw[hc];exact .out (Sub.refl m) ((le1.trans l2).trans leb) hK
 .rw[eq2]at e;cases e
 .rw[eq2]at e;cases e
 .rw[hrl]at e;cases e
 .cases e
abbrev Rel:=List (List VV)
def US(a b:Rel):Rel:=yY (a++b)
theorem WY{a b:Rel}{x:List VV}:x∈US a b↔x∈a\/x∈b:=by simp[US,zM]
def Mt(co:List Int)(a:Rel):Rel:=yY (a.map λr=>pick r co)
theorem Sn{a:Rel}{y:List VV}:y∈Mt co a↔∃r∈a,pick r co=y:=by simp[Mt,zM]
theorem KB{r:List VV}{m:List Int}(hm:∀c∈m,0<=c/\c<l.length):pick (pick r l) m=pick r (m.map λc=>l.getD c.toNat 0):=by
 unfold pick;rw[List.map_map];refine List.map_congr_left λc hc=>?_;obtain⟨h0,h1⟩:=hm c hc;have h2:c.toNat<l.length:=by omega
 simp only[Function.comp,List.getD_eq_getElem?_getD,List.getElem?_map,List.getElem?_eq_getElem h2,Option.map_some,Option.getD_some]
theorem WU{m:List Int}(hm:∀c∈m,0<=c/\c<l.length)(a:Rel):Mt m (Mt l a)=Mt (m.map λc=>l.getD c.toNat 0) a:=Am (nK _) (nK _) λy=>by
 simp only[Sn];constructor
 .rintro⟨z,⟨r,hr,rfl⟩,rfl⟩;exact⟨r,hr,(KB hm).symm⟩
 .rintro⟨r,hr,rfl⟩;exact⟨_,⟨r,hr,rfl⟩,KB hm⟩
theorem WT(n:List Int)(a b:Rel):Mt n (US a b)=US (Mt n a) (Mt n b):=Am (nK _) (nK _) λy=>by
 simp only[Sn,WY];constructor
 .rintro⟨r,h|h,rfl⟩
  .exact .inl ⟨r,h,rfl⟩
  .exact .inr ⟨r,h,rfl⟩
 .rintro(⟨r,h,rfl⟩|⟨r,h,rfl⟩)
  .exact⟨r,.inl h,rfl⟩
  .exact⟨r,.inr h,rfl⟩
def Zs:Vc.Spec:=λcvs m h K=>∃s cs,cvs=[cS s]/\cN h s 1 (bG cs)/\s.len<=s.cap/\jY m/\∀m' h',Sub m m'->K (cB true) m' h'
noncomputable def Og:List (Nat×Vc.Spec):=[(11,Zi),(12,Wt),(13,RY 5),(25,Cs),(26,Nj),(30,xH),(14,Wk),(27,Yo),(28,Ni),(29,YA),(24,Yk),(23,WI),(15,FH),(16,Kb)]
theorem TF:∀g S,assoc Og g=some S->Sound Tryz.prog g S:=aD Uu (aD Ut (aD (SJ 5) (aD K6 (aD K5 (aD Db (aD Uq (aD Uc (aD K4 (aD Ub (aD Ud (aD Ue (aD Gb (aD wL aF)))))))))))))
def R0(k:List Int):Prop:=k≠[]/\FJ k
theorem KN{kss:List (List Int)}(h:∀k∈kss,R0 k)(hi:i<kss.length):R0 (kss.getD i []):=by
 rw[List.getD_eq_getElem?_getD,List.getElem?_eq_getElem hi];exact h _ (List.getElem_mem hi)
mutual
theorem Oh{s:nY}{ps:List Int}(hk:Wn s)(hc:∀t∈s.tables,t.columns≠[]):∀{q:Query}{ks:List Int},bO s ps q=(ks,0)->R0 ks
 |.mk op ta w co on gr od li args,ks,h=>by
  obtain⟨kss,h1,h2,h3⟩:=xC h;have ih:=KH hk hc h1;have ar:arity op=1\/arity op=2->R0 (kss.getD 0 []):=λe=>KN ih aC;have ar2:arity op=2->R0 (kss.getD 1 []):=λe=>KN ih aC;unfold iA at h3;dsimp only at h3;split at h3
  .simp[iR]at h3
  rename_i hn;have hpos:0<=arity op:=by have:¬arity op<0:=λe=>hn (.inl e);omega
  split at h3
  .rename_i e1;subst e1;split at h3
   .rename_i h4;obtain⟨rfl,_⟩:=j3 h3;refine⟨λe=>?_,hk ta⟩;have ht:ta.toNat<s.tables.length:=by omega
    rw[gT,if_neg aC,List.getElem?_eq_getElem ht]at e;exact hc _ (List.getElem_mem ht) (List.map_eq_nil_iff.1 e)
   .simp[iR]at h3
  .rename_i e1
   have h12:arity op=1\/arity op=2:=by
    unfold arity at hpos⊢
    split
    .rename_i e;simp at e;exact absurd e e1
    .split
     .exact .inl rfl
     .split
      .exact .inr rfl
      .rename_i a b c;rw[if_neg a,if_neg b,if_neg c]at hpos;omega
   have k0:=ar h12;split at h3
   .split at h3
    .obtain⟨rfl,_⟩:=j3 h3;exact k0
    .rename_i e;simp only[iR,Prod.mk.injEq]at h3;exact absurd h3.2 e
   split at h3
   .split at h3
    .rename_i hg;obtain⟨rfl,_⟩:=j3 h3;refine⟨λe=>hg.1 (List.map_eq_nil_iff.1 e),λk hkm=>?_⟩;obtain⟨c,hcm,rfl⟩:=List.mem_map.1 hkm;obtain⟨_,h5⟩:=Cg hg.2 hcm;have h5:=Jj h5;rw[List.getD_eq_getElem?_getD,List.getElem?_eq_getElem aC];exact k0.2 _ (List.getElem_mem _)
    .simp[iR]at h3
   split at h3
   .rename_i e4;subst e4;split at h3
    .obtain⟨rfl,_⟩:=j3 h3;refine⟨λe=>k0.1 (List.append_eq_nil_iff.1 e).1,λk hkm=>?_⟩;rcases List.mem_append.1 hkm with hkm|hkm
     .exact k0.2 k hkm
     .exact(ar2 rfl).2 k hkm
    .simp[iR]at h3
   all_goals
    repeat' split at h3
    all_goals first
     |(obtain⟨rfl,_⟩:=j3 h3;exact k0)
     |(simp[iR]at h3;done)
theorem KH{s:nY}{ps:List Int}(hk:Wn s)(hc:∀t∈s.tables,t.columns≠[]):∀{qs:List Query}{kss:List (List Int)},eZ s ps qs=(kss,0)->∀k∈kss,R0 k
 |[],kss,h,k,hkm=>by rw[eZ]at h;simp only[Prod.mk.injEq,and_true]at h;subst h;simp at hkm
 |q::qs,kss,h,k,hkm=>by
  obtain⟨k1,kss',h1,h2,rfl⟩:=jR h;rcases List.mem_cons.1 hkm with rfl|hkm
  .exact Oh hk hc h1
  .exact KH hk hc h2 k hkm
end
theorem N7(h:pE s){ks:List Int}(hq:bO s ps q=(ks,0)):R0 ks:=Oh (IK h) (λt ht e=>by have:=(FW h ht).2.1;rw[e]at this;simp at this) hq
def Qb(o:Int)(a b:Query):Query:=.mk o 0 gV [] [] [] [] 0 [a,b]
def vE(co:List Int)(a:Query):Query:=.mk 3 0 gV co [] [] [] 0 [a]
structure Nn(s:nY)(h:PH)(v:QV)(q:Query)(k:List Int)(b:Nat):Prop where
 rep:cT h q v
 kin:bO s [] q=(k,0)
 bnd:lV 4 q<=b
theorem Nn.mono{k:List Int}{b':Nat}(x:Nn s h v q k b)(le:PH.le h h')(hb:b<=b'):Nn s h' v q k b':=⟨x.rep.mono le,x.kin,Nat.le_trans x.bnd hb⟩
theorem TH{k:List Int}{o:Int}{a b:Query}(ho:o=6\/o=7\/o=8)(ha:bO s ps a=(k,0))(hb:bO s ps b=(k,0))(hk:k.length<=12):bO s ps (Qb o a b)=(k,0):=by
 have e:arity o=2:=by rcases ho with rfl|rfl|rfl<;>rfl
 rw[Qb,TG e ha hb];unfold iA;rw[if_neg (by simp[dE,e])];dsimp only;rw[if_neg aC,if_neg aC,if_neg aC,if_neg aC,if_neg aC,if_neg aC,if_neg aC,if_pos rfl,Fc hk]
theorem P6{s:Sl}{w:QV}{p:Query}(r:cN h s 21 [QV.enc v,QV.enc w])(hq:cT h q v)(hp:cT h p w):yU h s [q,p]:=⟨⟨[v,w],r,rfl,λi x e=>by
 match i,e with
 |0,e=>simp at e;subst e;exact⟨v,rfl,hq⟩
 |1,e=>simp at e;subst e;exact⟨w,rfl,hp⟩
 |i+2,e=>simp at e⟩,by simp⟩
theorem YL{o:Int}{s:Sl}{w:QV}{p:Query}(r:cN h s 21 [QV.enc v,QV.enc w])(hq:cT h q v)(hp:cT h p w):cT h (Qb o q p) ⟨o,0,fT,bU,bU,bU,bU,0,s⟩:=
 nW.rep ⟨rfl,rfl,zK h,iV h,nZ h,iV h,sE h,rfl,P6 r hq hp⟩
theorem Nn.op{o:Int}{sl:Sl}{w:QV}{a c:Query}{k:List Int}{b':Nat}(x:Nn s h v a k b)(y:Nn s h w c k b')(ho:o=6\/o=7\/o=8)(le:PH.le h h')(r:cN h' sl 21 [QV.enc v,QV.enc w]):Nn s h' ⟨o,0,fT,bU,bU,bU,bU,0,sl⟩ (Qb o a c) k (b+b'):=
 ⟨YL r (x.rep.mono le) (y.rep.mono le),TH ho x.kin y.kin (by have:=Ba s [] a;rw[x.kin]at this;exact this),by
  have h1:=x.bnd;have h2:=y.bnd;simp only[Qb,lV,wQ];rw[if_neg aC,if_neg aC];omega⟩
theorem Vh{st:List (List (List VV))}(hp:pE s)(h:JY s st):rW s st=0:=by
 obtain⟨hse,hne⟩:=Eu hp;have h8:=An hse;have hl:=h.len
 have hsum:∀l:List (List (List VV)),(∀x∈l,x.length<=4)->(l.map λx=>(x.length:Int)).sum<=4*(l.length:Int):=λl=>by
  induction l with
  |nil=>intro _;simp
  |cons a l ih=>
   intro hx;have:=ih λx h=>hx x (List.mem_cons_of_mem _ h);have:=hx a (List.mem_cons_self ..);simp only[List.map_cons,List.sum_cons,List.length_cons];omega
 have:=hsum st h.few;unfold rW;rw[if_neg (by simp[hse]),if_neg aC,if_neg (by simp[hl]),if_pos h.ok]
theorem Nn.res{k:List Int}{st:List (List (List VV))}(x:Nn s h v q k b)(hp:pE s)(hst:JY s st)(hs:jZ q=true):DM s st q=(xJ st q,0):=by
 unfold DM;rw[IH (Eu hp).1 hs x.kin,if_neg (by simp),if_neg (by simp[Vh hp hst])]
theorem Nn.bok{k:List Int}{st:List (List (List VV))}(x:Nn s h v q k b)(hst:JY s st)(hb:b<=1000000):To st q:=⟨4,aC,hst.few,Nat.le_trans x.bnd hb⟩
theorem WO(st:List (List (List VV)))(a b:Query):xJ st (Qb 6 a b)=US (xJ st a) (xJ st b):=by
 rw[Qb,xJ,if_neg (by decide)];rfl
theorem Se(st:List (List (List VV)))(co:List Int)(a:Query):xJ st (vE co a)=Mt co (xJ st a):=by
 rw[vE,xJ,if_neg (by decide)];rfl
theorem Nn.of{d:Nat}(r:cT h q v)(e:(fZ s [] q).2=0)(f:Kp d q):Nn s h v q (fZ s [] q).1 (gB d):=by
 obtain⟨h1,h2,h3,h4⟩:=G4 e;have e2:bO s [] q=((bO s [] q).1,0):=Prod.ext rfl h4;have e3:=IH h1 h3 e2;exact⟨r,by rw[e3];exact e2,f.b⟩
theorem jY.new(ht:jY m)(hc:m cb=none)(o:bB m m' cb):jY m':=by
 obtain⟨T,fz,e⟩:=ht;refine⟨T,fz,?_⟩;rw[o.other 1 (λe2=>by rw[<-e2,e]at hc;cases hc)];exact e
abbrev ZB(o:Int)(s:Sl):QV:=⟨o,0,fT,bU,bU,bU,bU,0,s⟩
noncomputable def YS:Ctx:=uJ Og
 [(9,{A:=Nat×List Int×Nat×bX×QV×Sl×QV×Sl×MH×PH,st:=λ⟨i,l,cb,sc,a,k,b,st,m,h⟩=>cJ 126 127 [(3,pv cb),(4,.at (.ptr 4 0)),(5,.at (.ptr 5 0)),(6,sv k),(8,.at (.ptr 8 0)),(9,.at (.ptr 9 0)),(10,.at (.lst 53)),(11,sv bU),(12,sv bU),(13,iv i)] [(4,.cells 43 (sc.enc.map .val)),(5,.cells 38 (a.enc.map .val)),(8,.cells 38 (b.enc.map .val)),(9,.cells 25 [.val (.slice st.a st.len st.cap)]),(53,.lst 3 1 (l.map eI))] m h}),
  (13,{A:=Nat×List Int×List Int×List Int×Nat×bX×QV×QV×Sl×MH×PH,st:=λ⟨i,l,lm,ln,cb,sc,a,b,st,m,h⟩=>cJ 126 127 [(3,pv cb),(4,.at (.ptr 4 0)),(5,.at (.ptr 5 0)),(8,.at (.ptr 8 0)),(9,.at (.ptr 9 0)),(10,.at (.lst 53)),(11,.at (.lst 67)),(12,.at (.lst 79)),(14,iv i)] [(4,.cells 43 (sc.enc.map .val)),(5,.cells 38 (a.enc.map .val)),(8,.cells 38 (b.enc.map .val)),(9,.cells 25 [.val (.slice st.a st.len st.cap)]),(53,.lst 3 1 (l.map eI)),(67,.lst 3 1 (lm.map eI)),(79,.lst 3 1 (ln.map eI))] m h})]
 [] [] [100083,100085,100089,100095,100100] [] false
set_option maxRecDepth 100000 in
noncomputable abbrev E7(a:Nat×List Int×Nat×bX×QV×Sl×QV×Sl×MH×PH):bX:=a.2.2.2.1
noncomputable abbrev pU(a:Nat×List Int×Nat×bX×QV×Sl×QV×Sl×MH×PH):Sl×MH×PH:=a.2.2.2.2.2.2.2
noncomputable abbrev BT(a:Nat×List Int×List Int×List Int×Nat×bX×QV×QV×Sl×MH×PH):bX:=a.2.2.2.2.2.1
noncomputable abbrev A2(a:Nat×List Int×List Int×List Int×Nat×bX×QV×QV×Sl×MH×PH):QV:=a.2.2.2.2.2.2.1
noncomputable abbrev CZ(a:Nat×List Int×List Int×List Int×Nat×bX×QV×QV×Sl×MH×PH):QV:=a.2.2.2.2.2.2.2.1
noncomputable abbrev j2(a:Nat×List Int×List Int×List Int×Nat×bX×QV×QV×Sl×MH×PH):Sl×MH×PH:=a.2.2.2.2.2.2.2.2
noncomputable abbrev pK(a:Nat×List Int×List Int×List Int×Nat×bX×QV×QV×Sl×MH×PH):List Int:=a.2.2.1
noncomputable abbrev A3(a:Nat×List Int×List Int×List Int×Nat×bX×QV×QV×Sl×MH×PH):List Int:=a.2.2.2.1
attribute [push_cast] E7 pU BT A2 CZ j2 pK A3
def SC(s:Sl)(m:MH)(h:PH)(K:CV->MH->PH->Prop):Prop:=
  ∃(s1:Sl)(c:List UInt8)(m1:Nat),aA (fL s 220=fL s1 (↑m1:Int)) (cN h s1 1 (bG c)) (aA (s1.len<=s1.cap) (jG m1) (∀(c1:Nat),fC (λm2 h1=>dK h h1 (A5 m c1) (aU (bB m m2 c1) (aK m2 h1 c1) (∃(c2:Nat),aA (vI c1=vI c2) (aK m2 h1 c2) (∀(s2:nY)(v:bX),fC (λm3 h2=>aU (pE s2) (fQ h2 s2 v) (dK h1 h2 (bB m2 m3 c2) (jQ m3 h2 c2 (∃(c3:Nat),BZ (λs3 p=>Br (λs4 p1=>∃(d:Int),aA (qB c1 0::cL (bI v) (bD lU 1)=qB c3 0::cL (bI s3) (fL p d)) (aK m3 h2 c3) (aA (fQ h2 s4 s3) (eD s4=0) (aA (jP (s4.tables=[])) (Ints h2 p p1) (aA (fI p1) (dX (DX p1)) (aH (Int.negSucc 0<=d) (d<=1000) ((d+1).toNat<5) (DV (λw q=>fC (λm4 h3=>dK h2 h3 (cT h3 q w) (aU (QW q) (xI
 d.toNat q) (aU ((fZ s4 p1 q).2=0) (bB m3 m4 c3) (jQ m4 h3 c3 (EN (cL (bI v) (dZ lU (bV w))) h3 (λ_ _ _ s5 h4=>∃(c4:Nat)(s6:bX),iZ (λp2 k=>∃(v1:QV),Br (λs7 p3=>∃(k1:List Int)(q1:Query),aA (qB c1 0::cL (bI v) (lU::fK s5 (bV w))=qB c4 0::cL (bI s6) (cH p2 (fK k (bV v1)))) (aK m4 h4 c4) (aA (fQ h4 s7 s6) (mS s7) (aA (jG s7.tables.length) (Ints h4 p2 p3) (aA (fI p3) (Ints h4 k k1) (aH (fI k1) (cT h4 q1 v1) (QW q1) (DV (λw1 q2=>fC (λm5 h5=>dK h4 h5 (cT h5 q2 w1) (aU (SY s7 p3 k1 q1 q2) (bB m4 m5 c4) (jQ m5 h5 c4 (∃(c5:Nat),iU (λv2 s8=>aA (qB c1 0::bD (jI (bI v)) 3=qB c5 0::bD (jI (bI v2)) 3) (aK m5 h5 c5) (aA (fQ h5 s8 v2) (pE s8) (∀(s9:List (List
 (List VV)))(a:Sl),fC (λm6 h6=>dK h5 h6 (FF h6 a s9) (aU (JY s8 s9) (bB m5 m6 c5) (jQ m6 h6 c5 (gZ c1 3 m6 h6 (λk2 m7=>∃(I:Nat×List Int×Nat×bX×QV×Sl×QV×Sl×MH×PH->Prop)(m8:Nat×List Int×Nat×bX×QV×Sl×QV×Sl×MH×PH->Nat),(∃(x:Nat×List Int×Nat×bX×QV×Sl×QV×Sl×MH×PH),aA (I x) (cV c1 x.2.2.1) (aA (eP 4) eM (aA (bF s5 x.2.2.2.2.2.1) eE (aA (eP 9) (eL 53) (aA (eQ WJ) (eQ WJ) (aA (fY (aT (1+k2))=bZ x.1) (mI v (E7 x)) (aA (eN w x.2.2.2.2.1) (eN w1 x.2.2.2.2.2.2.1) (aA (vL (pW a) (pU x)) (nG x.2.1) (cA (bK m7 (pU x).2) h6 (dM (pU x)))))))))))/\∀(x:Nat×List Int×Nat×bX×QV×Sl×QV×Sl×MH×PH),I x->dV (↑x.1:Int) 0 (gZ x.2.2.1 (aG x.2.2.2.2.2.1) (iM (pU
 x)) (dM (pU x)) (λk3 m9=>pR (eF x.2.1) 8 (∃(x1:Nat×List Int×Nat×bX×QV×Sl×QV×Sl×MH×PH),aA (I x1) (m8 x1<m8 x) (aA (cV x.2.2.1 x1.2.2.1) (eP 4) (aA eM (bF x.2.2.2.2.2.1 x1.2.2.2.2.2.1) (aA eE (eP 9) (aA (eL 53) (eQ WJ) (aA (eQ WJ) (fY (aT ((↑x.1:Int)-1))=bZ x1.1) (aA (mI (E7 x) (E7 x1)) (eN x.2.2.2.2.1 x1.2.2.2.2.1) (aA (eN x.2.2.2.2.2.2.1 x1.2.2.2.2.2.2.1) (vL (pW (pU x).1) (pU x1)) (aH (nH x.2.1 k3 x1.2.1) (bK m9 (pU x1).2) (dM (pU x)=dM (pU x1)) True))))))))))) (gZ x.2.2.1 3 (iM (pU x)) (dM (pU x)) (λk3 m9=>∃(I1:Nat×List Int×List Int×List Int×Nat×bX×QV×QV×Sl×MH×PH->Prop)(a1:Nat×List Int×List Int×List Int×Nat×bX×QV×QV×Sl×MH×PH->Nat),(∃(x1:Nat×
 List Int×List Int×List Int×Nat×bX×QV×QV×Sl×MH×PH),aA (I1 x1) (cV x.2.2.1 x1.2.2.2.2.1) (aA (eP 4) eM (aA eE (eP 9) (aA (eL 53) (eL 67) (aA (eL 79) (fY (aT (1+k3))=bZ x1.1) (aA (mI (E7 x) (BT x1)) (eN x.2.2.2.2.1 (A2 x1)) (aA (eN x.2.2.2.2.2.2.1 (CZ x1)) (vL (pW (pU x).1) (j2 x1)) (aA (mY x.2.1=mY x1.2.1) (nG (pK x1)) (aH (nG (A3 x1)) (bK m9 (j2 x1).2) (dM (pU x)=dM (j2 x1)) True)))))))))/\∀(x1:Nat×List Int×List Int×List Int×Nat×bX×QV×QV×Sl×MH×PH),I1 x1->dV (↑x1.1:Int) 0 (gZ x1.2.2.2.2.1 (iL (eF x1.2.1)) (iM (j2 x1)) (dM (j2 x1)) (λk4 a2=>aA (xQ (pK x1)) (gS (eF (pK x1))) (aA (cD (mG (iL (eB (eF (pK x1))
 (bN k4))))) (mG (iL (eB (eF (pK x1)) (bN k4)))<iL (eB (eF (pK x1)) (bN k4))) (∃(e:List Value),rK (eB (eF (pK x1)) (bN k4)) (mG (iL (eB (eF (pK x1)) (bN k4)))).toNat e/\∃(y:Int),aH (AJ 1 e (bN y)) (0<=y) (y<iL (eF x1.2.1)) (∃(e1:List Value),rK (eF x1.2.1) y.toNat e1/\∃(y1:Int),aH (AJ 1 e1 (bN y1)) (xQ (A3 x1)) (gS (eF (A3 x1))) (∃(x2:Nat×List Int×List Int×List Int×Nat×bX×QV×QV×Sl×MH×PH),aA (I1 x2) (a1 x2<a1 x1) (aA (cV x1.2.2.2.2.1 x2.2.2.2.2.1) (eP 4) (aA eM eE (aA (eP 9) (eL 53) (aA (eL 67) (eL 79) (aA (fY (aT ((↑x1.1:Int)-1))=bZ x2.1) (mI (BT x1) (BT x2)) (aA (eN (A2 x1) (A2 x2)) (eN (CZ x1) (CZ
 x2)) (aA (vL (pW (j2 x1).1) (j2 x2)) (mY x1.2.1=mY x2.2.1) (pJ (nH (pK x1) k4 (pK x2)) (nH (A3 x1) y1 (A3 x2)) (bK a2 (j2 x2).2) (dM (j2 x1)) (dM (j2 x2)))))))))))))))) (bM (dM (j2 x1)) 21 (eX (A2 x1).enc) (λa2 h7=>bM h7 1 (eF x1.2.1) (λa3 h8=>bM h8 21 (eX (tC a3 a2)) (λa4 h9=>bM h9 21 (eX (A2 x1).enc) (λa5 a6=>∃(o:Int)(v3 w2:QV),eK 6::dZ (bV (A2 x1)) (bV (CZ x1))=eK o::dZ (bV v3) (bV w2)/\bM a6 21 (v3.enc::eX w2.enc) (λa7 a8=>bM a8 21 (eX (aL (dY o) bC (aL bC bC (aL bC bC (aL bC bC (sL tZ (zA (aR a7)))))))) (λa9 b=>bM b 21 (eX (CZ x1).enc) (λb1 b2=>bM b2 1 (eF (A3 x1)) (λb3 b4=>∃
 (o1:Int)(v4 w3:QV),eK 6::jE (tC b3 a5) (tC b3 b1)=eK o1::dZ (bV v4) (bV w3)/\bM b4 21 (v4.enc::eX w3.enc) (λb5 b6=>aA (([]:List CV)=[]) (jY (iM (j2 x1))) (bM b6 1 (eF (pK x1)) (λb7 b8=>iU (λv5 b9=>w8 (λc6 c7=>lQ (λw4 q3=>aA (cL (bI (BT x1)) (jE (aR (j2 x1).1) (tC b7 a4))=cL (bI v5) (yE c6 w4)) (fQ b8 b9 v5) (aA (FF b8 c6 c7) (cT b8 q3 w4) (A4 q3 (iM (j2 x1)) b9 c7 (lC (λc8 c9=>dK b8 c9 (Rows c9 c8 (DM b9 c7 q3).1) (iU (λv6 d1=>w8 (λd2 d3=>lQ (λw5 q4=>aA (cL (bI (BT x1)) (jE (aR (j2 x1).1) (tC b3 a5))=cL (bI v6) (yE d2 w5)) (fQ c9 d1 v6) (aA (FF c9 d2 d3) (cT c9 q4 w5) (A4 q4 (iM (j2 x1)) d1 d3 (lC (λd4
 d5=>dK c9 d5 (Rows d5 d4 (DM d1 d3 q4).1) (iZ (λd6 t=>∃(d7 d8:List (List VV)),aH (eY c8 d4=eY d6 t) (Rows d5 d6 d7) (Rows d5 t d8) (∀(r:Bool),gQ (dX r↔d7=d8) r (iU (λv7 d9=>w8 (λe e1=>lQ (λw6 q5=>aA (cL (bI (BT x1)) (jE (aR (j2 x1).1) (tC b3 a9))=cL (bI v7) (yE e w6)) (fQ d5 d9 v7) (aA (FF d5 e e1) (cT d5 q5 w6) (A4 q5 (iM (j2 x1)) d9 e1 (lC (λe2 e3=>dK d5 e3 (Rows e3 e2 (DM d9 e1 q5).1) (iU (λv8 e4=>w8 (λe5 e6=>lQ (λw7 q6=>aA (cL (bI (BT x1)) (jE (aR (j2 x1).1) (aL (dY o1) bC (aL bC bC (aL bC bC (aL bC bC (sL tZ (zA (aR b5))))))))=cL (bI v8) (yE e5 w7)) (fQ e3 e4 v8) (aA (FF e3 e5 e6) (cT e3 q6 w7) (A4 q6 (iM (j2
 x1)) e4 e6 (lC (λe7 e8=>dK e3 e8 (Rows e8 e7 (DM e4 e6 q6).1) (iZ (λe9 t1=>∃(f f1:List (List VV)),aH (eY e2 e7=eY e9 t1) (Rows e8 e9 f) (Rows e8 t1 f1) (∀(r1:Bool),(dX r1↔f=f1)->K (Ag r1) (iM (j2 x1)) e8))))))))))))))))))) (K aY (iM (j2 x1)) d5)))))))))))))))))))))))))))))))))))))))))))))))))))))))))))))))))))))))))))))
abbrev Tz(c s:Sl):QV:=⟨3,0,fT,c,bU,bU,bU,0,s⟩
theorem Nn.pro{c sl:Sl}{a:Query}{k:List Int}(x:Nn s h v a k b)(hc:Ints h' c co)(h0:co≠[])(hi:∀c∈co,BA k c=true)(hl:co.length<=12)(le:PH.le h h')(r:cN h' sl 21 [QV.enc v]):Nn s h' (Tz c sl) (vE co a) (co.map λc=>k.getD c.toNat 0) b:=
 ⟨BN hc (wJ r (x.rep.mono le)),DC x.kin h0 hi hl,by
  have h1:=x.bnd;simp only[vE,lV,wQ];rw[if_neg aC,if_neg aC];omega⟩
theorem Vl:Sound Tryz.prog 8 Zs:=by
 refine hX Tryz.func8 ?_;rintro cvs m h K ⟨s,cs,rfl,hr,hcap,ht,hK⟩;refine⟨YS,rfl,TF,SC s m h K,by kernel_rfl,?_⟩;dsimp only[SC,push_cast];refine⟨s,cs,220,rfl,hr,hcap,aC,λcb m1 h1 le1 hcb o1 c1=>⟨cb,rfl,c1,λsc v m2 h2 hpl rS le2 o2 c2=>?_⟩⟩;obtain⟨hse,hne⟩:=Eu hpl;have h8t:=An hse;have h8:=sF hse;refine⟨cb,v,bU,sc,[],1,rfl,c2,rS,hse,hne,iV _,by simp,by simp,aC,aC,by decide,λa qa m3 h3 le3 rq qw fq hq o3 c3=>⟨v,bU,a,sc,[],qa,rfl,rS.mono le3,iV _,rq,λks h4 le4 hks=>?_⟩⟩;have fq:xI 1 qa:=fq;have A0:=Nn.of rq hq fq.arg;have hkl:=DO sc [] qa;generalize (fZ sc [] qa).1=kl at hks A0 hkl;obtain⟨kn,kc⟩:=N7 hpl A0.kin;have hsk:=IK hpl;have hcn:FJ []:=λk hk=>by simp at hk
 have c4:=c3.mono le4;have rS4:=rS.mono (le3.trans le4);have rq4:=rq.mono le4;have o4:=(o1.trans o2).trans o3;have hkl0:0<kl.length:=List.length_pos_iff.2 kn;refine⟨cb,v,bU,ks,a,sc,[],kl,qa,rfl,c4,rS4,h8,aC,iV _,by simp,hks,aC,rq4,qw,λb qb m5 h5 le5 rb shb o5 c5=>?_⟩;refine⟨cb,v,sc,rfl,c5,rS4.mono le5,hpl,λst sl m7 h7 le7 hst good o7 c7=>⟨cb,3,rfl,c7,λk m8 hk0 hk1 o8 c8=>?_⟩⟩;have l7:PH.le h4 h7:=le5.trans le7;have A:Nn sc h7 a qa kl 16:=A0.mono (le4.trans l7) (by decide);have B:Nn sc h7 b qb kl 16:=⟨rb.mono le7,shb.kin hsk hcn kc kn hkl A.kin,(shb.siz 1 fq).b⟩
 have rS7:=rS4.mono l7;have o9:=((o4.trans o5).trans o7).trans o8;have na:=fq.arg.n;have da:=fq.arg.d;have nb:=(shb.siz 1 fq).n;have db:=(shb.siz 1 fq).d;simp only[gN,gD]at na da nb db;have hslk:=hks.slen;obtain⟨kn0,rfl⟩:∃n:Nat,k=n:=⟨k.toNat,aC⟩
 have hw0:IntKind.i64.wrap (1+(kn0:Int))=((1+kn0:Nat):Int):=by
  rw[show(1:Int)+(kn0:Int)=((1+kn0:Nat):Int)by omega];exact dJ aC aC
 refine⟨λz=>∃mx,z=(z.1,z.2.1,cb,v,a,ks,b,sl,mx,h7)/\z.2.1.length+z.1=1+kn0/\(∀c∈z.2.1,BA kl c=true)/\aK mx h7 cb/\bB m mx cb,λz=>z.1,⟨(1+kn0,[],cb,v,a,ks,b,sl,m8,h7),⟨m8,rfl,by simp,by simp,c8,o9⟩,by rw[hw0];exact MT⟩,?_⟩;rintro⟨i,l,cb',v',a',ks',b',sl',mx,hx⟩ ⟨_,e,hil,hl,cx,ox⟩;simp only[Prod.mk.injEq,true_and]at e;obtain⟨rfl,rfl,rfl,rfl,rfl,rfl,rfl,rfl⟩:=e;dsimp only at hil hl⊢
 refine aE (λhlt=>?_) (λhge=>?_)
 .have hwi:IntKind.i64.wrap ((i:Int)-1)=((i-1:Nat):Int):=by
   rw[show(i:Int)-1=((i-1:Nat):Int)by omega];exact dJ aC aC
  rw[hwi];refine⟨cb',_,rfl,cx,λc m9 hc0 hc1 o10 c10=>⟨by rw[List.length_map];omega,by rw[List.length_map];omega,(i-1,l++[c],cb',v',a',ks',b',sl',m9,hx),⟨m9,rfl,by simp only[List.length_append,List.length_singleton];omega,λx hx=>?_,c10,ox.trans o10⟩,by show i-1<i;omega,by rw[List.map_append];exact MT⟩⟩;rcases List.mem_append.1 hx with hx|hx
  .exact hl x hx
  .rw[List.mem_singleton.1 hx];simp only[BA,Bool.and_eq_true,decide_eq_true_eq];omega
 have hi0:i=0:=by omega
 subst hi0;refine⟨cb',3,rfl,cx,λk2 m9 hk20 hk21 o10 c10=>?_⟩;obtain⟨kn2,rfl⟩:∃n:Nat,k2=n:=⟨k2.toNat,aC⟩
 have hw2:IntKind.i64.wrap (1+(kn2:Int))=((1+kn2:Nat):Int):=by
  rw[show(1:Int)+(kn2:Int)=((1+kn2:Nat):Int)by omega];exact dJ aC aC
 refine⟨λz=>∃mx,z=(z.1,l,z.2.2.1,z.2.2.1.map (λc=>l.getD c.toNat 0),cb',v',a',b',sl',mx,hx)/\z.2.2.1.length+z.1=1+kn2/\(∀c∈z.2.2.1,0<=c/\c<l.length)/\aK mx hx cb'/\bB m mx cb',λz=>z.1,⟨(1+kn2,l,[],[],cb',v',a',b',sl',m9,hx),⟨m9,rfl,by simp,by simp,c10,ox.trans o10⟩,by rw[hw2];exact MT⟩,?_⟩;rintro⟨i,l',lm,ln,cb2,v2,a2,b2,sl2,mz,hz⟩ ⟨_,e,him,hm,cz,oz⟩;simp only[Prod.mk.injEq,true_and]at e;obtain⟨rfl,rfl,rfl,rfl,rfl,rfl,rfl,rfl,rfl⟩:=e;dsimp only at him hm⊢
 refine aE (λhlt=>?_) (λhge=>?_)
 .have hwi:IntKind.i64.wrap ((i:Int)-1)=((i-1:Nat):Int):=by
   rw[show(i:Int)-1=((i-1:Nat):Int)by omega];exact dJ aC aC
  rw[hwi];refine⟨cb2,_,rfl,cz,λc m10 hc0 hc1 o11 c11=>?_⟩;rw[List.length_map]at hc1;have hcl:c<l'.length:=by omega
  have hcn:c.toNat<l'.length:=by omega
  have hwl:IntKind.i64.wrap ((((lm.map eI++[[Value.int .i64 c]]).length:Nat):Int)-1)=(lm.length:Int):=by
   rw[List.length_append,List.length_map,List.length_singleton];rw[show(((lm.length+1:Nat):Int)-1)=(lm.length:Int)by omega];exact dJ aC aC
  rw[hwl];refine⟨by rw[List.length_map];omega,by rw[List.length_map];omega,aC,by rw[List.length_append,List.length_map,List.length_singleton];omega,[.int .i64 c],by rw[List.getElem?_append_right (by simp)];simp,c,rfl,hc0,by rw[List.length_map];omega,eI (l'.getD c.toNat 0),by rw[List.getElem?_map,List.getD_eq_getElem?_getD,List.getElem?_eq_getElem hcn];rfl,l'.getD c.toNat 0,rfl,by rw[List.length_map,List.length_map];omega,by rw[List.length_map,List.length_map];omega,(i-1,l',lm++[c],lm.map (λc=>l'.getD c.toNat 0)++[l'.getD c.toNat 0],cb2,v2,a2,b2,sl2,m10,hz),⟨m10,by rw[List.map_append];rfl,by simp only[List.length_append,List.length_singleton];omega,λx hx=>?_,c11,oz.trans o11⟩,by show i-1<i;omega,?_⟩
  .rcases List.mem_append.1 hx with hx|hx
   .exact hm x hx
   .rw[List.mem_singleton.1 hx];omega
  .rw[List.map_append,List.map_append];exact MT
 have hi0:i=0:=by omega
 subst hi0;have ht7:=ht.new hcb oz;have hsub:Sub m mz:=λb o e=>by rw[oz.other b (λe2=>by rw[e2,hcb]at e;cases e)];exact e
 have hl0:l'≠[]:=λe=>by have e2:=congrArg List.length e;rw[List.length_nil]at e2;omega
 have hm0:lm≠[]:=λe=>by have e2:=congrArg List.length e;rw[List.length_nil]at e2;omega
 have hlm:∀c∈lm,BA (l'.map λc=>kl.getD c.toNat 0) c=true:=λc hc=>by
  have:=hm c hc;simp only[BA,List.length_map,Bool.and_eq_true,decide_eq_true_eq];omega
 generalize hln:lm.map (λc=>l'.getD c.toNat 0)=ln;have hn0:ln≠[]:=λe=>hm0 (List.map_eq_nil_iff.1 (hln.trans e));have hlen:ln.length=lm.length:=by rw[<-hln,List.length_map]
 have hnk:∀c∈ln,BA kl c=true:=λc hc=>by
  rw[<-hln]at hc;obtain⟨d,hd,rfl⟩:=List.mem_map.1 hc;have hd2:=hm d hd;rw[List.getD_eq_getElem?_getD,List.getElem?_eq_getElem (show d.toNat<l'.length by omega)];exact hl _ (List.getElem_mem _)
 intro s1 g1 e1 r1 s2 g2 e2 r2 s3 g3 e3 r3 s4 g4 e4 r4;refine⟨6,a2,b2,rfl,λs5 g5 e5 r5 s6 g6 e6 r6 s7 g7 e7 r7 s8 g8 e8 r8=>⟨6,Tz s8 s4,Tz s8 s7,rfl,λs9 g9 e9 r9=>⟨rfl,ht7,λs10 g10 e10 r10=>?_⟩⟩⟩;have P1:=A.pro (co:=l') (c:=s2) ⟨r2,aC⟩ hl0 hl aC (e1.trans e2) (r1.mono e2);have P2:=P1.pro (co:=lm) (c:=s10) (h':=g10) (sl:=s3) ⟨r10,aC⟩ hm0 hlm aC (e3.trans (e4.trans (e5.trans (e6.trans (e7.trans (e8.trans (e9.trans e10))))))) (r3.mono (e4.trans (e5.trans (e6.trans (e7.trans (e8.trans (e9.trans e10)))))));have L4:PH.le hz g4:=e1.trans (e2.trans (e3.trans e4));have L5:PH.le hz g5:=L4.trans e5;have L7:PH.le hz g7:=L5.trans (e6.trans e7);have L8:PH.le hz g8:=L7.trans e8;have L10:PH.le hz g10:=L8.trans (e9.trans e10);have N1:=A.pro (co:=ln) (c:=s8) ⟨r8,aC⟩ hn0 hnk aC L8 (r4.mono (e5.trans (e6.trans (e7.trans e8))));have N2:=B.pro (co:=ln) (c:=s8) ⟨r8,aC⟩ hn0 hnk aC L8 (r7.mono e8);have U1:=N1.op N2 (.inl rfl) e9 r9;have U2:=A.op B (.inl rfl) L5 r5;have U3:=U2.pro (co:=ln) (c:=s8) (h':=g8) (sl:=s6) ⟨r8,aC⟩ hn0 hnk aC (e6.trans (e7.trans e8)) (r6.mono (e7.trans e8));have s1':jZ (vE lm (vE l' qa))=true:=El (by simp only[vE,rT,nR];omega) (by simp only[vE,Bj,uI];omega);have s2':jZ (vE ln qa)=true:=El (by simp only[vE,rT,nR];omega) (by simp only[vE,Bj,uI];omega);have s3':jZ (vE ln (Qb 6 qa qb))=true:=El (by simp only[vE,Qb,rT,nR];omega) (by simp only[vE,Qb,Bj,uI];omega);have s4':jZ (Qb 6 (vE ln qa) (vE ln qb))=true:=El (by simp only[vE,Qb,rT,nR];omega) (by simp only[vE,Qb,Bj,uI];omega)
 have law1:xJ st (vE lm (vE l' qa))=xJ st (vE ln qa):=by
  simp only[Se];rw[WU hm,hln]
 have law2:xJ st (vE ln (Qb 6 qa qb))=xJ st (Qb 6 (vE ln qa) (vE ln qb)):=by
  simp only[Se,WO];exact WT _ _ _
 have hst10:=hst.mono L10;have rS10:=rS7.mono L10;refine⟨v2,sc,sl2,st,Tz s10 s3,_,rfl,rS10,hst10,P2.rep,s1',ht7,λ_ _=>P2.bok good (by decide),λt1 k1 f1 q1=>⟨v2,sc,sl2,st,Tz s8 s4,_,rfl,rS10.mono f1,hst10.mono f1,N1.rep.mono (e9.trans (e10.trans f1)),s2',ht7,λ_ _=>N1.bok good (by decide),λt2 k2 f2 q2=>?_⟩⟩;rw[P2.res hpl good s1']at q1;rw[N1.res hpl good s2']at q2;refine⟨t1,t2,_,_,rfl,bY.mono q1 f2 λr t hv=>cK.mono hv f2,q2,λr hr=>?_⟩;rw[hr.2 law1];refine⟨v2,sc,sl2,st,Tz s8 s6,_,rfl,rS10.mono (f1.trans f2),hst10.mono (f1.trans f2),U3.rep.mono (e9.trans (e10.trans (f1.trans f2))),s3',ht7,λ_ _=>U3.bok good (by decide),λt3 k3 f3 q3=>⟨v2,sc,sl2,st,ZB 6 s9,_,rfl,rS10.mono (f1.trans (f2.trans f3)),hst10.mono (f1.trans (f2.trans f3)),U1.rep.mono (e10.trans (f1.trans (f2.trans f3))),s4',ht7,λ_ _=>U1.bok good (by decide),λt4 k4 f4 q4=>?_⟩⟩;rw[U3.res hpl good s3']at q3;rw[U1.res hpl good s4']at q4;refine⟨t3,t4,_,_,rfl,bY.mono q3 f4 λr t hv=>cK.mono hv f4,q4,λr hr=>?_⟩;rw[hr.2 law2];exact hK _ _ hsub
end Go.Ps
