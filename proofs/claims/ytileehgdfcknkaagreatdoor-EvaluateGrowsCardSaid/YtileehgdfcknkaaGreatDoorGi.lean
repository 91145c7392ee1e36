/-
  Part 9 of a proof that a law of the given program returns true: a condition generator that is proved sound, and contracts of functions. No condition of its own. Own work, joined by a program (pack2.py).
-/
import Derived.Test.YtileehgdfcknkaaGreatDoorGh
set_option linter.unusedVariables false
set_option linter.unusedSimpArgs false
namespace Go.Ps
open Go Go.Vc Go.Proofs
variable{K:CV->MH->PH->Prop}{m:MH}{h:PH}{s:nY}{ps:List Int}{cb:Nat}{sc:bR}{v:QV}{q:Query}{p:Pred}{l:List Int}{i:Nat}{N:Nat}{m':MH}{h':PH}{co:List Int}{gr:List Int}{od:List (Int×Bool)}{w:Pred}{ta:Int}{li:Int}{xs:List (List Value)}{sz:Nat}{k:Nat}{ks:List (List Int)}{rs:List Int}{r:Sl}{a:List Int}{b:Nat}
structure Nd(s:nY)(st:List (List (List VV))):Prop where
 len:st.length=s.tables.length
 few:∀l∈st,l.length<=4
 ok:Iy s st
 val:Zo st
def Wo:Vc.Spec:=λcvs m h K=>∃cb v s,cvs=[cP cb,aS v,cI 3]/\aM m h cb/\gS h s v/\uO s/\∀st sl m' h',PH.le h h'->Hz h' sl st->Nd s st->bA m m' cb->aM m' h' cb->K (Yr sl) m' h'
noncomputable def XV(cb:Nat)(v:bR):Ctx:=uM [(15,FB),(44,rX),(43,Zq),(46,WG),(45,Zs)]
 [(3,{A:=Nat×Sl×MH×PH,st:=λ⟨i,s,m,h⟩=>cD 51 54 [(0,pv cb),(2,iv 3),(4,.at (.ptr 4 0)),(6,.at (.ptr 6 0)),(7,.at (.ptr 7 0)),(18,iv v.tables.len),(19,iv i)] [(4,.cells 43 (v.enc.map .val)),(6,.cells 25 [.val cF.val]),(7,.cells 25 [.val (.slice s.a s.len s.cap)])] m h}),
  (6,{A:=Nat×Int×Sl×MH×PH,st:=λ⟨i,n,s,m,h⟩=>cD 51 54 [(0,pv cb),(2,iv 3),(4,.at (.ptr 4 0)),(6,.at (.ptr 6 0)),(7,.at (.ptr 7 0)),(8,iv i),(9,iv n),(18,iv v.tables.len),(19,iv i)] [(4,.cells 43 (v.enc.map .val)),(6,.cells 25 [.val cF.val]),(7,.cells 25 [.val (.slice s.a s.len s.cap)])] m h})] [] [] [2023] [] false
abbrev EG(a:List At)(b:Sl):Prop:=oQ 25 a=oQ 25 (jR (uC b))
noncomputable abbrev rN(a:Nat×Sl×MH×PH):Nat->Nat->Option Value:=a.2.2.2
noncomputable abbrev nN(a:Nat×Int×Sl×MH×PH):Sl×MH×PH:=a.2.2
attribute [push_cast] EG rN nN
def JG(cb:Nat)(v:bR)(m:MH)(h:PH)(K:CV->MH->PH->Prop):Prop:=
  aA (cG (hU v)) (hU v<=hU v) (aA (sN (hU v*24)) (sN (hU v)) (iA (λs m1=>mU m m1 h s 53 1 (List.replicate (hU v).toNat iL)->∃(I:Nat×Sl×MH×PH->Prop)(m2:Nat×Sl×MH×PH->Nat),(∃(x:Nat×Sl×MH×PH),aA (I x) (dG cb) (aA lT (eP 4) (aA (eP 6) (eP 7) (aA (gQ v) (aZ x.1) (aA (bL v) oE (aA (EG (jR (uC s)) x.2.1) (bG m1 x.2.2) (bN h (rN x))))))))/\∀(x:Nat×Sl×MH×PH),I x->aW (↑x.1:Int) (aG v.tables) (jF cb 5 (jH x.2) (rN x) (λk m3=>∃(I1:Nat×Int×Sl×MH×PH->Prop)(m4:Nat×Int×Sl×MH×PH->Nat),(∃(x1:Nat×Int×Sl×MH×PH),aA (I1 x1) (dG cb) (aA lT (eP 4) (aA (eP 6) (eP 7) (aA (bX x.1 x1.1) (cL k x1.2.1) (aA (gQ v) (bX x.1 x1.1) (aA (bL v) oE (aH
 (EG (jR (uC x.2.1)) (nN x1).1) (bG m3 (nN x1).2) (rN x=(nN x1).2.2) True)))))))/\∀(x1:Nat×Int×Sl×MH×PH),I1 x1->eX x1.2.1 0 (bD (λb o=>aH (bE (oU v) b o) (0<=(↑x1.1:Int)) ((↑x1.1:Int)<aG v.tables) (∃(y:Int),aA (aL (jH (nN x1)) (nN x1).2.2 b (bF o x1.1 5+2) (bW y)) (aX (nN x1).2.2 b (bF o x1.1 5+2) (bW y)) (xU (cJ (jK (cA v)) (↑x1.1:Int)) (nN x1).2.2 (λs1 h1=>∃(c:Nat)(s2:Sl)(k1:Int)(k2:List Int),aA (qJ cb 0::cW s1 (cJ (fH y) 3)=qJ c 0::cW s2 (cJ (fH k1) 3)) (aM (jH (nN x1)) h1 c) (aA (Ints h1 s2 k2) (gE k2) ((∀(k3:Int),List.Mem k3 k2->k3=3\/k3=4\/k3=5)/\∀(s3:Sl)(r:List VV),fU (λm5 h2=>dE h1 h2 (cC h2 s3 r) (aR (No k1 k2 r) (bA (jH
 (nN x1)) m5 c) (kA m5 h2 c (jW (λv1 s4=>∃(t:Int),kP (λs5 r1=>aA (cE (cA v) (bK (fH (↑x1.1:Int)) (lY s3))=cE (cA v1) (bK (fH t) (lY s5))) (gS h2 s4 v1) (aA (cC h2 s5 r1) (wS r1) (∀(s6:Sl)(h3:PH),dE h2 h3 (cC h3 s6 (E7 s4 t r1)) (jW (λv2 s7=>bD (λt1 n=>I7 (λc1 u=>∃(u1:Sl)(t2:Nat)(t3:uD)(r2:List (List VV)),kP (λs8 k3=>kP (λs9 r3=>aA (cE (cA v) (cE (aK (nN x1).1) (fH (↑x1.1:Int)::gJ s6 s3))=cE (cA v2) (cE (iR (Value.slice (kC t1) n c1)) (fH (↑t2:Int)::gJ s8 s9))) (gS h3 s7 v2) (aA (H0 s7 t2 t3) (UR m5 t1 u) (aA (n=u.length) (sJ u t2 u1) (aA (Rows h3 u1 r2) (mO r2.length) (aA (AV r2 (λr4=>wS r4)) (cC h3 s8 k3) (aA (cC h3 s9 r3) (0<r3.length)
 (wS r3/\∀(u2:Sl),fU (λm6 h4=>dE h3 h4 (Rows h4 u2 (wQ t3 k3 r3 false r2)) (aR (UR m6 t1 (List.set u t2 u2)) (bA m5 m6 t1) (∃(x2:Nat×Int×Sl×MH×PH),aA (I1 x2) (m4 x2<m4 x1) (aA (dG cb) lT (aA (eP 4) (eP 6) (aA (eP 7) (bX x1.1 x2.1) (aA (cL (iN (x1.2.1-1)) x2.2.1) (gQ v) (aA (bX x1.1 x2.1) (bL v) (aA oE (EG (jR (At.val (Value.slice (kC t1) n c1))) (nN x2).1) (aA (bG m6 (nN x2).2) (h4=(nN x2).2.2) True))))))))))))))))))))))))))))))))))))) (∃(x2:Nat×Sl×MH×PH),aA (I x2) (m2 x2<m2 x) (aA (dG cb) lT (aA (eP 4) (eP 6) (aA (eP 7) (gQ v) (aA (fV (bB x1.1 1)=bM x2.1) (bL v) (aA oE (EG (jR (uC (nN x1).1)) x2.2.1) (bT (bG (jH (nN x1)) x2.2.2) (nN x1).2.2 (rN x2)))))))))) (K (jK
 (aK x.2.1)) (jH x.2) (rN x)))))
theorem dJ.iceB{m1:MH}{hx:PH}{r:CV}{tb:Nat}{cur:Array Value}{E:TypeId}(hcur:m1 tb=some (.cells cur E (0,0)))(le:PH.le h hx)(hK:∀h2,PH.le hx h2->(∀i,h2 tb i=cur[i]?)->K r (λb=>if b=tb then none else m1 b) h2):dJ h K r m1 hx:=by
 intro hdis;have hg0:∀i,hx tb i=none:=hdis tb _ hcur
 have hle3:PH.le hx (λx i=>if x=tb then cur[i]? else hx x i):=⟨λx i v e=>by
  have:x≠tb:=λe'=>by rw[e',hg0 i]at e;cases e
  simp[this,e]⟩
 refine⟨_,_,λb o e=>?_,le.trans hle3,λx i v e=>?_,hK _ hle3 (λi=>by simp)⟩
 .by_cases e':b=tb
  .simp[e']at e
  .simpa[e']using e
 .by_cases e':x=tb
  .subst e';simp at e;exact .inr ⟨cur,E,(0,0),hcur,e,by simp⟩
  .simp[e']at e;exact .inl e
structure Yg(h:PH)(s:nY)(m:MH)(tb:Nat)(us:List Sl)(st:List (List (List VV))):Prop where
 tbl:UR m tb us
 ulen:us.length=s.tables.length
 slen:st.length=s.tables.length
 rows:∀(j:Nat) u l,us[j]? =some u->st[j]? =some l->Rows h u l
 ok:Iy s st
 val:Zo st
 few:∀l∈st,l.length<=4
theorem Yg.mono{tb:Nat}{us:List Sl}{st:List (List (List VV))}(x:Yg h s m tb us st)(le:PH.le h h')(e:m' tb=m tb):Yg h' s m' tb us st:=by
 obtain⟨cur,h1,h2,h3⟩:=x.tbl;exact⟨⟨cur,by rw[e];exact h1,h2,h3⟩,x.ulen,x.slen,λj u l a b=>bH.mono (x.rows j u l a b) le λr t hv=>cC.mono hv le,x.ok,x.val,x.few⟩
theorem W7{t:uD}{r:List VV}(h:No t.key (t.columns.map mA.kind) r):Be t r=true:=by
 obtain⟨h1,_,h3⟩:=h;rw[List.length_map]at h1;refine B8.2 ⟨h1,λi hi=>?_⟩;have e1:r[i]? =some (r.getD i zeroV):=by rw[List.getD_eq_getElem?_getD,List.getElem?_eq_getElem hi];rfl
 refine h3 i _ _ e1 ?_;rw[List.getElem?_map,List.getD_eq_getElem?_getD,List.getElem?_eq_getElem aC];rfl
theorem Vo{key k:Int}{v:VV}(h:uY key k i v=true)(hw:Hx v):Nl v.kind/\Nl v.int:=by
 simp only[uY,Bool.and_eq_true]at h;have:=GU h.1;exact⟨⟨aC,aC⟩,hw.int_⟩
theorem Yg.put{tb t:Nat}{us:List Sl}{st:List (List (List VV))}{u':Sl}{tab:uD}{l:List (List VV)}{row:List VV}(x:Yg h s m tb us st)(le:PH.le h h')(ht:s.tables[t]? =some tab)(hl:st[t]? =some l)(hT:UR m' tb (us.set t u'))(hr:Rows h' u' (wQ tab (jT tab row) row false l))(hf:No tab.key (tab.columns.map mA.kind) row)(h4:l.length<=3):
 Yg h' s m' tb (us.set t u') (st.set t (wQ tab (jT tab row) row false l)):=by
 have hfr:=W7 hf;have htl:=(List.getElem?_eq_some_iff.1 hl).1;have hok:=x.ok t tab l ht hl;refine⟨hT,by rw[List.length_set];exact x.ulen,by rw[List.length_set];exact x.slen,λj u l' hu hl'=>?_,λj t' l' ht' hl'=>?_,λl' hl'=>?_,λl' hl'=>?_⟩
 .by_cases e:t=j
  .subst e;rw[List.getElem?_set_self (by rw[x.ulen, <-x.slen];exact htl)]at hu;rw[List.getElem?_set_self htl]at hl';cases hu;cases hl';exact hr
  .rw[List.getElem?_set_ne e]at hu hl';exact bH.mono (x.rows j u l' hu hl') le λr t hv=>cC.mono hv le
 .by_cases e:t=j
  .subst e;rw[List.getElem?_set_self htl]at hl';rw[ht]at ht';cases hl';cases ht';refine⟨λr hr=>?_,λi r r' e1 e2=>(IK (Kr.of hok.2)).adj i r r' e1 e2⟩;rcases HD hr with rfl|hr
   .exact hfr
   .exact hok.1 r hr
  .rw[List.getElem?_set_ne e]at hl';exact x.ok j t' l' ht' hl'
 .rcases List.mem_or_eq_of_mem_set hl' with h5|rfl
  .exact x.val l' h5
  .intro r hr v hv;rcases HD hr with rfl|hr
   .obtain⟨i,hi,rfl⟩:=List.mem_iff_getElem.1 hv;have hi2:i<(tab.columns.map mA.kind).length:=by rw[<-hf.1];exact hi
    exact Vo (hf.2.2 i _ _ (List.getElem?_eq_getElem hi) (List.getElem?_eq_getElem hi2)) (hf.2.1 _ hv)
   .exact x.val l (List.mem_of_getElem? hl) r hr v hv
 .rcases List.mem_or_eq_of_mem_set hl' with h5|rfl
  .exact x.few l' h5
  .have:=HE (t:=tab) (key:=jT tab row) (row:=row) (l:=l) (d:=false);simp at this;omega
theorem Uw:Sound Tryz.prog 14 Wo:=by
 refine W6 Tryz.func14 ?_;rintro cvs m h K ⟨cb,v,s,rfl,hc,hs,hp,hK⟩;refine⟨XV cb v,rfl,aD F7 (aD C4 (aD T8 (aD KZ (aD T6 aF)))),JG cb v m h (dJ h K),by kernel_rfl,?_⟩;show JG cb v m h (dJ h K);dsimp only[JG,push_cast];have htl:=hs.tables.slen;obtain⟨hse,hne⟩:=IL hp;have h8:=DG hse;have hs8:=sG hse;have hn0:0<s.tables.length:=List.length_pos_iff.2 hne;refine⟨aC,aC,aC,aC,λsl m1 hnew=>?_⟩;rw[show((v.tables.len:Int)).toNat=s.tables.length by omega]at hnew
 obtain⟨tb,cap,cur,hsl,hcur,_,_,hcs,hct⟩:∃b cap cur,sl=⟨some ⟨b,0,none⟩,s.tables.length,cap⟩/\m1 b=some (.cells cur 53 (0,0))/\s.tables.length<=cap/\cap<=maxLen/\cur.size=cap*1/\cur.toList.take (s.tables.length*1)=(List.replicate s.tables.length [uE]).flatten:=by
  rcases hnew.row.ex with⟨_,e⟩|⟨b,cap,cur,e1,e2,e3,e4,e5,e6⟩
  .have:=congrArg List.length e;rw[List.length_replicate,List.length_nil]at this;omega
  .rw[List.length_replicate]at e1 e3 e6;exact⟨b,cap,cur,e1,e2,e3,e4,e5,e6⟩
 have hcapn:s.tables.length<=cap:=by assumption
 have htb0:cH m h tb:=hnew.fresh tb 0 (by rw[hsl])
 have hne1:tb≠cb:=λe=>by
  obtain⟨cs,e2⟩:=hc.blk;rw[<-e,htb0.m_]at e2;cases e2
 have hoth:∀b,b≠tb->m1 b=m b:=λb hb=>hnew.other b λi e=>by
  rw[hsl]at e;injection e with e;injection e with e1 e2;exact hb e1.symm
 have hc1:aM m1 h cb:=hc.keep (hoth cb (Ne.symm hne1)) (.refl _)
 have hT0:Yg h s m1 tb (List.replicate s.tables.length ⟨none,0,0⟩) (List.replicate s.tables.length []):=by
  refine⟨⟨cur,hcur,by rw[List.length_replicate];omega,?_⟩,by simp,by simp,λj u l hu hl=>?_,λj t l ht hl=>?_,λl hl=>?_,λl hl=>?_⟩
  .rw[List.length_replicate, <-Nat.mul_one s.tables.length,hct,Nat.mul_one,List.map_replicate];generalize s.tables.length=k
   induction k with
   |zero=>rfl
   |succ k ih=>rw[List.replicate_succ,List.flatten_cons,ih,List.replicate_succ];rfl
  .have hu:=List.mem_of_getElem? hu;have hl:=List.mem_of_getElem? hl;rw[List.eq_of_mem_replicate hu,List.eq_of_mem_replicate hl];exact bH.nil _ _ _ _
  .rw[List.eq_of_mem_replicate (List.mem_of_getElem? hl)];exact⟨λr hr=>by simp at hr,λi r r' e=>by simp at e⟩
  .rw[List.eq_of_mem_replicate hl];intro r hr;simp at hr
  .rw[List.eq_of_mem_replicate hl];simp
 clear hct hcs hcur cur;refine⟨λz=>z.1<=s.tables.length/\z.2.1=sl/\PH.le h z.2.2.2/\aM z.2.2.1 z.2.2.2 cb/\(∀b,b≠tb->b≠cb->z.2.2.1 b=m b)/\∃us st,Yg z.2.2.2 s z.2.2.1 tb us st/\∀j l,z.1<=j->st[j]? =some l->l=[],λz=>s.tables.length-z.1,⟨(0,sl,m1,h),⟨by simp,rfl,.refl _,hc1,λb h1 _=>hoth b h1,_,_,hT0,λj l _ e=>List.eq_of_mem_replicate (List.mem_of_getElem? e)⟩,MT⟩,?_⟩;clear hT0 hc1;rintro⟨i,sl',m2,h2⟩ ⟨hi,e1,le2,c2,o2,us,st,hT,hnil⟩;dsimp only at hi e1 le2 c2 o2 hT hnil⊢
 rw[e1];clear e1 sl';refine aE (λhlt=>?_) (λhge=>?_)
 .obtain⟨tab,htab⟩:=eY htl hlt;have htabm:=List.mem_of_getElem? htab;obtain⟨tk,tc,tc4,tko⟩:=TA hp htabm;have hil:=(List.getElem?_eq_some_iff.1 htab).1
  have hnil0:st[i]? =some []:=by
   have:=List.getElem?_eq_getElem (l:=st) (i:=i) (by rw[hT.slen];exact hil);rw[this,hnil i _ (Nat.le_refl _) this]
  refine⟨cb,5,rfl,c2,λk m3 k0 k1 o3 c3=>?_⟩;refine⟨λz=>z.1=i/\z.2.2.1=sl/\z.2.1<=4/\PH.le h z.2.2.2.2/\aM z.2.2.2.1 z.2.2.2.2 cb/\(∀b,b≠tb->b≠cb->z.2.2.2.1 b=m b)/\∃us st l,Yg z.2.2.2.2 s z.2.2.2.1 tb us st/\st[i]? =some l/\((l.length:Int)<=4-z.2.1)/\0<=z.2.1/\∀j l,i+1<=j->st[j]? =some l->l=[],λz=>z.2.1.toNat,⟨(i,k,sl,m3,h2),⟨rfl,rfl,by show k<=4;omega,le2,c3,λb h1 h2=>by show m3 b=m b;rw[o3.other b h2];exact o2 b h1 h2,us,st,[],hT.mono (.refl _) (o3.other tb hne1),hnil0,by simp;omega,k0,λj l hj=>hnil j l aC⟩,MT⟩,?_⟩;clear o3 c3 m3 k0 k1 hT hnil hnil0 us st k o2 c2 m2;rintro⟨i',n,sl',m3,h3⟩ ⟨e1,e2,hn4,le3,c3,o3,us,st,l,hT,hl,hll,hn0',hnil⟩;dsimp only at e1 e2 hn4 le3 c3 o3 hT hl hll hn0' hnil⊢
  rw[e1,e2];clear e1 e2 i' sl';refine aE (λhn=>?_) (λhn=>?_)
  .obtain⟨b,o,y,ea,rd,hy⟩:=bH.at (hs.mono le3).tables htab;have hkT:gR s (i:Int)=tab.columns.map mA.kind:=by rw[gR,if_neg aC,Int.toNat_natCast,htab]
   refine⟨b,o,ea,aC,aC,tab.key,.imm (by rw[<-hy.key];exact aX.part rd 2 1),by rw[<-hy.key];exact aX.part rd 2 1,v,s,i,rfl,hs.mono le3,hs8,λks h4 le4 hks=>?_⟩;rw[hkT]at hks;refine⟨cb,ks,tab.key,_,rfl,c3.mono le4,hks,by rw[List.length_map];omega,λk hk=>?_,λsr row m5 h5 le5 hrow hfit o5 c5=>?_⟩
   .obtain⟨c,hc,rfl⟩:=List.mem_map.1 hk;exact tko c hc
   have hrl:row.length=tab.columns.length:=by rw[hfit.1,List.length_map]
   refine⟨v,s,i,sr,row,rfl,hs.mono ((le3.trans le4).trans le5),hrow,aC,λsk h6 le6 hkey=>?_⟩;rw[CZ htab]at hkey;have hT6:=hT.mono ((le4.trans le5).trans le6) (o5.other tb hne1);obtain⟨u,hu⟩:∃u,us[i]? =some u:=⟨_,List.getElem?_eq_getElem (by rw[hT.ulen];exact hil)⟩
   have hlm:=List.mem_of_getElem? hl;refine⟨v,s,tb,s.tables.length,cap,us,u,i,tab,l,sk,jT tab row,sr,row,by rw[hsl],hs.mono (((le3.trans le4).trans le5).trans le6),htab,hT6.tbl,hT.ulen.symm,hu,hT6.rows i u l hu hl,by have:=hT.few l hlm;omega,λr hr=>?_,hkey,cC.mono hrow le6,aC,aC,λu' m7 h7 le7 hr7 hT7 o7=>?_⟩
   .have:=(MQ ((hT.ok i tab l htab hl).1 r hr)).1;omega
   have hw:IntKind.i64.wrap (n-1)=n-1:=eB aC aC;have hpl:=HE (t:=tab) (key:=jT tab row) (row:=row) (l:=l) (d:=false);simp at hpl;refine⟨(i,n-1,sl,m7,h7),⟨rfl,rfl,by show n-1<=4;omega,(((le3.trans le4).trans le5).trans le6).trans le7,(c5.mono (le6.trans le7)).keep (o7.other cb (Ne.symm hne1)) (.refl _),λb h1 h2=>by show m7 b=m b;rw[o7.other b h1,o5.other b h2];exact o3 b h1 h2,us.set i u',st.set i _,_,hT6.put le7 htab hl hT7 hr7 hfit aC,List.getElem?_set_self (List.getElem?_eq_some_iff.1 hl).1,by show(_:Int)<=4-(n-1);omega,by show 0<=n-1;omega,λj l' hj e=>?_⟩,by show(n-1).toNat<n.toNat;omega,?_⟩
   .rw[List.getElem?_set_ne aC]at e;exact hnil j l' hj e
   .rw[hw,hsl];exact MT
  .refine⟨(i+1,sl,m3,h3),⟨by show i+1<=s.tables.length;omega,rfl,le3,c3,o3,us,st,hT,hnil⟩,by show s.tables.length-(i+1)<s.tables.length-i;omega,?_⟩;rw[iM aC];exact MT
 .obtain⟨cur,hcur,hcs,hct⟩:=hT.tbl;refine dJ.iceB hcur le2 λh3 le3 hice=>hK st sl _ h3 (le2.trans le3) ⟨⟨⟨us,⟨by rw[hsl,List.length_map];exact hT.ulen.symm,.inr ⟨tb,0,by rw[hsl],λj e hj=>⟨λn x hx=>?_⟩⟩,by rw[hsl];exact hcapn⟩,by rw[hT.slen,hT.ulen],λj l hl=>?_⟩,by rw[hT.slen];omega⟩,by rw[hT.slen];omega,hT.val⟩ ⟨hT.slen,hT.few,hT.ok,hT.val⟩ ⟨λb hb=>?_⟩ ?_
  .rw[List.getElem?_map,Option.map_eq_some_iff]at hj;obtain⟨u,hu,rfl⟩:=hj;have hn:n=0:=by have:=(List.getElem?_eq_some_iff.1 hx).1;simp[eS]at this;omega
   subst hn
   have hx:u.val=x:=by
    simp[eS]at hx;exact hx
   subst hx;have e:(cur.toList.take us.length)[j]? =some u.val:=by rw[hct,List.getElem?_map,hu];rfl
   rw[List.getElem?_take,if_pos (List.getElem?_eq_some_iff.1 hu).1,Array.getElem?_toList]at e;rw[hice,show 0+j*1+0=j by omega];exact e
  .have hjl:=(List.getElem?_eq_some_iff.1 hl).1;have hju:j<us.length:=by rw[hT.ulen, <-hT.slen];exact hjl
   have hu:us[j]? =some us[j]:=List.getElem?_eq_getElem hju;exact⟨_,hu,bH.mono (hT.rows j _ l hu hl) le3 λr t hv=>cC.mono hv le3⟩
  .by_cases e:b=tb
   .subst e;simp[htb0.m_]
   .simp only[e,if_false];exact o2 b e hb
  .refine aM.keep c2 ?_ le3;simp[Ne.symm hne1]
def WO:Vc.Spec:=λcvs m h K=>cvs=[]/\jD m/\K (cB true) m h
def Jx(m:MH)(h:PH)(K:CV->MH->PH->Prop):Prop:=
  bV h 2 (nQ HV 4::gM (nQ (HW 99) 4)) (λs h1=>∃(n:Int),nR 1 n/\∃(n1:Int),nR 10 n1/\∃(n2:Int),nR 2 n2/\∃(n3:Int),nR 10 n3/\∃(n4:Int),nR 3 n4/\∃(n5:Int),nR 20 n5/\bV h1 3 (tB n::gM (tB n1)) (λs1 h2=>bV h2 3 (tB n2::gM (tB n3)) (λs2 h3=>bV h3 3 (tB n4::gM (tB n5)) (λs3 h4=>bV h4 1 (aK s1::aK s2::gM (aK s3)) (λs4 h5=>bV h5 5 (gM (CO 116 97 115 107 (p8 115) s 1)) (λs5 h6=>bV h6 1 (gM (aK s4)) (λs6 h7=>bV h7 1 (gM (bW 1)) (λs7 h8=>bV h8 2 (gM (jS cO zF)) (λs8 h9=>bV h9 21 (gM (oO (eN 1) cO (sK uE (zC iL)))) (λs9 a=>jW (λv a1=>zI (λa2 a3=>jV (λw q=>aA (cE (jS cO (eC
 s5)) (bK (jK (aK s6)) (jK (oO (eN 9) cO (sK uE (aT uE (eC s7) (aT (eC s8) (eN 1) (aK s9)))))))=cE (cA v) (bK (jK (aK a2)) (cN w))) (gS a a1 v) (aA (Hz a a2 a3) (dD a q w) (aH (mD (mX q)) (jD m) (aR (EV a1 q) (qL a1 a3=0) (To a3 q)) (∀(a4:Sl)(a5:PH),dE a a5 (Rows a5 a4 (Mm a1 a3 q).1) (dR (Mm a1 a3 q).2 0 (dR (aG a4) 2 (cZ a4.a 0 a4 (λb o y=>aL m a5 b (dP o) (aK y)/\bD (λb1 o1=>aH (bE y.a b1 o1) ((0:Int)<=0) (0<aG y) (∃(y1:VV),aH (aL m a5 b1 (dP o1) y1.enc) (aX a5 b (dP o) (aK y)) (aX a5 b1 (dP o1) y1.enc) (tE 2 (λn6=>∃(r:Bool),hZ (oP 27 y1.enc (tB n6) r) r (cZ a4.a 1 a4 (λb2 o2 y2=>aL m a5 b2 (o2+1) (aK y2)/\bD (λb3 o3=>aH (bE y2.a b3 o3) ((0
 :Int)<=0) (0<aG y2) (∃(y3:VV),aA (aL m a5 b3 (dP o3) y3.enc) (aX a5 b (dP o) (aK y)) (aA (aX a5 b1 (dP o1) y1.enc) (aX a5 b2 (o2+1) (aK y2)) (aX a5 b3 (dP o3) y3.enc/\∃(n7:Int),nR 3 n7/\∃(r1:Bool),hZ (oP 27 y3.enc (tB n7) r1) r1 (cZ a4.a 0 a4 (λb4 o4 y4=>aL m a5 b4 (dP o4) (aK y4)/\cZ a4.a 1 a4 (λb5 o5 y5=>aA (aL m a5 b5 (o5+1) (aK y5)) (aX a5 b (dP o) (aK y)) (aA (aX a5 b1 (dP o1) y1.enc) (aX a5 b2 (o2+1) (aK y2)) (aX a5 b3 (dP o3) y3.enc/\j3 (λo6 a6=>∃(t:Sl)(o7:List (Int×Bool))(a7 b6:List VV),aA (cW s8 (gJ y4 y5)=cW o6 (gJ a6 t)) (iW a5 o6 o7) (aA (cC a5 a6 a7) (cC a5 t b6) (K (zR (kB o7 a7 b6==1)) m a5)))))))) (aA (aX a5 b (dP o) (aK y)) (aX
 a5 b1 (dP o1) y1.enc) (aA (aX a5 b2 (o2+1) (aK y2)) (aX a5 b3 (dP o3) y3.enc) (K aU m a5))))))))) (aA (aX a5 b (dP o) (aK y)) (aX a5 b1 (dP o1) y1.enc) (aA (aX a5 b (dP o) (aK y)) (aX a5 b1 (dP o1) y1.enc) (K aU m a5))))))))) (K aU m a5)) (K aU m a5))))))))))))))))))
def nV(n:Int):VV:=⟨4,n,⟨#[]⟩⟩
def bS:nY:=⟨0,[⟨⟨⟨[116,97,115,107,115]⟩⟩,[⟨⟨⟨[105,100]⟩⟩,4⟩,⟨⟨⟨[112,114,111,106,101,99,116]⟩⟩,4⟩],1,[],[]⟩]⟩
def UU:List (List (List VV)):=[[[nV 1,nV 10],[nV 2,nV 10],[nV 3,nV 20]]]
def Wg:Query:=.mk 1 0 iO [] [] [] [] 0 []
def bQ:Query:=.mk 9 0 iO [] [] [1] [(0,true)] 1 [Wg]
theorem Yq:eV bS=0:=U5 (by decide) (λt ht=>by simp[bS]at ht;subst ht;exact⟨by simp,rfl,rfl⟩) (by decide) (by decide) (by
 refine wC ⟨⟨?_,?_,?_,?_,wC ⟨⟨?_,?_,?_⟩,⟨?_,?_,?_⟩,trivial⟩⟩,trivial⟩
 all_goals first|rfl|(simp;done)|decide)
theorem Qi{k:List Int}(h:bZ s ps q=(k,0))(hr:u9 k gr od li)(hk:k.length<=12):bZ s ps (.mk 9 0 iO [] [] gr od li [q])=(k,0):=by
 rw[F3 (by decide) h];unfold jC;rw[if_neg (by simp[arity,dZ])];dsimp only;rw[if_neg (by decide),if_neg (by decide),if_neg (by decide),if_neg (by decide),if_neg (by decide),if_pos rfl,if_pos hr,Ig hk]
theorem Wh:bZ bS [] bQ=([4,4],0):=by
 have e:gR bS 0=[4,4]:=rfl
 have h:bZ bS [] Wg=([4,4],0):=by
  have:=Jj (s:=bS) (ps:=[]) (t:=0) (by decide) (by decide) (by rw[e];decide);rw[e]at this;exact this
 exact Qi h ⟨wC ⟨⟨by decide,by simp⟩,trivial⟩,wC ⟨by show FE _ _=true;decide,trivial⟩,by decide,by decide,by decide⟩ (by decide)
theorem N0{k:List Int}(hs:eV s=0)(h:mX q=true)(hk:bZ s [] q=(k,0)):fI s [] q=(k,0):=by
 unfold fI;rw[if_pos hs,if_pos (by rfl),if_pos h,hk]
theorem Zm:fI bS [] bQ=([4,4],0):=N0 Yq (by rfl) Wh
theorem Y9:qL bS UU=0:=by
 unfold qL;rw[if_neg (by simp[Yq]),if_neg (by decide),if_neg (by decide),if_pos];intro i t l ht hl
 match i,ht,hl with
 |0,ht,hl=>
  simp[bS]at ht;simp[UU]at hl;subst ht hl;refine⟨λr hr=>?_,λi r r' e1 e2=>?_⟩
  .simp at hr;have hv:∀n,uY 1 4 0 (nV n)=true/\uY 1 4 1 (nV n)=true:=λn=>by simp[uY,nV,UZ]
   rcases hr with rfl|rfl|rfl
   all_goals
    refine B8.2 ⟨rfl,λi hi=>?_⟩
    match i,hi with
    |0,_=>exact(hv _).1
    |1,_=>exact(hv _).2
    |i+2,hi=>simp at hi;omega
  .match i,e1,e2 with
   |0,e1,e2=>simp at e1 e2;subst e1 e2;decide
   |1,e1,e2=>simp at e1 e2;subst e1 e2;decide
   |i+2,e1,e2=>simp at e2
 |i+1,ht,hl=>simp[bS]at ht
theorem Zl:Kj UU bQ=[[nV 2,nV 10],[nV 3,nV 20]]:=by rfl
theorem L7{s:Sl}{l:List VV}(r:cR h s 3 (l.map VV.enc))(hl:l.length<=1000):cC h s l:=⟨⟨l,r,rfl,λi x hx=>⟨x,hx,rfl⟩⟩,aC⟩
theorem Uk:Sound Tryz.prog 23 WO:=by
 refine Fa Tryz.func23 ?_;rintro cvs m h K ⟨rfl,ht,hK⟩;refine⟨dL [(61,S9),(21,Wv),(34,FC)] [] [] [] false,rfl,aD T5 (aD K7 (aD Gh aF)),Jx m h (kG h K),by kernel_rfl,?_⟩;show Jx m h (kG h K);dsimp only[Jx,push_cast];intro s1 h1 le1 r1;refine⟨1,rfl,10,rfl,2,rfl,10,rfl,3,rfl,20,rfl,?_⟩;intro s2 h2 le2 r2 s3 h3 le3 r3 s4 h4 le4 r4 s5 h5 le5 r5 s6 h6 le6 r6 s7 h7 le7 r7 s8 h8 le8 r8 s9 h9 le9 r9 sa ha lea ra;have l9:=le9.trans lea;have l8:=le8.trans l9;have l7:=le7.trans l8;have l6:=le6.trans l7;have l5:=le5.trans l6;have l4:=le4.trans l5;have l3:=le3.trans l4;have l2:=le2.trans l3;have rs:dD ha Wg ⟨1,0,iF,cF,cF,cF,cF,0,cF⟩:=zU ha 0;have so:iW ha s9 [(0,true)]:=⟨r9.mono lea,by simp⟩
 have rq:dD ha bQ ⟨9,0,iF,cF,cF,s8,s9,1,sa⟩:=oW.rep ⟨rfl,rfl,Cq ha,kZ ha,qF ha,⟨r8.mono l9,by simp⟩,so,rfl,zX (v:=⟨1,0,iF,cF,cF,cF,cF,0,cF⟩) ra rs⟩;have rt:GP ha ⟨⟨⟨[116,97,115,107,115]⟩⟩,[⟨⟨⟨[105,100]⟩⟩,4⟩,⟨⟨⟨[112,114,111,106,101,99,116]⟩⟩,4⟩],1,[],[]⟩ ⟨⟨⟨[116,97,115,107,115]⟩⟩,s1,1,cF,cF⟩:=⟨rfl,Fp (l:=[⟨_,_⟩,⟨_,_⟩]) (r1.mono l2) (by simp),rfl,bH.nil _ _ _ _,bH.nil _ _ _ _⟩
 have rS:gS ha bS ⟨0,s6⟩:=⟨rfl,⟨⟨[⟨⟨⟨[116,97,115,107,115]⟩⟩,s1,1,cF,cF⟩],r6.mono l7,rfl,λi x e=>by
  match i,e with
  |0,e=>simp[bS]at e;subst e;exact⟨_,rfl,rt⟩
  |i+1,e=>simp[bS]at e⟩,by simp[bS]⟩⟩
 have v1:cC ha s2 [nV 1,nV 10]:=L7 (r2.mono l3) (by simp);have v2:cC ha s3 [nV 2,nV 10]:=L7 (r3.mono l4) (by simp);have v3:cC ha s4 [nV 3,nV 20]:=L7 (r4.mono l5) (by simp)
 have rr:Rows ha s5 [[nV 1,nV 10],[nV 2,nV 10],[nV 3,nV 20]]:=⟨⟨[s2,s3,s4],r5.mono l6,rfl,λi x e=>by
  match i,e with
  |0,e=>simp at e;subst e;exact⟨_,rfl,v1⟩
  |1,e=>simp at e;subst e;exact⟨_,rfl,v2⟩
  |2,e=>simp at e;subst e;exact⟨_,rfl,v3⟩
  |i+3,e=>simp at e⟩,by simp⟩
 have rst:Hz ha s7 UU:=⟨⟨⟨[s5],r7.mono l8,rfl,λi x e=>by
  match i,e with
  |0,e=>simp[UU]at e;subst e;exact⟨_,rfl,rr⟩
  |i+1,e=>simp[UU]at e⟩,by simp[UU]⟩,by simp[UU],λl hl r hr v hv=>by
   simp[UU]at hl;subst hl;simp at hr;rcases hr with rfl|rfl|rfl<;>simp at hv<;>rcases hv with rfl|rfl<;>exact⟨by constructor<;>decide,by constructor<;>decide⟩⟩
 have hres:Mm bS UU bQ=([[nV 2,nV 10],[nV 3,nV 20]],0):=by
  unfold Mm;rw[Zm,if_neg (by simp),if_neg (by simp[Y9]),Zl]
 refine⟨⟨0,s6⟩,bS,s7,UU,⟨9,0,iF,cF,cF,s8,s9,1,sa⟩,bQ,rfl,rS,rst,rq,by rfl,ht,λ_ _=>⟨3,by decide,λl hl=>by simp[UU]at hl;subst hl;simp,by decide⟩,λs' hb leb hr=>?_⟩;rw[hres]at hr⊢
 dsimp only at hr⊢
 have hrl:=bH.slen hr;have hrl:s'.len=2:=hrl;obtain⟨b1,o1,u1,ea1,rd1,hv1⟩:=bH.at hr (i:=0) rfl;obtain⟨b2,o2,u2,ea2,rd2,hv2⟩:=bH.at hr (i:=1) rfl;obtain⟨b3,o3,x1,ea3,rd3,e3⟩:=bH.at hv1 (i:=0) rfl;obtain⟨b4,o4,x2,ea4,rd4,e4⟩:=bH.at hv2 (i:=0) rfl;subst e3 e4;have n1:u1.len=2:=bH.slen hv1;have n2:u2.len=2:=bH.slen hv2;have eq2:∀v:VV,UF v v=true:=λv=>by simp[UF]
 have rd1:aX hb b1 (o1+0) [eC u1]:=rd1;have rd2:aX hb b2 (o2+1) [eC u2]:=rd2;have rd3:aX hb b3 (o3+0) (VV.enc (nV 2)):=by simpa using rd3
 have rd4:aX hb b4 (o4+0) (VV.enc (nV 3)):=by simpa using rd4
 have hc:kB [(0,true)] [nV 2,nV 10] [nV 3,nV 20]=1:=by decide
 refine aB (λ_=>aB (λ_=>⟨b1,o1,ea1,aC,aC,u1,.imm rd1,b3,o3,ea3,aC,aC,nV 2,.imm rd3,rd1,rd3,2,rfl,_,Fg (nV 2) (nV 2),aB (λ_=>⟨b2,o2,ea2,aC,aC,u2,.imm rd2,b4,o4,ea4,aC,aC,nV 3,.imm rd4,rd1,rd3,rd2,rd4,3,rfl,_,Fg (nV 3) (nV 3),aB (λ_=>⟨b1,o1,ea1,aC,aC,u1,.imm rd1,b2,o2,ea2,aC,aC,u2,.imm rd2,rd1,rd3,rd2,rd4,s9,u1,u2,[(0,true)],_,_,rfl,so.mono leb,hv1,hv2,?_⟩) (λe=>?_)⟩) (λe=>?_)⟩) (λe=>?_)) (λe=>?_)
 .rw[hc];exact .out (Sub.refl m) ((le1.trans l2).trans leb) hK
 .rw[eq2]at e;cases e
 .rw[eq2]at e;cases e
 .rw[hrl]at e;cases e
 .cases e
abbrev Rel:=List (List VV)
theorem Sr{l:Rel}{x:List VV}:Kd l x=false↔x∉l:=by
 rw[<-C0];cases Kd l x<;>simp
def ZF:Vc.Spec:=λcvs m h K=>∃s cs,cvs=[cS s]/\cR h s 1 (aY cs)/\s.len<=s.cap/\jD m/\∀m' h',Sub m m'->K (cB true) m' h'
noncomputable def Oc:List (Nat×Vc.Spec):=[(11,Zt),(12,Wy),(13,R0 5),(25,Cj),(26,Ng),(30,xE),(14,Wo),(27,Yz),(28,Nf),(29,YN),(24,Yu),(23,WO),(15,FB),(16,Kb)]
theorem TF:∀g S,assoc Oc g=some S->Sound Tryz.prog g S:=aD UA (aD Uz (aD (SJ 5) (aD K4 (aD K3 (aD C5 (aD Uw (aD Ui (aD K2 (aD Uh (aD Uj (aD Uk (aD F7 (aD wI aF)))))))))))))
structure ZE(s:nY)(h:PH)(v:QV)(q:Query)(k:List Int)(b:Nat):Prop where
 rep:dD h q v
 kin:bZ s [] q=(k,0)
 bnd:lL 4 q<=b
theorem Vl{st:List (List (List VV))}(hp:uO s)(h:Nd s st):qL s st=0:=by
 obtain⟨hse,hne⟩:=IL hp;have h8:=DG hse;have hl:=h.len
 have hsum:∀l:List (List (List VV)),(∀x∈l,x.length<=4)->(l.map λx=>(x.length:Int)).sum<=4*(l.length:Int):=λl=>by
  induction l with
  |nil=>intro _;simp
  |cons a l ih=>
   intro hx;have:=ih λx h=>hx x (List.mem_cons_of_mem _ h);have:=hx a (List.mem_cons_self ..);simp only[List.map_cons,List.sum_cons,List.length_cons];omega
 have:=hsum st h.few;unfold qL;rw[if_neg (by simp[hse]),if_neg aC,if_neg (by simp[hl]),if_pos h.ok]
theorem ZE.of{d:Nat}(r:dD h q v)(e:(fI s [] q).2=0)(f:Ks d q):ZE s h v q (fI s [] q).1 (gB d):=by
 obtain⟨h1,h2,h3,h4⟩:=xK e;have e2:bZ s [] q=((bZ s [] q).1,0):=Prod.ext rfl h4;have e3:=N0 h1 h3 e2;exact⟨r,by rw[e3];exact e2,f.b⟩
theorem jD.new(ht:jD m)(hc:m cb=none)(o:bA m m' cb):jD m':=by
 obtain⟨T,fz,e⟩:=ht;refine⟨T,fz,?_⟩;rw[o.other 1 (λe2=>by rw[<-e2,e]at hc;cases hc)];exact e
def Zv:Vc.Spec:=λcvs m h K=>∃s t l r,cvs=[cS s,cS t]/\Rows h s l/\cC h t r/\nJ l/\K (cB (Kd l r)) m h
def WN:Vc.Spec:=λcvs m h K=>∃s t i l k,cvs=[cS s,cS t,cB i]/\Rows h s l/\Rows h t k/\nJ k/\l.length<=1000000/\∀s' h',PH.le h h'->Rows h' s' (l.filter λx=>Kd k x==i)->K (cS s') m h'
noncomputable def XL(s t:Sl)(m:MH)(h:PH):Ctx:=
 dL [(62,FD)] [(2,{A:=Nat×Nat,st:=λ⟨lo,hi⟩=>cD 42 44 [(0,sv s),(1,sv t),(5,iv lo),(6,iv hi)] [] m h})] [] [] false
noncomputable def XG(s t:Sl)(i:Bool)(m:MH)(h:PH):Ctx:=
 dL [(32,Zv)] [(3,{A:=Nat×List Sl,st:=λ⟨j,us⟩=>cD 27 30 [(1,sv t),(2,bv i),(7,.at (.lst 24)),(10,sv s),(11,iv s.len),(12,iv j)] [(24,.lst 74 1 (us.map eS))] m h})] [] [] false
noncomputable abbrev Et(a:Nat×Nat):Int:=bB a.1 (iN (Int.tdiv (iN ((↑a.2:Int)-(↑a.1:Int))) 2))
attribute [push_cast] Et
def O9(s t:Sl)(m:MH)(h:PH)(K:CV->MH->PH->Prop):Prop:=
  HX (λI x=>aA (I x) (aJ s) (aA (aJ t) (aZ x.1) (aH (bM s.len=bM x.2) (m=m) (h=h) True))) (λI m1 x=>I x->aW (↑x.1:Int) (↑x.2:Int) (jO ((2:Int)=0)/\cZ s.a (Et x) s (λb o y=>aL m h b (fJ o (Et x) 1) (aK y)/\xT y t h (λa b1=>aW (dT a b1) 0 (∃(x1:Nat×Nat),aA (I x1) (m1 x1<m1 x) (aA (aJ s) (aJ t) (aA (SV.at (At.val (eN (iN (Et x+1))))=bM x1.1) (bX x.2 x1.2) (aA (m=m) (h=h) True)))) (∃(x1:Nat×Nat),aA (I x1) (m1 x1<m1 x) (aA (aJ s) (aJ t) (aA (bX x.1 x1.1) (SV.at (At.val (eN (Et x)))=bM x1.2) (aA (m=m) (h=h) True))))))) (aW (↑x.1:Int) (aG s) (cZ s.a (↑x.1:Int) s (λb o y=>aL m h b (bF o x.1 1) (aK y)/\xT y t h (λa b1=>K (zR (dT a b1==0)) m h))) (K aU m h)))
def O4(s t:Sl)(i:Bool)(m:MH)(h:PH)(K:CV->MH->PH->Prop):Prop:=
  ∃(I:Nat×List Sl->Prop)(m1:Nat×List Sl->Nat),(∃(x:Nat×List Sl),aA (I x) (aJ t) (aA (eQ (Ze i)) (eL 24) (aA (aJ s) (bJ s) (aA (aZ x.1) (mM 74 1 (iZ x.2)) (bT (m=m) h h)))))/\∀(x:Nat×List Sl),I x->aW (↑x.1:Int) (aG s) (cZ s.a (↑x.1:Int) s (λb o y=>aL m h b (bF o x.1 1) (aK y)/\j3 (λs1 t1=>∃(l:List (List VV))(r:List VV),aA (gJ t y=gJ s1 t1) (Rows h s1 l) (aA (cC h t1 r) (nJ l) (branch (Kd l r==i) (aA (iG (eU x.2)) (dN (eU x.2)) (∃(x1:Nat×List Sl),aA (I x1) (m1 x1<m1 x) (aA (aJ t) (eQ (Ze i)) (aA (eL 24) (aJ s) (aA (bJ s) (fV (bB x.1 1)=bM x1.1) (aH (cM 74 1 (eT (eU x.2) (aK y))=iZ x1.2) (m=m) (h=h) True)))))) (∃(x1:Nat×List Sl),aA (I x1) (m1 x1<m1 x) (aA (aJ t) (eQ
 (Ze i)) (aA (eL 24) (aJ s) (aA (bJ s) (fV (bB x.1 1)=bM x1.1) (aH (iZ x.2=iZ x1.2) (m=m) (h=h) True)))))))))) (bV h 1 (eU x.2) (λs1 h1=>K (lY s1) m h1))
theorem Ug:Sound Tryz.prog 32 Zv:=by
 refine iB Tryz.func32 ?_;rintro cvs m h K ⟨s,t,l,r,rfl,hs,ht,hl,hK⟩;refine⟨XL s t m h,rfl,aD Gf aF,O9 s t m h K,by kernel_rfl,?_⟩;dsimp only[O9,push_cast];have hsl:=bH.slen hs;have hll:=hs.len;refine⟨λx=>x.1<=x.2/\x.2<=l.length/\(∀(j:Nat) y,j<x.1->l[j]? =some y->dT y r<0)/\(∀(j:Nat) y,x.2<=j->l[j]? =some y->0<=dT y r),λx=>x.2-x.1,⟨(0,l.length),⟨by simp,by simp,λj y hj=>by simp at hj,λj y hj hy=>by have:=(List.getElem?_eq_some_iff.1 hy).1;simp at hj;omega⟩,by rw[hsl];exact MT⟩,?_⟩;rintro⟨lo,hi⟩ ⟨h1,h2,h3,h4⟩;dsimp only at h1 h2 h3 h4⊢
 have lt:∀{i j:Nat}{x y},l[i]? =some x->l[j]? =some y->i<j->dT x y<0:=fun{i j x y} hx hy hij=>by
  obtain⟨hi1,rfl⟩:=List.getElem?_eq_some_iff.1 hx;obtain⟨hj1,rfl⟩:=List.getElem?_eq_some_iff.1 hy;exact List.pairwise_iff_getElem.1 hl i j hi1 hj1 hij
 refine aE (λhlt=>?_) (λhge=>?_)
 .have e1:IntKind.i64.wrap ((hi:Int)-(lo:Int))=((hi-lo:Nat):Int):=by
   rw[show(hi:Int)-(lo:Int)=((hi-lo:Nat):Int)by omega];exact eB aC aC
  have e2:(((hi-lo:Nat):Int)).tdiv 2=(((hi-lo)/2:Nat):Int):=by
   rw[Int.tdiv_eq_ediv_of_nonneg aC];rfl
  have e3:IntKind.i64.wrap ((((hi-lo)/2:Nat):Int))=(((hi-lo)/2:Nat):Int):=eB aC aC
  have e4:IntKind.i64.wrap ((lo:Int)+(((hi-lo)/2:Nat):Int))=((lo+(hi-lo)/2:Nat):Int):=by
   rw[show(lo:Int)+(((hi-lo)/2:Nat):Int)=((lo+(hi-lo)/2:Nat):Int)by omega];exact eB aC aC
  rw[e1,e2,e3,e4];generalize hm:lo+(hi-lo)/2=k;have hk1:lo<=k:=by omega
  have hk2:k<hi:=by omega
  rw[iM aC];have hkl:k<l.length:=by omega
  obtain⟨b,o,u,ea,rd,hv⟩:=bH.at hs (List.getElem?_eq_getElem hkl);refine⟨by decide,b,o,ea,aC,aC,u,.imm rd,u,t,l[k],r,rfl,hv,ht,aE (λh5=>?_) (λh5=>?_)⟩
  .refine⟨(k+1,hi),⟨by show k+1<=hi;omega,h2,λj y hj hy=>?_,h4⟩,by show hi-(k+1)<hi-lo;omega,MT⟩;by_cases hjk:j=k
   .subst hjk;rw[List.getElem?_eq_getElem hkl]at hy;cases hy;exact h5
   .exact Fv (lt hy (List.getElem?_eq_getElem hkl) (by dsimp only at hj;omega)) h5
  .refine⟨(lo,k),⟨hk1,by show k<=l.length;omega,h3,λj y hj hy=>?_⟩,by show k-lo<hi-lo;omega,MT⟩;by_cases hjk:j=k
   .subst hjk;rw[List.getElem?_eq_getElem hkl]at hy;cases hy;omega
   .have h6:=lt (List.getElem?_eq_getElem hkl) hy (by dsimp only at hj;omega);refine Int.not_lt.1 λh7=>?_;exact h5 (Fv h6 h7)
 .have e:lo=hi:=by omega
  subst e;refine aE (λh5=>?_) (λh5=>?_)
  .have hlo:lo<l.length:=by omega
   obtain⟨b,o,u,ea,rd,hv⟩:=bH.at hs (List.getElem?_eq_getElem hlo);refine⟨b,o,ea,aC,h5,u,.imm rd,u,t,l[lo],r,rfl,hv,ht,?_⟩
   have e2:(dT l[lo] r==0)=Kd l r:=by
    rw[Bool.eq_iff_iff,beq_iff_eq,C0,jB];refine⟨λe=>e▸List.getElem_mem hlo,λhm=>?_⟩;obtain⟨j,hj⟩:=List.getElem?_of_mem hm;have hz:dT r r=0:=jB.2 rfl;by_cases h6:j<lo
    .have:=h3 j r h6 hj;omega
    .by_cases h7:j=lo
     .subst h7;exact(List.getElem?_eq_some_iff.1 hj).2
     .have h8:=lt (List.getElem?_eq_getElem hlo) hj aC;have h9:=h4 lo _ (Nat.le_refl _) (List.getElem?_eq_getElem hlo);omega
   rw[e2];exact hK
  .have e2:Kd l r=false:=by
    rw[Sr];intro hm;obtain⟨j,hj⟩:=List.getElem?_of_mem hm;have hz:dT r r=0:=jB.2 rfl;have:=h3 j r (by have:=(List.getElem?_eq_some_iff.1 hj).1;omega) hj;omega
   rw[e2]at hK;exact hK
theorem Uc:Sound Tryz.prog 38 WN:=by
 refine iB Tryz.func38 ?_;rintro cvs m h K ⟨s,t,i,l,k,rfl,hs,ht,hk,hl,hK⟩;refine⟨XG s t i m h,rfl,aD Ug aF,O4 s t i m h K,by kernel_rfl,?_⟩;dsimp only[O4,push_cast];have hsl:=bH.slen hs;refine⟨λx=>x.1<=l.length/\x.2.length<=x.1/\eK h x.2 ((l.take x.1).filter λx=>Kd k x==i),λx=>l.length-x.1,⟨(0,[]),⟨by simp,by simp,by simpa using eK.nil h⟩,MT⟩,?_⟩;rintro⟨j,us⟩ ⟨hj,hul,hu⟩;dsimp only at hj hul hu⊢
 refine aE (λhlt=>?_) (λhge=>?_)
 .obtain⟨r,hr⟩:=eY hsl hlt;obtain⟨b,o,u,e,rd,hv⟩:=bH.at hs hr;have hf:=iV (λx=>Kd k x==i) hr;rw[iM aC];refine⟨b,o,e,aC,hlt,u,.imm rd,t,u,k,r,rfl,ht,hv,hk,aB (λe1=>?_) (λe1=>?_)⟩
  .rw[if_pos e1]at hf;exact⟨by rw[List.length_map];omega,by rw[List.length_map];omega,(j+1,us++[u]),⟨by show j+1<=_;omega,by simp;omega,by rw[hf];exact hu.snoc hv⟩,by show l.length-(j+1)<l.length-j;omega,by rw[List.map_append];exact MT⟩
  .rw[if_neg (by rw[e1];simp),List.append_nil]at hf;exact⟨(j+1,us),⟨by show j+1<=_;omega,by show us.length<=j+1;omega,by rw[hf];exact hu⟩,by show l.length-(j+1)<l.length-j;omega,MT⟩
 .rw[List.take_of_length_le aC]at hu
  exactλs' h' le hri=>hK s' h' le ((hu.mono le).rows hri (by have:=List.length_filter_le (λx=>Kd k x==i) l;omega))
mutual
def zZ:Query->Bool
 |.mk op _ _ _ _ _ _ _ args=> !(op==7)&&(!(op==9)&&(!(op==10)&&FZ args))
def FZ:List Query->Bool
 |[]=>true
 |q::qs=>zZ q&&FZ qs
end
def Wm(a b:List (List (List VV))):Prop:=∀i,∀x∈a.getD i [],x∈b.getD i []
theorem Of{on:List (Int×Int)}{b b':List (List VV)}{x z:List VV}(h:∀y∈b,y∈b')(hz:z∈kD on b x):z∈kD on b' x:=by
 unfold kD at hz⊢
 split at hz
 .rename_i e;rw[if_pos e];obtain⟨y,hy,rfl⟩:=List.mem_map.1 hz;rw[List.mem_filter]at hy;exact List.mem_map.2 ⟨y,List.mem_filter.2 ⟨h y hy.1,hy.2⟩,rfl⟩
 .simp at hz
theorem WX{op:Int}{on:List (Int×Int)}{args:List Query}{a b:List (List (List VV))}(ha:0<=arity op)(h1:op≠1)(h7:op≠7)(h9:op≠9)(h10:op≠10)(h:Wm a b):∀x∈WY op (.mk op ta w co on gr od li args) a,x∈WY op (.mk op ta w co on gr od li args) b:=by
 intro x hx;have h0:=h 0;have hh1:=h 1
 have ar:op=2\/op=3\/op=4\/op=5\/op=6\/op=8:=by
  unfold arity at ha;split at ha
  .rename_i e;simp at e;omega
  .split at ha
   .rename_i e;simp at e;omega
   .split at ha
    .rename_i e;simp at e;omega
    .omega
 rcases ar with rfl|rfl|rfl|rfl|rfl|rfl
 .have hx:x∈(a.getD 0 []).filter _:=hx;rw[List.mem_filter]at hx;exact List.mem_filter.2 ⟨h0 x hx.1,hx.2⟩
 .have hx:x∈wN _:=hx;rw[uF]at hx;obtain⟨y,hy,rfl⟩:=List.mem_map.1 hx;exact uF.2 (List.mem_map.2 ⟨y,h0 y hy,rfl⟩)
 .have hx:x∈(a.getD 0 []).flatMap _:=hx;obtain⟨y,hy,hz⟩:=List.mem_flatMap.1 hx;exact List.mem_flatMap.2 ⟨y,h0 y hy,Of hh1 hz⟩
 .have hx:x∈(a.getD 0 []).filter _:=hx;rw[List.mem_filter,List.any_eq_true]at hx;obtain⟨hx,y,hy,e⟩:=hx;exact List.mem_filter.2 ⟨h0 x hx,List.any_eq_true.2 ⟨y,hh1 y hy,e⟩⟩
 .have hx:x∈wN _:=hx;rw[uF,List.mem_append]at hx;exact uF.2 (List.mem_append.2 (hx.imp (h0 x) (hh1 x)))
 .have hx:x∈(a.getD 0 []).filter _:=hx;rw[List.mem_filter,beq_iff_eq,C0]at hx;exact List.mem_filter.2 ⟨h0 x hx.1,by rw[beq_iff_eq,C0];exact hh1 x hx.2⟩
mutual
theorem Ob{s:nY}{ps:List Int}{a b:List (List (List VV))}(h:Wm a b):∀{q:Query}{ks:List Int}{k:Nat},bZ s ps q=(ks,0)->zZ q=true->(∀x∈(fO a q k).1,x∈(fO b q k).1)/\(fO a q k).2=(fO b q k).2
 |.mk op ta w co on gr od li args,ks,k,hk,hm=>by
  obtain⟨kss,h1,h2,_⟩:=w8 hk;simp only[zZ,Bool.and_eq_true,Bool.not_eq_true',beq_eq_false_iff_ne]at hm;obtain⟨h7,h9,h10,hm⟩:=hm;by_cases e:op=1
  .subst e;simp only[fO,if_true];exact⟨h k,trivial⟩
  .have e1:=KF (k:=k) h h1 hm;rw[fO,fO,if_neg e,if_neg e];exact⟨WX aC e h7 h9 h10 e1.1,e1.2⟩
theorem KF{s:nY}{ps:List Int}{a b:List (List (List VV))}(h:Wm a b):∀{qs:List Query}{kss:List (List Int)}{k:Nat},fZ s ps qs=(kss,0)->FZ qs=true->Wm (dV a qs k).1 (dV b qs k).1/\(dV a qs k).2=(dV b qs k).2
 |[],kss,k,_,_=>by
  rw[dV,dV];exact⟨λi x hx=>by simp at hx,rfl⟩
 |q::qs,kss,k,hk,hm=>by
  obtain⟨k1,kss',h1,h2,rfl⟩:=jY hk;simp only[FZ,Bool.and_eq_true]at hm;have e1:=Ob (k:=k) h h1 hm.1;have e2:=KF (k:=(fO a q k).2) h h2 hm.2;rw[dV,dV];rw[e1.2]at e2;refine⟨λi x hx=>?_,by rw[e1.2];exact e2.2⟩;cases i with
  |zero=>exact e1.1 x hx
  |succ i=>rw[e1.2]at hx;exact e2.1 i x hx
end
def SZ(N:Nat):Vc.Spec:=λcvs m h K=>∃v q,cvs=[aQ v]/\dD h q v/\SizeOf.sizeOf q<N/\pG q<=900000/\∀s' h',PH.le h h'->Ints h' s' (eH q)->K (cS s') m h'
def Wt:Vc.Spec:=λcvs m h K=>∃v q,cvs=[aQ v]/\dD h q v/\pG q<=900000/\∀s' h',PH.le h h'->Ints h' s' (eH q)->K (cS s') m h'
def Tc:Vc.Spec:=λcvs m h K=>∃sl st v q,cvs=[Yr sl,aQ v]/\Hz h sl st/\dD h q v/\pG q<=900000/\(∀t∈eH q,0<=t/\t<st.length)/\∀s' h',PH.le h h'->Leaves h' s' (jX st q)->K (cS s') m h'
def Ti:Vc.Spec:=λcvs m h K=>∃s r n,cvs=[cS s,cI n]/\cC h s r/\K (cB (decide ((r.length:Int)=n)&&r.all gT)) m h
structure Ck(s:nY)(c:Nat)(ls:List (List (List VV)))(ts:List Int):Prop where
 len:ls.length=ts.length
 at_:∀(j:Nat)(t:Int) l,ts[j]? =some t->ls[j]? =some l->gZ (gR s t).length l/\l.length<=c/\∀r∈l,r.all gT=true
def Yx:Vc.Spec:=λcvs m h K=>∃v s sl ls w q c,cvs=[aS v,cS sl,aQ w]/\gS h s v/\Leaves h sl ls/\dD h q w/\(fI s [] q).2=0/\1<=c/\Ck s c ls (eH q)/\lL c q<=1000000/\jD m/\∀s' h',PH.le h h'->Rows h' s' (fO ls q 0).1->K (.tup [cS s',cI 0]) m h'
noncomputable def Xn(N:Nat)(v:QV)(m:MH):Ctx:=
 dL [(75,SZ N)] [(5,{A:=Nat×List Int×PH,st:=λ⟨i,l,h⟩=>cD 29 30 [(1,.at (.ptr 1 0)),(3,.at (.lst 12)),(15,iv v.args.len),(16,iv i)] [(1,.cells 38 (v.enc.map .val)),(12,.lst 3 1 (l.map eI))] m h})]
  [(4,{A:=List Int×PH,st:=λ⟨l,h⟩=>cD 29 30 [(1,.at (.ptr 1 0)),(3,.at (.lst 12))] [(1,.cells 38 (v.enc.map .val)),(12,.lst 3 1 (l.map eI))] m h})] [] false
noncomputable def XI(sl:Sl)(m:MH):Ctx:=
 dL [(75,Wt)] [(3,{A:=Nat×Sl×List Sl×PH,st:=λ⟨i,s,us,h⟩=>cD 25 27 [(2,.at (.ptr 2 0)),(5,.at (.lst 22)),(9,sv s),(10,iv s.len),(11,iv i)] [(2,.cells 25 [.val (.slice sl.a sl.len sl.cap)]),(22,.lst 53 1 (us.map eS))] m h})] [] [] false
noncomputable def Xp(s:Sl)(m:MH)(h:PH):Ctx:=
 dL [(105,GO)] [(4,{A:=Nat,st:=λi=>cD 21 23 [(11,sv s),(12,iv s.len),(13,iv i)] [] m h})] [] [] false
noncomputable def XJ(v:bR)(sl:Sl)(w:QV):Ctx:=
 dL [(55,Ci),(57,RZ),(72,rX),(73,Ti),(74,Ws),(58,Nh)]
 [(8,{A:=Nat×Sl×MH×PH,st:=λ⟨i,s,m,h⟩=>cD 80 83 [(1,sv sl),(3,.at (.ptr 3 0)),(5,.at (.ptr 5 0)),(35,sv s),(36,iv s.len),(37,iv i)] [(3,.cells 43 (v.enc.map .val)),(5,.cells 38 (w.enc.map .val))] m h}),
  (12,{A:=Nat×Int×Sl×Nat×Sl×MH×PH,st:=λ⟨j,n,l,i,s,m,h⟩=>cD 80 83 [(1,sv sl),(3,.at (.ptr 3 0)),(5,.at (.ptr 5 0)),(13,iv n),(35,sv s),(36,iv s.len),(37,iv i),(49,sv l),(50,iv l.len),(51,iv j)] [(3,.cells 43 (v.enc.map .val)),(5,.cells 38 (w.enc.map .val))] m h}),
  (20,{A:=Nat×List Sl×MH×PH,st:=λ⟨i,us,m,h⟩=>cD 80 83 [(5,.at (.ptr 5 0)),(16,.at (.lst 63)),(64,sv sl),(65,iv sl.len),(66,iv i)] [(5,.cells 38 (w.enc.map .val)),(63,.lst 53 1 (us.map eS))] m h})] [] [] false
def OL(N:Nat)(v:QV)(m:MH)(h:PH)(K:CV->MH->PH->Prop):Prop:=
  ∃(I:List Int×PH->Prop),dR v.op 1 (aA (eO 8) (eO 1) (∃(x:List Int×PH),aA (I x) eD (aA (eL 12) (dQ v) (aH (cM 3 1 (gM (bW v.table))=DM x.1) (m=m) (h=x.2) True)))) (∃(x:List Int×PH),aA (I x) eD (aA (eL 12) (dQ v) (aH (pJ x.1) (m=m) (h=x.2) True)))/\∀(x:List Int×PH),I x->∃(I1:Nat×List Int×PH->Prop)(m1:Nat×List Int×PH->Nat),(∃(x1:Nat×List Int×PH),aA (I1 x1) eD (aA (eL 12) (qT v) (aA (aZ x1.1) (dQ v) (aA (AO x.1 x1.2.1) (m=m) (bN x.2 x1.2.2)))))/\∀(x1:Nat×List Int×PH),I1 x1->aW (↑x1.1:Int) (aG v.args) (bD (λb o=>aH (bE v.args.a b o) (0<=(↑x1.1:Int)) ((↑x1.1:Int)<aG v.args) (∃(y:QV),aL m x1.2.2 b (bF o x1.1 21) y.enc/\jV (λv1 q=>aA (vL (cN y)=vL (cN v1))
 (dD x1.2.2 q v1) (aA (nP q N) (pG q<=900000) (EX x1.2.2 q (λs h1=>∃(y1:List (List Value)),aA (eG 1 y1) (cR h1 (cV s) 1 y1) (aA (pX (gU x1.2.1) y1 8) (eO (pY (gU x1.2.1) y1)) (∃(x2:Nat×List Int×PH),aA (I1 x2) (m1 x2<m1 x1) (aA eD (eL 12) (aA (qT v) (fV (bB x1.1 1)=bM x2.1) (aA (dQ v) (cM 3 1 (gU x1.2.1++y1)=DM x2.2.1) (bT (m=m) h1 x2.2.2))))))))))))) (bV x1.2.2 1 (gU x1.2.1) (λs h1=>K (lY s) m h1))
def O6(sl:Sl)(v:QV)(m:MH)(h:PH)(K:CV->MH->PH->Prop):Prop:=
  jV (λv1 q=>aH (tW v v1) (dD h q v1) (pG q<=900000) (EX h q (λs h1=>∃(I:Nat×Sl×List Sl×PH->Prop)(m1:Nat×Sl×List Sl×PH->Nat),(∃(x:Nat×Sl×List Sl×PH),aA (I x) gC (aA (eL 22) (bI s x.2.1) (aA (bP s x.2.1) (aZ x.1) (aA (qV (jR (uC sl))) (mM 53 1 (pV x.2.2.1)) (bT (m=m) h1 x.2.2.2)))))/\∀(x:Nat×Sl×List Sl×PH),I x->aW (↑x.1:Int) (aG x.2.1) (bD (λb o=>aH (bE x.2.1.a b o) (0<=(↑x.1:Int)) ((↑x.1:Int)<aG x.2.1) (∃(y:Int),aL m x.2.2.2 b (bF o x.1 1) (bW y)/\cZ sl.a y sl (λb1 o1 y1=>aH (aL m x.2.2.2 b1 (fJ o1 y 1) (aK y1)) (iG (eU x.2.2.1)) (dN (eU x.2.2.1)) (∃(x1:Nat×Sl×List Sl×PH),aA (I x1) (m1 x1<m1 x) (aA gC (eL 22) (aA (bI x.2.1 x1.2.1) (bP x.2.1 x1.2.1) (aA
 (fV (bB x.1 1)=bM x1.1) (qV (jR (uC sl))) (aH (cM 53 1 (eT (eU x.2.2.1) (aK y1))=pV x1.2.2.1) (m=m) (x.2.2.2=x1.2.2.2) True))))))))) (bV x.2.2.2 1 (eU x.2.2.1) (λs1 h2=>K (lY s1) m h2)))))
def OM(s:Sl)(n:Int)(m:MH)(h:PH)(K:CV->MH->PH->Prop):Prop:=
  eR (aG s) n (K aU m h) (lV (λI x=>aA (I x) (aJ s) (aA (bJ s) (aZ x) (bT (m=m) h h))) (λI m1 x=>I x->aW (↑x:Int) (aG s) (bD (λb o=>aH (bE s.a b o) (0<=(↑x:Int)) ((↑x:Int)<aG s) (∃(y:VV),aL m h b (bF o x 3) y.enc/\∃(v:VV),fT (fC y) (fC v)/\gV (!(gT v)) (K aU m h) (λx1=>aA (I x1) (m1 x1<m1 x) (aA (aJ s) (bJ s) (aH (fV (bB x 1)=bM x1) (m=m) (h=h) True)))))) (K fK m h)))
noncomputable abbrev kK(a:Nat×Int×Sl×Nat×Sl×MH×PH):Sl×MH×PH:=a.2.2.2.2
noncomputable abbrev tV(a:Nat×Int×Sl×Nat×Sl×MH×PH):Sl:=a.2.2.1
noncomputable abbrev A7(a:Nat×List Sl×MH×PH):Nat->Nat->Option Value:=a.2.2.2
attribute [push_cast] kK tV A7
def O7(v:bR)(sl:Sl)(w:QV)(m:MH)(h:PH)(K:CV->MH->PH->Prop):Prop:=
  CI (cE (cA v) (bK Dm (cN w))) h (λs p q=>mD (mX q)/\∀(s1:Sl)(h1:PH),dE h h1 (Ints h1 s1 (fI s p q).1) (eR (fI s p q).2 0 (K (CV.tup (bK Dm (CV.val (eN (fI s p q).2)))) m h1) (jV (λv1 q1=>aH (tW w v1) (dD h1 q1 v1) (pG q1<=900000) (EX h1 q1 (λs2 h2=>eR (aG sl) (aG s2) (dK K 1 m h2) (∃(I:Nat×Sl×MH×PH->Prop)(m1:Nat×Sl×MH×PH->Nat),(∃(x:Nat×Sl×MH×PH),aA (I x) (aJ sl) (aA (eP 3) eE (aA (bI s2 x.2.1) (bP s2 x.2.1) (aA (aZ x.1) (bL v) (aH (dQ w) (bG m x.2.2) (h2=rN x) True)))))/\∀(x:Nat×Sl×MH×PH),I x->aW (↑x.1:Int) (aG x.2.1) (bD (λb o=>aH (bE x.2.1.a b o) (0<=(↑x.1:Int)) ((↑x.1:Int)<aG x.2.1) (∃(y:Int),aL (jH x.2) (rN x) b (bF o x.1 1)
 (bW y)/\xU (cJ (jK (cA v)) y) (rN x) (λs3 h3=>cZ sl.a (↑x.1:Int) sl (λb1 o1 y1=>aL (jH x.2) h3 b1 (bF o1 x.1 1) (aK y1)/\∃(I1:Nat×Int×Sl×Nat×Sl×MH×PH->Prop)(m2:Nat×Int×Sl×Nat×Sl×MH×PH->Nat),(∃(x1:Nat×Int×Sl×Nat×Sl×MH×PH),aA (I1 x1) (aJ sl) (aA (eP 3) eE (aA (bM s3.len=fV x1.2.1) (bI x.2.1 (kK x1).1) (aA (bP x.2.1 (kK x1).1) (bX x.1 x1.2.2.2.1) (aA (bI y1 (tV x1)) (bP y1 (tV x1)) (aA (aZ x1.1) (bL v) (aH (dQ w) (bG (jH x.2) (kK x1).2) (h3=(kK x1).2.2) True)))))))/\∀(x1:Nat×Int×Sl×Nat×Sl×MH×PH),I1 x1->aW (↑x1.1:Int) (aG (tV x1)) (cZ (tV x1).a (↑x1.1:Int) (tV x1) (λb2 o2 y2=>aL (jH (kK x1)) (kK x1).2.2 b2 (bF o2 x1.1 1) (aK
 y2)/\kP (λs4 r=>∃(n:Int),aA (iK y2 x1.2.1=iK s4 n) (cC (kK x1).2.2 s4 r) (branch (!(Bool.and (decide ((↑r.length:Int)=n)) (List.all r gT))) (dK K 71 (jH (kK x1)) (kK x1).2.2) (∃(x2:Nat×Int×Sl×Nat×Sl×MH×PH),aA (I1 x2) (m2 x2<m2 x1) (aA (aJ sl) (eP 3) (aA eE (cL x1.2.1 x2.2.1) (aA (bI (kK x1).1 (kK x2).1) (bP (kK x1).1 (kK x2).1) (aA (bX x1.2.2.2.1 x2.2.2.2.1) (bI (tV x1) (tV x2)) (aA (bP (tV x1) (tV x2)) (fV (bB x1.1 1)=bM x2.1) (aA (bL v) (dQ w) (aA (bG (jH (kK x1)) (kK x2).2) ((kK x1).2.2=(kK x2).2.2) True)))))))))))) (∃(x2:Nat×Sl×MH×PH),aA (I x2) (m1 x2<m1 x) (aA (aJ sl) (eP 3) (aA eE (bI (kK x1).1 x2.2.1) (aA (bP (kK x1).1 x2.2.1) (fV (bB
 x1.2.2.2.1 1)=bM x2.1) (aA (bL v) (dQ w) (aA (bG (jH (kK x1)) x2.2.2) ((kK x1).2.2=rN x2) True))))))))))) (HY sl (∃(I1:Nat×List Sl×MH×PH->Prop)(m2:Nat×List Sl×MH×PH->Nat),(∃(x1:Nat×List Sl×MH×PH),aA (I1 x1) eE (aA (eL 63) (aJ sl) (aA (bJ sl) (aZ x1.1) (aA (dQ w) (CU 53 1 (aG sl) iL (pV x1.2.1)) (bT (bG (jH x.2) x1.2.2) (rN x) (A7 x1))))))/\∀(x1:Nat×List Sl×MH×PH),I1 x1->aW (↑x1.1:Int) (aG sl) (cZ sl.a (↑x1.1:Int) sl (λb o y=>aL x1.2.2.1 (A7 x1) b (bF o x1.1 1) (aK y)/\∃(s3:Sl),EH y s3 x1.2.2.1 (A7 x1) 1 (λl=>∀(s4:Sl)(h3:PH),dE (A7 x1) h3 (Rows h3 s4 (wN l)) (aA (cG (↑x1.1:Int)) ((↑x1.1:Int)<j9 (eU x1.2.1)) (∃(e:List Value),aA (tX (eU
 x1.2.1) (pU x1.1) e) (0<e.length) (∃(x2:Nat×List Sl×MH×PH),aA (I1 x2) (m2 x2<m2 x1) (aA eE (eL 63) (aA (aJ sl) (bJ sl) (aA (fV (bB x1.1 1)=bM x2.1) (dQ w) (aH (cM 53 1 (List.set (eU x1.2.1) (pU x1.1) (eC s4::List.drop 1 e))=pV x2.2.1) (bG x1.2.2.1 x2.2.2) (h3=A7 x2) True)))))))))) (bV (A7 x1) 1 (eU x1.2.1) (λs3 h3=>∃(l:Sl)(v2:QV)(l1:List (List (List VV)))(q2:Query),aA (gL s3 (cN w)=gL l (cN v2)) (Leaves h3 l l1) (aA (dD h3 q2 v2) (Sm l1 q2 0) (aH (jD x1.2.2.1) ((fO l1 q2 0).1.length<=1000000) (AV (fO l1 q2 0).1 (λr=>wS r)) (∀(s4:Sl)(h4:PH),dE h3 h4 (Rows h4 s4 (fO l1 q2 0).1) (K (CV.tup (cJ (lY s4) 0)) x1.2.2.1 h4)))))))))))))))
theorem Eg{q:Query}:∀{l:List Query},dC (l++[q])=dC l++eH q
 |[]=>by simp[dC]
 |p::l=>by rw[List.cons_append,dC,Eg,dC,List.append_assoc]
theorem SD:∀N,Sound Tryz.prog 75 (SZ N)
 |0=>by
  refine eJ (fn:=Tryz.f75) (c:=dO Tryz.f75) Tryz.func75 rfl (by decide) ?_;rintro cvs m h K ⟨v,q,rfl,hq,hN,_⟩;omega
 |N+1=>by
  refine iB Tryz.func75 ?_;rintro cvs m h K ⟨v,q,rfl,hq,hN,hc,hK⟩;refine⟨Xn N v m,rfl,aD (SD N) aF,OL N v m h K,by kernel_rfl,?_⟩;dsimp only[OL,push_cast];have hsl:=wG q;obtain⟨op,ta,w,co,on,gr,od,li,args⟩:=q;have xq:=hq.parts;have hargs:=xq.args_;have hal:=bH.slen hargs;have hal2:=bH.len hargs;have hvop:v.op=op:=xq.op_;have hvta:v.table=ta:=xq.table_;rw[eH]at hK hsl;rw[pG]at hc hsl;refine⟨λz=>z=(if op=1 then[ta]else[],h),aB (λe=>?_) (λe=>?_),?_⟩
  .have e:op=1:=by rw[<-hvop];simpa using e
   exact⟨aC,aC,([ta],h),by rw[if_pos e],by rw[hvta];exact MT⟩
  .have e:op≠1:=by rw[<-hvop];simpa using e
   exact⟨([],h),by rw[if_neg e],MT⟩
  rintro _ rfl;dsimp only;generalize (if op=1 then[ta]else[])=l0 at hK hsl;refine⟨λz=>z.1<=args.length/\z.2.1=l0++dC (args.take z.1)/\PH.le h z.2.2,λz=>args.length-z.1,⟨(0,l0,h),⟨by simp,by simp[dC],.refl _⟩,MT⟩,?_⟩;rintro⟨i,l,hx⟩ ⟨hi,hl,le⟩;dsimp only at hi hl le⊢
  subst hl
  have hmono:∀j,(dC (args.take j)).length<=(dC args).length:=λj=>by
   have h5:∀(a b:List Query),(dC a).length<=(dC (a++b)).length:=λa b=>by
    induction a with
    |nil=>simp[dC]
    |cons p a ih=>rw[List.cons_append,dC,dC,List.length_append,List.length_append];omega
   have:=h5 (args.take j) (args.drop j)
   rwa [List.take_append_drop]at this
  have hpre:=hmono i;rw[List.length_append]at hsl;refine aE (λhlt=>?_) (λhge=>?_)
  .obtain⟨p,hp⟩:=eY hal hlt;obtain⟨b,o,u,ea,hrd,hru⟩:=bH.at (yY.mono hargs le) hp;have hmem:=List.mem_of_getElem? hp
   have hsz:SizeOf.sizeOf p<N:=by
    have:=List.sizeOf_lt_of_mem hmem;simp only[Query.mk.sizeOf_spec]at hN;omega
   have hcp:=MZ hmem;have hsn:dC (args.take (i+1))=dC (args.take i)++eH p:=by rw[List.take_add_one,hp,Option.toList_some,Eg]
   have hpre2:(dC (args.take (i+1))).length<=(dC args).length:=hmono _;rw[hsn,List.length_append]at hpre2;refine⟨b,o,ea,aC,aC,u,.imm hrd,u,p,rfl,hru,hsz,aC,λs h2 le2 hi2=>⟨(eH p).map eI,xJ _,hi2.row,?_,?_,(i+1,l0++dC (args.take i)++eH p,h2),⟨by show i+1<=_;omega,by rw[hsn,List.append_assoc],le.trans le2⟩,by show args.length-(i+1)<args.length-i;omega,?_⟩⟩
   .rw[List.length_map,List.length_map,List.length_append];omega
   .rw[List.length_map,List.length_map,List.length_append];omega
   .rw[iM aC];dsimp only;rw[List.map_append (l₁:=l0++_)];exact MT
  .rw[List.take_of_length_le aC]
   exactλs h' le' hri=>hK s h' (le.trans le') ⟨hri,by rw[List.length_append];omega⟩
theorem T2:Sound Tryz.prog 75 Wt:=nZ SD λ_ _ _ _⟨v,q,e,h1,h2,h3⟩=>⟨SizeOf.sizeOf q+1,v,q,e,h1,aC,h2,h3⟩
structure sD(h:PH)(us:List Sl)(ls:List (List (List VV))):Prop where
 len:us.length=ls.length
 at_:∀(j:Nat) l,ls[j]? =some l->∃u,us[j]? =some u/\Rows h u l
theorem sD.mono{us:List Sl}{ls:List (List (List VV))}(x:sD h us ls)(le:PH.le h h'):sD h' us ls:=⟨x.len,λj l hl=>(x.at_ j l hl).imp λ_ hu=>⟨hu.1,bH.mono hu.2 le λr t hv=>cC.mono hv le⟩⟩
theorem sD.nil(h:PH):sD h [] []:=⟨rfl,λj x hx=>by simp at hx⟩
theorem sD.snoc{us:List Sl}{ls:List (List (List VV))}(x:sD h us ls){u:Sl}{l:List (List VV)}(hv:Rows h u l):sD h (us++[u]) (ls++[l]):=by
 refine⟨by simp[x.len],λj r hr=>?_⟩;by_cases hj:j<ls.length
 .rw[List.getElem?_append_left hj]at hr;obtain⟨u',h1,h2⟩:=x.at_ j r hr;exact⟨u',by rw[List.getElem?_append_left (by rw[x.len];exact hj)];exact h1,h2⟩
 .rw[List.getElem?_append_right aC]at hr;have:j-ls.length=0:=by have:=(List.getElem?_eq_some_iff.1 hr).1;simp at this;omega
  rw[this]at hr;simp at hr;subst hr;exact⟨u,by rw[List.getElem?_append_right (by rw[x.len];omega),x.len,this];rfl,hv⟩
theorem sD.leaves{us:List Sl}{ls:List (List (List VV))}{s:Sl}(x:sD h us ls)(hr:cR h s 1 (us.map eS))(hl:ls.length<=1000000):Leaves h s ls:=⟨⟨us,hr,x.len.symm,λi l hi=>x.at_ i l hi⟩,aC⟩
theorem Ue:Sound Tryz.prog 36 Tc:=by
 refine iB Tryz.func36 ?_;rintro cvs m h K ⟨sl,st,v,q,rfl,hst,hq,hc,hin,hK⟩;refine⟨XI sl m,rfl,aD T2 aF,O6 sl v m h K,by kernel_rfl,?_⟩;dsimp only[O6,push_cast];have hsl:=wG q;refine⟨v,q,rfl,hq,hc,λs' h2 le2 hi=>?_⟩;have hil:=hi.slen;have hst2:=hst.mono le2;have hstl:=bH.slen hst2.lea;have hlq:jX st q=(eH q).map λt=>st.getD t.toNat []:=rfl;generalize jX st q=L at hlq hK;generalize eH q=ts at hi hil hsl hin hlq;have hLl:L.length=ts.length:=by rw[hlq,List.length_map]
 refine⟨λz=>z.1<=ts.length/\z.2.1=s'/\z.2.2.2=h2/\sD h2 z.2.2.1 (L.take z.1),λz=>ts.length-z.1,⟨(0,s',[],h2),⟨by simp,rfl,rfl,by simpa using sD.nil h2⟩,MT⟩,?_⟩;rintro⟨i,s2,us,h3⟩ ⟨hi1,e3,e5,hu⟩;dsimp only at hi1 e3 e5 hu⊢
 subst e3 e5;have hul:=hu.len;rw[List.length_take]at hul;refine aE (λhlt=>?_) (λhge=>?_)
 .obtain⟨t,hx⟩:=eY hil hlt;obtain⟨b,o,ea,rd⟩:=hi.at' hx;have ht:=hin t (List.mem_of_getElem? hx);have htn:t.toNat<st.length:=by omega
  have e6:st[t.toNat]? =some (st.getD t.toNat []):=by rw[List.getD_eq_getElem?_getD,List.getElem?_eq_getElem htn];rfl
  obtain⟨b2,o2,u,ea2,rd2,hr⟩:=bH.at hst2.lea e6;have hLi:L[i]? =some (st.getD t.toNat []):=by rw[hlq,List.getElem?_map,hx];rfl
  refine⟨b,o,ea,aC,aC,t,.imm rd,b2,o2,ea2,ht.1,aC,u,.imm rd2,by rw[List.length_map];omega,by rw[List.length_map];omega,(i+1,s2,us++[u],h3),⟨by show i+1<=ts.length;omega,rfl,rfl,by rw[List.take_add_one,hLi];exact hu.snoc hr⟩,by show ts.length-(i+1)<ts.length-i;omega,?_⟩;rw[iM aC,List.map_append];exact MT
 .rw[List.take_of_length_le aC]at hu
  exactλs3 h4 le4 hri=>hK s3 h4 (le2.trans le4) ((hu.mono le4).leaves hri aC)
theorem T3:Sound Tryz.prog 73 Ti:=by
 refine iB Tryz.func73 ?_;rintro cvs m h K ⟨s,r,n,rfl,hs,hK⟩;refine⟨Xp s m h,rfl,aD DX aF,OM s n m h K,by kernel_rfl,?_⟩;dsimp only[OM,push_cast];have hsl:=bH.slen hs;have hl:=bH.len hs;refine aB (λe=>?_) (λe=>?_)
 .have e:¬(r.length:Int)=n:=by rw[<-hsl];simpa using e
  rw[decide_eq_false e,Bool.false_and]at hK;exact hK
 have e:(r.length:Int)=n:=by rw[<-hsl];simpa using e
 rw[decide_eq_true e,Bool.true_and]at hK;refine⟨λi=>i<=r.length/\(r.take i).all gT=true,λi=>r.length-i,⟨0,⟨aC,by simp⟩,MT⟩,λi hi=>aE (λhlt=>?_) (λhge=>?_)⟩
 .obtain⟨y,hy⟩:=eY hsl hlt;obtain⟨b,o,u,ea,rd,hv⟩:=bH.at hs hy;have hv:y=u:=hv;subst hv;refine⟨b,o,ea,aC,hlt,y,.imm rd,y,rfl,aB (λhd=>?_) (λhd=>?_)⟩
  .have:r.all gT=false:=by
    rw[Bool.eq_false_iff];intro h2;rw[List.all_eq_true.1 h2 y (List.mem_of_getElem? hy)]at hd;cases hd
   rw[this]at hK;exact hK
  .have hd:gT y=true:=by simpa using hd
   rw[iM aC];exact⟨i+1,⟨aC,by rw[List.take_add_one,hy,List.all_append,hi.2];simp[hd]⟩,by show r.length-(i+1)<r.length-i;omega,MT⟩
 .have:=hi.2;rw[List.take_of_length_le aC]at this;rw[this]at hK;exact hK
theorem Uf:Sound Tryz.prog 35 Yx:=by
 refine iB Tryz.func35 ?_;rintro cvs m h K ⟨v,s,sl,ls,w,q,c,rfl,hs,hlv,hq,he,c1,hov,hb,hT,hK⟩;refine⟨XJ v sl w,rfl,aD f55q_sound (aD f57_sound (aD Gc (aD T3 (aD C2 (aD f58_sound aF))))),O7 v sl w m h K,by kernel_rfl,?_⟩;dsimp only[O7,push_cast];obtain⟨hse,_,hsm,hkz⟩:=xK he;have hkq:bZ s [] q=((bZ s [] q).1,0):=Prod.ext rfl hkz;have hcnt:=Ct hsm;have hsl:=wG q;have hin:=BI hkq;have h8:=sG hse
 have hev:=Ca c1 (ls:=ls) (k:=0) hkq ⟨λj t hj=>by
  have hjl:=(List.getElem?_eq_some_iff.1 hj).1;have hl:=hov.len;have e1:ls[j]? =some ls[j]:=List.getElem?_eq_getElem aC;have:=hov.at_ j t _ hj e1;exact⟨_,by rw[Nat.zero_add];exact e1,this.1,this.2.1⟩⟩ hb
 have hlsl:=bH.slen hlv;have hlen:=hov.len;refine⟨v,cF,w,s,[],q,rfl,hs,kZ h,hq,hsm,λsl1 h1 le1 _=>aB (λe=>?_) (λ_=>?_)⟩
 .rw[he]at e;simp at e
 refine⟨w,q,rfl,hq.mono le1,aC,λs' h2 le2 hi=>aB (λe=>?_) (λ_=>?_)⟩
 .have:=hi.slen;have:(sl.len:Int)=s'.len:=by omega
  rw[this]at e;simp at e
 have hil:=hi.slen;have le12:=le1.trans le2;have hov2:=hov.at_;generalize eH q=ts at hi hil hsl hin hov2 hlen;have lv2:∀{hx},PH.le h hx->Leaves hx sl ls:=fun{hx} le=>bH.mono hlv le λl s hr=>bH.mono hr le λr t hv=>cC.mono hv le;refine⟨λz=>z.1<=ts.length/\z.2.1=s'/\z.2.2.1=m/\PH.le h2 z.2.2.2,λz=>ts.length-z.1,⟨(0,s',m,h2),⟨by simp,rfl,rfl,.refl _⟩,MT⟩,?_⟩;rintro⟨i,s2,m2,hx⟩ ⟨hi1,e3,e4,lex⟩;dsimp only at hi1 e3 e4 lex⊢
 subst e3 e4;refine aE (λhlt=>?_) (λhge=>?_)
 .obtain⟨t,ht⟩:=eY hil hlt;obtain⟨b,o,ea,rd⟩:=(hi.mono lex).at' ht;have e1:ls[i]? =some ls[i]:=List.getElem?_eq_getElem aC;obtain⟨hrel,_,hval⟩:=hov2 i t _ ht e1;refine⟨b,o,ea,aC,aC,t,.imm rd,v,s,t,rfl,hs.mono (le12.trans lex),h8,λsk h3 le3 hk=>?_⟩;obtain⟨b2,o2,u,ea2,rd2,hr⟩:=bH.at (lv2 (le12.trans (lex.trans le3))) e1;have hkl:=hk.slen;have hul:=bH.slen hr;refine⟨b2,o2,ea2,aC,aC,u,.imm rd2,λz=>z.1<=ls[i].length/\z.2=(((gR s t).length:Int),u,i,s2,m2,h3),λz=>ls[i].length-z.1,⟨(0,((gR s t).length:Int),u,i,s2,m2,h3),⟨by simp,rfl⟩,by rw[hkl];exact MT⟩,?_⟩;rintro⟨j,z⟩ ⟨hj,e⟩;dsimp only at hj e;subst e;dsimp only;refine aE (λhlt2=>?_) (λhge2=>?_)
  .obtain⟨r,hrj⟩:=eY hul hlt2;obtain⟨b3,o3,ur,ea3,rd3,hv⟩:=bH.at hr hrj;have hrm:=List.mem_of_getElem? hrj;have hll:=hrel.len;refine⟨b3,o3,ea3,aC,aC,ur,.imm rd3,ur,r,_,rfl,hv,aB (λe=>?_) (λ_=>?_)⟩
   .rw[hval r hrm,hrel.wid r hrm]at e;simp at e
   .rw[iM aC];exact⟨(j+1,((gR s t).length:Int),u,i,s2,m2,h3),⟨by show j+1<=_;omega,rfl⟩,by show ls[i].length-(j+1)<ls[i].length-j;omega,MT⟩
  .rw[iM aC];exact⟨(i+1,s2,m2,h3),⟨by show i+1<=_;omega,rfl,rfl,lex.trans le3⟩,by show ts.length-(i+1)<ts.length-i;omega,MT⟩
 .refine⟨aC,aC,aC,aC,λz=>z.1<=ls.length/\z.2.2.1=m2/\PH.le hx z.2.2.2/\∃us,z.2.1=us++List.replicate (ls.length-z.1) ⟨none,0,0⟩/\sD z.2.2.2 us (ls.take z.1),λz=>ls.length-z.1,⟨(0,List.replicate ls.length ⟨none,0,0⟩,m2,hx),⟨by simp,rfl,.refl _,[],by simp,by simpa using sD.nil hx⟩,?_⟩,?_⟩
  .rw[show((sl.len:Int)).toNat=ls.length by omega];dsimp only;rw[List.map_replicate];exact MT
  rintro⟨i2,l,m3,hy⟩ ⟨hi2,e4,ley,us,hl,hu⟩;dsimp only at hi2 e4 ley hl hu⊢
  subst e4;have hul:=hu.len;rw[List.length_take]at hul;refine aE (λhlt2=>?_) (λhge2=>?_)
  .have e1:ls[i2]? =some ls[i2]:=List.getElem?_eq_getElem aC;have et:ts[i2]? =some ts[i2]:=List.getElem?_eq_getElem aC;obtain⟨hrel,_,_⟩:=hov2 i2 _ _ et e1;have ley2:=le12.trans (lex.trans ley);obtain⟨b2,o2,u,ea2,rd2,hr⟩:=bH.at (lv2 ley2) e1;obtain⟨rs,h7,h8,h9⟩:=hr.ex;have hll:=hrel.len;have hlen2:l.length=ls.length:=by rw[hl,List.length_append,List.length_replicate];omega
   have hev2:l[i2]? =some ⟨none,0,0⟩:=by
    rw[hl,List.getElem?_append_right aC,List.getElem?_replicate,if_pos aC]
   refine⟨b2,o2,ea2,aC,aC,u,.imm rd2,u,rs,ls[i2],rfl,.imm h7,⟨h8.symm,h9⟩,aC,λs5 h5 le5 hr5=>⟨aC,by rw[List.length_map];omega,[uE],by rw[List.getElem?_map,show((i2:Int)).toNat=i2 from rfl,hev2];rfl,by simp,(i2+1,l.set i2 s5,m3,h5),⟨by show i2+1<=_;omega,rfl,ley.trans le5,us++[s5],?_,?_⟩,by show ls.length-(i2+1)<ls.length-i2;omega,?_⟩⟩
   .dsimp only;rw[hl,List.set_append,if_neg aC,List.append_assoc];congr 1;rw[show ls.length-i2=(ls.length-(i2+1))+1 by omega,List.replicate_succ,show i2-us.length=0 by omega];rfl
   .dsimp only;rw[List.take_add_one,e1];rw[Tx hrel.srt]at hr5;exact(hu.mono le5).snoc hr5
   .dsimp only
    have e9:((l.map eS).set ((i2:Int)).toNat (eC s5::List.drop 1 [uE]))=(l.set i2 s5).map eS:=by
     rw[List.map_set];rfl
    rw[e9,iM aC];exact MT
  .have:i2=ls.length:=by omega
   subst this;rw[Nat.sub_self,List.replicate_zero,List.append_nil]at hl;subst hl;rw[List.take_length]at hu;intro s6 h6 le6 hri;have le06:=(le12.trans (lex.trans ley)).trans le6;exact⟨s6,w,ls,q,rfl,(hu.mono le6).leaves hri aC,hq.mono le06,hev.ok,hT,Nat.le_trans hev.bnd hb,λr hr=>by have:=(hev.rel.row r hr).len;omega,λs7 h7 le7 hr7=>hK s7 h7 (le06.trans le7) hr7⟩
theorem TN{t:uD}{r:List VV}(h:Be t r=true):r.all gT=true:=by
 rw[List.all_eq_true];intro v hv;obtain⟨i,hi⟩:=List.getElem?_of_mem hv;have hil:=(List.getElem?_eq_some_iff.1 hi).1;unfold Be at h;rw[Bool.and_eq_true,List.all_eq_true]at h;have:=h.2 i (List.mem_range.2 hil);unfold uY at this;rw[Bool.and_eq_true,List.getD_eq_getElem?_getD,hi]at this;exact this.1
theorem Qb{st:List (List (List VV))}(hp:uO s)(hst:Nd s st)(hin:∀t∈eH q,0<=t/\t<s.tables.length):Ck s 4 (jX st q) (eH q):=by
 refine⟨by rw[jX,List.length_map],λj t l h1 h2=>?_⟩;rw[jX,List.getElem?_map,h1]at h2;simp only[Option.map_some,Option.some.injEq]at h2;subst h2;obtain⟨t0,t1⟩:=hin t (List.mem_of_getElem? h1);obtain⟨hr,hm⟩:=U2 (Vl hp hst) hst.val t0 t1;refine⟨hr,hst.few _ hm,λr hrm=>?_⟩;have hl:=hst.len;have e1:s.tables[t.toNat]? =some s.tables[t.toNat]:=List.getElem?_eq_getElem aC;have e2:st[t.toNat]? =some (st.getD t.toNat []):=by rw[List.getD_eq_getElem?_getD,List.getElem?_eq_getElem aC];rfl
 exact TN ((hst.ok _ _ _ e1 e2).1 r hrm)
def YC(N:Nat):Vc.Spec:=λcvs m h K=>∃v q,cvs=[aQ v]/\dD h q v/\SizeOf.sizeOf q<N/\K (cB (zZ q)) m h
noncomputable def XH(N:Nat)(v:QV)(m:MH)(h:PH):Ctx:=
 dL [(37,YC N)] [(4,{A:=Nat,st:=λi=>cD 31 32 [(1,.at (.ptr 1 0)),(19,iv v.args.len),(20,iv i)] [(1,.cells 38 (v.enc.map .val))] m h})] [] [] false
def YB:Vc.Spec:=λcvs m h K=>∃v q,cvs=[aQ v]/\dD h q v/\K (cB (zZ q)) m h
noncomputable def KN:List (Nat×Vc.Spec):=(37,YB)::(35,Yx)::(36,Tc)::(38,WN)::Oc
noncomputable def X8:Ctx:=uM KN
 [(9,{A:=Nat×Nat×bR×QV×Sl×List Sl×List Sl×MH×PH,st:=λ⟨i,cb,sc,a,s,us,ws,m,h⟩=>cD 92 93 [(3,pv cb),(4,.at (.ptr 4 0)),(5,.at (.ptr 5 0)),(7,.at (.lst 56)),(8,.at (.lst 60)),(34,sv s),(35,iv s.len),(36,iv i)] [(4,.cells 43 (sc.enc.map .val)),(5,.cells 38 (a.enc.map .val)),(56,.lst 53 1 (us.map eS)),(60,.lst 53 1 (ws.map eS))] m h}),
  (13,{A:=Nat×List Sl×Sl×Nat×Nat×bR×QV×Sl×List Sl×List Sl×MH×PH,st:=λ⟨j,rs,l,i,cb,sc,a,s,us,ws,m,h⟩=>cD 92 93 [(3,pv cb),(4,.at (.ptr 4 0)),(5,.at (.ptr 5 0)),(7,.at (.lst 56)),(8,.at (.lst 60)),(10,sv l),(11,.at (.lst 51)),(34,sv s),(35,iv s.len),(36,iv i),(40,sv l),(41,iv l.len),(42,iv j)] [(4,.cells 43 (sc.enc.map .val)),(5,.cells 38 (a.enc.map .val)),(51,.lst 74 1 (rs.map eS)),(56,.lst 53 1 (us.map eS)),(60,.lst 53 1 (ws.map eS))] m h})] [] [] [] [] false
def O5(N:Nat)(v:QV)(m:MH)(h:PH)(K:CV->MH->PH->Prop):Prop:=
  dA (v.op==7) (K aU m h) (v.op==9) (K aU m h) (dR v.op 10 (K aU m h) (lV (λI x=>aA (I x) eD (aA (qT v) (aZ x) (aH (dQ v) (m=m) (h=h) True))) (λI m1 x=>I x->aW (↑x:Int) (aG v.args) (bD (λb o=>aH (bE v.args.a b o) (0<=(↑x:Int)) ((↑x:Int)<aG v.args) (∃(y:QV),aL m h b (bF o x 21) y.enc/\jV (λv1 q=>aH (tW y v1) (dD h q v1) (nP q N) (gV (!(zZ q)) (K aU m h) (λx1=>aA (I x1) (m1 x1<m1 x) (aA eD (qT v) (aA (fV (bB x 1)=bM x1) (dQ v) (aA (m=m) (h=h) True))))))))) (K fK m h))))
noncomputable abbrev kL(a:Nat×Nat×bR×QV×Sl×List Sl×List Sl×MH×PH):Sl:=a.2.2.2.2.1
noncomputable abbrev uS(a:Nat×Nat×bR×QV×Sl×List Sl×List Sl×MH×PH):bR:=a.2.2.1
noncomputable abbrev pM(a:Nat×Nat×bR×QV×Sl×List Sl×List Sl×MH×PH):QV:=a.2.2.2.1
noncomputable abbrev iJ(a:Nat×Nat×bR×QV×Sl×List Sl×List Sl×MH×PH):MH×PH:=a.2.2.2.2.2.2.2
noncomputable abbrev cX(a:Nat×List Sl×Sl×Nat×Nat×bR×QV×Sl×List Sl×List Sl×MH×PH):Nat×Nat×bR×QV×Sl×List Sl×List Sl×MH×PH:=a.2.2.2
noncomputable abbrev yH(a:Nat×List Sl×Sl×Nat×Nat×bR×QV×Sl×List Sl×List Sl×MH×PH):Nat:=(cX a).2.1
noncomputable abbrev lW(a:Nat×List Sl×Sl×Nat×Nat×bR×QV×Sl×List Sl×List Sl×MH×PH):Sl:=a.2.2.1
noncomputable abbrev CP(a:Nat×List Sl×Sl×Nat×Nat×bR×QV×Sl×List Sl×List Sl×MH×PH):Option Go.Vc.Own:=pV (cX a).2.2.2.2.2.1
noncomputable abbrev CQ(a:Nat×List Sl×Sl×Nat×Nat×bR×QV×Sl×List Sl×List Sl×MH×PH):Option Go.Vc.Own:=pV (cX a).2.2.2.2.2.2.1
attribute [push_cast] kL uS pM iJ cX yH lW CP CQ
def Pu(s:Sl)(m:MH)(h:PH)(K:CV->MH->PH->Prop):Prop:=
  ∃(s1:Sl)(c:List UInt8)(m1:Nat),aA (iK s 220=iK s1 (↑m1:Int)) (cR h s1 1 (aY c)) (aA (s1.len<=s1.cap) (mO m1) (∀(c1:Nat),fU (λm2 h1=>dE h h1 (A5 m c1) (aR (bA m m2 c1) (aM m2 h1 c1) (∃(c2:Nat),aA (fT (qJ c1 0) (qJ c2 0)) (aM m2 h1 c2) (∀(s2:nY)(v:bR),fU (λm3 h2=>aR (uO s2) (gS h2 s2 v) (dE h1 h2 (bA m2 m3 c2) (kA m3 h2 c2 (∃(c3:Nat),DQ (λs3 p=>Dw (λs4 p1=>∃(d:Int),aA (qJ c1 0::cE (cA v) (cJ Dm 3)=qJ c3 0::cE (cA s3) (iK p d)) (aM m3 h2 c3) (aA (gS h2 s4 s3) (eV s4=0) (aA (jO (s4.tables=[])) (Ints h2 p p1) (aA (gE p1) (mD (DO p1)) (aH (Int.negSucc 0<=d) (d<=1000) ((d+1).toNat<5) (FQ (λw q=>fU (λm4 h3=>dE h2 h3 (dD h3 q w) (aR (QW q)
 (xF d.toNat q) (aR ((fI s4 p1 q).2=0) (bA m3 m4 c3) (kA m4 h3 c3 (jV (λv1 q1=>aA (tW w v1) (dD h3 q1 v1) (gV (!(zZ q1)) (aA (([]:List CV)=[]) (jD m4) (K fK m4 h3)) (λc4=>jW (λv2 s5=>aA (qJ c1 0::cJ (jK (cA v)) 3=qJ c4 0::cJ (jK (cA v2)) 3) (aM m4 h3 c4) (aA (gS h3 s5 v2) (uO s5) (∀(s6:List (List (List VV)))(s7:Sl),fU (λm5 h4=>dE h3 h4 (Hz h4 s7 s6) (aR (Nd s5 s6) (bA m4 m5 c4) (kA m5 h4 c4 (zI (λs8 s9=>jV (λv3 q2=>aA (bK (jK (aK s7)) (cN w)=bK (jK (aK s8)) (cN v3)) (Hz h4 s8 s9) (aA (dD h4 q2 v3) (pG q2<=900000) ((∀(t:Int),List.Mem t (eH q2)->cG t/\t<(↑s9.length:Int))/\∀(a:Sl)(h5:PH),dE h4 h5 (Leaves h5 a (jX s9 q2)) (∃(I:Nat×Nat×bR×QV×Sl×
 List Sl×List Sl×MH×PH->Prop)(m6:Nat×Nat×bR×QV×Sl×List Sl×List Sl×MH×PH->Nat),(∃(x:Nat×Nat×bR×QV×Sl×List Sl×List Sl×MH×PH),aA (I x) (cY c1 x.2.1) (aA (eP 4) eE (aA (eL 56) (eL 60) (aA (bI a (kL x)) (bP a (kL x)) (aA (aZ x.1) (lO v (uS x)) (aA (fS w (pM x)) (mM 53 1 (pV x.2.2.2.2.2.1)) (aH (mM 53 1 (pV x.2.2.2.2.2.2.1)) (bG m5 (iJ x)) (h5=(iJ x).2) True)))))))/\∀(x:Nat×Nat×bR×QV×Sl×List Sl×List Sl×MH×PH),I x->aW (↑x.1:Int) (aG (kL x)) (cZ (kL x).a (↑x.1:Int) (kL x) (λb o y=>aL (iJ x).1 (iJ x).2 b (bF o x.1 1) (aK y)/\∃(I1:Nat×List Sl×Sl×Nat×Nat×bR×QV×Sl×List Sl×List Sl×MH×PH->Prop)(m7:Nat×List Sl×Sl×Nat×Nat×bR×QV×Sl×List Sl×
 List Sl×MH×PH->Nat),(∃(x1:Nat×List Sl×Sl×Nat×Nat×bR×QV×Sl×List Sl×List Sl×MH×PH),aA (I1 x1) (cY x.2.1 (yH x1)) (aA (eP 4) eE (aA (eL 56) (eL 60) (aA (bI y (lW x1)) (eL 51) (aA (bI (kL x) (kL (cX x1))) (bP (kL x) (kL (cX x1))) (aA (bX x.1 (cX x1).1) (bI y (lW x1)) (aA (bP y (lW x1)) (aZ x1.1) (aA (lO (uS x) (uS (cX x1))) (fS (pM x) (pM (cX x1))) (aA (mM 74 1 (iZ x1.2.1)) (pV x.2.2.2.2.2.1=CP x1) (aA (pV x.2.2.2.2.2.2.1=CQ x1) (bG (iJ x).1 (iJ (cX x1))) (bN (iJ x).2 (iJ (cX x1)).2)))))))))))/\∀(x1:Nat×List Sl×Sl×Nat×Nat×bR×QV×Sl×List Sl×List Sl×MH×PH),I1 x1->aW (↑x1.1:Int) (aG (lW x1)) (cZ (lW x1).a (↑x1.1:Int)
 (lW x1) (λb1 o1 y1=>aL (iJ (cX x1)).1 (iJ (cX x1)).2 b1 (bF o1 x1.1 1) (aK y1)/\mF (yH x1) 2 (iJ (cX x1)).1 (iJ (cX x1)).2 (λc5 r=>∀(m8:MH),aR (bA (iJ (cX x1)).1 m8 c5) (aM m8 (iJ (cX x1)).2 c5) (branch r (aA (iG (eU x1.2.1)) (dN (eU x1.2.1)) (∃(x2:Nat×List Sl×Sl×Nat×Nat×bR×QV×Sl×List Sl×List Sl×MH×PH),aA (I1 x2) (m7 x2<m7 x1) (aA (cY (yH x1) (yH x2)) (eP 4) (aA eE (eL 56) (aA (eL 60) (bI (lW x1) (lW x2)) (aA (eL 51) (bI (kL (cX x1)) (kL (cX x2))) (aA (bP (kL (cX x1)) (kL (cX x2))) (bX (cX x1).1 (cX x2).1) (aA (bI (lW x1) (lW x2)) (bP (lW x1) (lW x2)) (aA (fV (bB x1.1 1)=bM x2.1) (lO (uS (cX x1)) (uS
 (cX x2))) (aA (fS (pM (cX x1)) (pM (cX x2))) (cM 74 1 (eT (eU x1.2.1) (aK y1))=iZ x2.2.1) (aA (CP x1=CP x2) (CQ x1=CQ x2) (bT (bG m8 (iJ (cX x2))) (iJ (cX x1)).2 (iJ (cX x2)).2)))))))))))) (∃(x2:Nat×List Sl×Sl×Nat×Nat×bR×QV×Sl×List Sl×List Sl×MH×PH),aA (I1 x2) (m7 x2<m7 x1) (aA (cY (yH x1) (yH x2)) (eP 4) (aA eE (eL 56) (aA (eL 60) (bI (lW x1) (lW x2)) (aA (eL 51) (bI (kL (cX x1)) (kL (cX x2))) (aA (bP (kL (cX x1)) (kL (cX x2))) (bX (cX x1).1 (cX x2).1) (aA (bI (lW x1) (lW x2)) (bP (lW x1) (lW x2)) (aA (fV (bB x1.1 1)=bM x2.1) (lO (uS (cX x1)) (uS (cX x2))) (aA (fS (pM (cX x1)) (pM (cX
 x2))) (iZ x1.2.1=iZ x2.2.1) (aA (CP x1=CP x2) (CQ x1=CQ x2) (bT (bG m8 (iJ (cX x2))) (iJ (cX x1)).2 (iJ (cX x2)).2))))))))))))))) (bV (iJ (cX x1)).2 1 (eU x1.2.1) (λa1 h6=>aA (iG (eU (cX x1).2.2.2.2.2.1)) (dN (eU (cX x1).2.2.2.2.2.1)) (aA (iG (eU (cX x1).2.2.2.2.2.2.1)) (dN (eU (cX x1).2.2.2.2.2.2.1)) (∃(x2:Nat×Nat×bR×QV×Sl×List Sl×List Sl×MH×PH),aA (I x2) (m6 x2<m6 x) (aA (cY (yH x1) x2.2.1) (eP 4) (aA eE (eL 56) (aA (eL 60) (bI (kL (cX x1)) (kL x2)) (aA (bP (kL (cX x1)) (kL x2)) (fV (bB (cX x1).1 1)=bM x2.1) (aA (lO (uS (cX x1)) (uS x2)) (fS (pM (cX x1)) (pM x2)) (aA (cM 53 1 (eT (eU (cX x1).2.2.2.2.2.1)
 (aK a1))=pV x2.2.2.2.2.2.1) (cM 53 1 (eT (eU (cX x1).2.2.2.2.2.2.1) (aK (lW x1)))=pV x2.2.2.2.2.2.2.1) (aA (bG (iJ (cX x1)).1 (iJ x2)) (h6=(iJ x2).2) True))))))))))))) (bV (iJ x).2 1 (eU x.2.2.2.2.2.1) (λa1 h6=>jW (λv4 a2=>zI (λa3 l=>jV (λw1 q3=>∃(c5:Nat),aA (wV (uS x) a1 (pM x)=wV v4 a3 w1) (gS h6 a2 v4) (aA (Leaves h6 a3 l) (dD h6 q3 w1) (aA (EV a2 q3) (1<=c5) (aA (Ck a2 c5 l (eH q3)) (lL c5 q3<=1000000) (jD (iJ x).1/\∀(a4:Sl)(h7:PH),dE h6 h7 (Rows h7 a4 (fO l q3 0).1) (bV h7 1 (eU x.2.2.2.2.2.2.1) (λa5 h8=>jW (λv5 a6=>zI (λa7 l1=>jV (λw2 q4=>∃(c6:Nat),aA (wV (uS x) a5 (pM x)=wV v5 a7 w2) (gS h8 a6 v5) (aA (Leaves h8 a7 l1) (dD h8 q4 w2)
 (aA (EV a6 q4) (1<=c6) (aA (Ck a6 c6 l1 (eH q4)) (lL c6 q4<=1000000) (jD (iJ x).1/\∀(a8:Sl)(h9:PH),dE h8 h9 (Rows h9 a8 (fO l1 q4 0).1) (aA (([]:List CV)=[]) (jD (iJ x).1) (j3 (λa9 t=>∃(i:Bool)(l2 k:List (List VV)),aA (cW a4 (gL a8 aU)=cW a9 (gL t (zR i))) (Rows h9 a9 l2) (aA (Rows h9 t k) (nJ k) (l2.length<=1000000/\∀(b:Sl)(b1:PH),dE h9 b1 (Rows b1 b (List.filter (fun(x1:List VV)=>Kd k x1==i) l2)) (K (zR (aG b==0)) (iJ x).1 b1))))))))))))))))))))))))))))))))))))))))))))))))))))))))))))))
theorem Je:∀l:List Query,FZ l=l.all zZ
 |[]=>rfl
 |q::l=>by rw[FZ,List.all_cons,Je l]
theorem SI:∀N,Sound Tryz.prog 37 (YC N)
 |0=>by
  refine eJ (fn:=Tryz.f37) (c:=dO Tryz.f37) Tryz.func37 rfl (by decide) ?_;rintro cvs m h K ⟨v,q,rfl,hq,hN,_⟩;omega
 |N+1=>by
  refine iB Tryz.func37 ?_;rintro cvs m h K ⟨v,q,rfl,hq,hN,hK⟩;refine⟨XH N v m h,rfl,aD (SI N) aF,O5 N v m h K,by kernel_rfl,?_⟩;dsimp only[O5,push_cast];obtain⟨op,ta,w,co,on,gr,od,li,args⟩:=q;have xq:=hq.parts;have hargs:=xq.args_;have hal:=bH.slen hargs;have hal2:=bH.len hargs;have hvop:v.op=op:=xq.op_;rw[zZ]at hK;rw[<-hvop]at hK;refine aB (λe=>?_) (λe=>aB (λe2=>?_) (λe2=>aB (λe3=>?_) (λe3=>?_)))
  .rw[e]at hK;exact hK
  .rw[e,e2]at hK;exact hK
  .rw[e,e2,e3]at hK;exact hK
  rw[e,e2,e3,Je]at hK;refine⟨λi=>i<=args.length/\(args.take i).all zZ=true,λi=>args.length-i,⟨0,⟨aC,by simp⟩,MT⟩,λi hi=>aE (λhlt=>?_) (λhge=>?_)⟩
  .obtain⟨p,hp⟩:=eY hal hlt;obtain⟨b,o,u,ea,hrd,hru⟩:=bH.at hargs hp;have hmem:=List.mem_of_getElem? hp
   have hsz:SizeOf.sizeOf p<N:=by
    have:=List.sizeOf_lt_of_mem hmem;simp only[Query.mk.sizeOf_spec]at hN;omega
   refine⟨b,o,ea,aC,hlt,u,.imm hrd,u,p,rfl,hru,hsz,aB (λhd=>?_) (λhd=>?_)⟩
   .have:args.all zZ=false:=by
     rw[Bool.eq_false_iff];intro h2;rw[List.all_eq_true.1 h2 p hmem]at hd;cases hd
    rw[this]at hK;exact hK
   .have hd:zZ p=true:=by simpa using hd
    rw[iM aC];exact⟨i+1,⟨aC,by rw[List.take_add_one,hp,List.all_append,hi.2];simp[hd]⟩,by show args.length-(i+1)<args.length-i;omega,MT⟩
  .have:=hi.2;rw[List.take_of_length_le aC]at this;rw[this]at hK;exact hK
theorem Ud:Sound Tryz.prog 37 YB:=nZ SI λ_ _ _ _⟨v,q,e,h1,h2⟩=>⟨SizeOf.sizeOf q+1,v,q,e,h1,aC,h2⟩
theorem gZ.sub{w:Nat}{l l':List (List VV)}(x:gZ w l)(h:l'.Sublist l):gZ w l':=
 ⟨λr hr=>x.row r (h.subset hr),λr hr=>x.wid r (h.subset hr),List.Pairwise.sublist h x.srt,Nat.le_trans h.length_le x.len⟩
structure Hs(ls L:List (List (List VV)))(i:Nat):Prop where
 len:ls.length=i
 at_:∀(j:Nat) l,ls[j]? =some l->∃x,L[j]? =some x/\l.Sublist x
theorem Hs.snoc{ls L:List (List (List VV))}(x:Hs ls L i){l y:List (List VV)}(hy:L[i]? =some y)(h:l.Sublist y):Hs (ls++[l]) L (i+1):=by
 refine⟨by simp[x.len],λj r hr=>?_⟩;by_cases hj:j<ls.length
 .rw[List.getElem?_append_left hj]at hr;exact x.at_ j r hr
 .rw[List.getElem?_append_right aC]at hr;have e:j-ls.length=0:=by have:=(List.getElem?_eq_some_iff.1 hr).1;simp at this;omega
  rw[e]at hr;simp at hr;subst hr;have:j=i:=by have:=x.len;omega
  subst this;exact⟨y,hy,h⟩
theorem Hs.over{c:Nat}{ls L:List (List (List VV))}{ts:List Int}(x:Hs ls L L.length)(h:Ck s c L ts):Ck s c ls ts:=by
 refine⟨by rw[x.len,h.len],λj t l h1 h2=>?_⟩;obtain⟨y,h3,h4⟩:=x.at_ j l h2;obtain⟨a1,a2,a3⟩:=h.at_ j t y h1 h3;exact⟨a1.sub h4,Nat.le_trans h4.length_le a2,λr hr=>a3 r (h4.subset hr)⟩
theorem Hs.subL{ls L:List (List (List VV))}(x:Hs ls L L.length):Wm ls L:=λi r hr=>by
 rw[List.getD_eq_getElem?_getD]at hr;cases e:ls[i]? with
 |none=>rw[e]at hr;simp at hr
 |some l=>
  rw[e]at hr;obtain⟨y,h3,h4⟩:=x.at_ i l e;rw[List.getD_eq_getElem?_getD,h3];exact h4.subset hr
theorem Ck.leaf{c:Nat}{ls:List (List (List VV))}{ts:List Int}(x:Ck s c ls ts):Bl s c ls 0 ts:=⟨λj t hj=>by
 have hjl:=(List.getElem?_eq_some_iff.1 hj).1;have hl:=x.len;have e1:ls[j]? =some ls[j]:=List.getElem?_eq_getElem aC;have:=x.at_ j t _ hj e1;exact⟨_,by rw[Nat.zero_add];exact e1,this.1,this.2.1⟩⟩
theorem Qn:∀g S,assoc KN g=some S->Sound Tryz.prog g S:=aD Ud (aD Uf (aD Ue (aD Uc TF)))
theorem UD:Sound Tryz.prog 10 ZF:=by
 refine iB Tryz.func10 ?_;rintro cvs m h K ⟨s,cs,rfl,hr,hcap,ht,hK⟩;refine⟨X8,rfl,Qn,Pu s m h K,by kernel_rfl,?_⟩;dsimp only[Pu,push_cast];refine⟨s,cs,220,rfl,hr,hcap,aC,λcb m1 h1 le1 hcb o1 c1=>⟨cb,rfl,c1,λsc v m2 h2 hpl rS le2 o2 c2=>?_⟩⟩;obtain⟨hse,hne⟩:=IL hpl;have sub:∀{mx},bA m mx cb->Sub m mx:=fun{mx} om b o e=>by rw[om.other b (λe2=>by rw[e2,hcb]at e;cases e)];exact e
 refine⟨cb,v,cF,sc,[],3,rfl,c2,rS,hse,hne,kZ _,by simp,by simp,aC,aC,by decide,λa qa m3 h3 le3 rq qw fq hq o3 c3=>⟨a,qa,rfl,rq,aB (λ_=>?_) (λemono=>?_)⟩⟩
 .have om:=(o1.trans o2).trans o3;exact⟨rfl,ht.new hcb om,hK _ _ (sub om)⟩
 have emono:zZ qa=true:=by simpa using emono
 refine⟨cb,v,sc,rfl,c3,rS.mono le3,hpl,λst sl m7 h7 le7 hst good o7 c0=>?_⟩;have fq:xF 3 qa:=fq;have A:=ZE.of (rq.mono le7) hq fq.arg;obtain⟨_,_,hsm,hkz⟩:=xK hq;have gb:gB 3<=1000000:=by decide
 have om:=((o1.trans o2).trans o3).trans o7;have rS7:=rS.mono (le3.trans le7);have hin:=BI A.kin;have htl:=good.len;have hcnt:=Ct hsm;have hsl:=wG qa;have hb:lL 4 qa<=1000000:=Nat.le_trans A.bnd gb;have hov:=Qb hpl good hin;refine⟨sl,st,a,qa,rfl,hst,A.rep,aC,λt h=>by have:=hin t h;omega,λs2 h8 le8 lv=>?_⟩;generalize jX st qa=L at hov lv;have hLl:=hov.len;have hlsl:=bH.slen lv;have lv2:∀{hx},PH.le h8 hx->Leaves hx s2 L:=fun{hx} le=>bH.mono lv le λl s hr=>bH.mono hr le λr t hv=>cC.mono hv le;refine⟨λz=>z.1<=L.length/\∃us ws mx hx,z.2=(cb,v,a,s2,us,ws,mx,hx)/\aM mx hx cb/\bA m7 mx cb/\PH.le h8 hx/\sD hx ws (L.take z.1)/\∃ls,sD hx us ls/\Hs ls L z.1,λz=>L.length-z.1,⟨(0,cb,v,a,s2,[],[],m7,h8),⟨by simp,[],[],m7,h8,rfl,c0.mono le8,bA.refl _ _,.refl _,by simpa using sD.nil h8,[],sD.nil h8,⟨rfl,λj l h=>by simp at h⟩⟩,MT⟩,?_⟩;rintro⟨i,z⟩ ⟨hi,us,ws,mx,hx,e,cx,ox,lex,hw,ls,hu,hp⟩;dsimp only at hi e hw hp;subst e;dsimp only;have hwl:=hw.len;rw[List.length_take]at hwl;have hul:=hu.len;have hpl2:=hp.len;refine aE (λhlt=>?_) (λhge=>?_)
 .have e1:L[i]? =some L[i]:=List.getElem?_eq_getElem aC;have et:(eH qa)[i]? =some ((eH qa)[i]'(by omega)):=List.getElem?_eq_getElem aC;obtain⟨hrel,_,_⟩:=hov.at_ i _ _ et e1;have hll:=hrel.len;obtain⟨b,o,u,ea,rd,hr⟩:=bH.at (lv2 lex) e1;have husl:=bH.slen hr;generalize L[i]=l at hr hrel hll husl e1;refine⟨b,o,ea,aC,aC,u,.imm rd,λz=>z.1<=l.length/\∃rs part my,z.2=(rs,u,i,cb,v,a,s2,us,ws,my,hx)/\aM my hx cb/\bA mx my cb/\eK hx rs part/\part.Sublist (l.take z.1),λz=>l.length-z.1,⟨(0,[],u,i,cb,v,a,s2,us,ws,mx,hx),⟨by simp,[],[],mx,rfl,cx,bA.refl _ _,eK.nil hx,by simp⟩,MT⟩,?_⟩;rintro⟨j,z⟩ ⟨hj,rs,part,my,e,cy,oy,hrs,hpart⟩;dsimp only at hj e hpart;subst e;dsimp only;have hrl:=hrs.len;have hpl3:=hpart.length_le;rw[List.length_take]at hpl3;refine aE (λhlt2=>?_) (λhge2=>?_)
  .obtain⟨r,hrj⟩:=eY husl hlt2;obtain⟨b2,o2,ur,ea2,rd2,hv⟩:=bH.at hr hrj;have htk:l.take (j+1)=l.take j++[r]:=by rw[List.take_add_one,hrj];rfl
   rw[iM aC];refine⟨b2,o2,ea2,aC,aC,ur,.imm rd2,cb,2,rfl,aC,aC,cy,λd mz oz cz=>aB (λ_=>?_) (λ_=>?_)⟩
   .refine⟨by rw[List.length_map];omega,by rw[List.length_map];omega,(j+1,rs++[ur],u,i,cb,v,a,s2,us,ws,mz,hx),⟨by show j+1<=_;omega,rs++[ur],part++[r],mz,rfl,cz,oy.trans oz,hrs.snoc hv,by dsimp only;rw[htk];exact hpart.append (.refl _)⟩,by show l.length-(j+1)<l.length-j;omega,by rw[List.map_append];exact MT⟩
   .exact⟨(j+1,rs,u,i,cb,v,a,s2,us,ws,mz,hx),⟨by show j+1<=_;omega,rs,part,mz,rfl,cz,oy.trans oz,hrs,by dsimp only;rw[htk];exact hpart.trans (List.sublist_append_left _ _)⟩,by show l.length-(j+1)<l.length-j;omega,MT⟩
  .rw[List.take_of_length_le aC]at hpart;intro sp hy ley hri;have hro:Rows hy sp part:=(hrs.mono ley).rows hri aC;have htk:L.take (i+1)=L.take i++[l]:=by rw[List.take_add_one,e1];rfl
   rw[iM aC];refine⟨by rw[List.length_map];omega,by rw[List.length_map];omega,by rw[List.length_map];omega,by rw[List.length_map];omega,(i+1,cb,v,a,s2,us++[sp],ws++[u],my,hy),⟨by show i+1<=_;omega,us++[sp],ws++[u],my,hy,rfl,cy.mono ley,ox.trans oy,lex.trans ley,by dsimp only;rw[htk];exact(hw.mono ley).snoc (bH.mono hr ley λr t hv=>cC.mono hv ley),ls++[part],(hu.mono ley).snoc hro,hp.snoc e1 hpart⟩,by show L.length-(i+1)<L.length-i;omega,?_⟩;simp only[List.map_append];exact MT
 .have hil:i=L.length:=by omega
  subst hil;rw[List.take_length]at hw;have oX:=om.trans ox;have htX:=ht.new hcb oX;have rSx:=rS7.mono (le8.trans lex);have hov1:=hp.over hov;have E1:=Ca aC A.kin hov1.leaf hb;have E2:=Ca aC A.kin hov.leaf hb;have hms:=(Ob (k:=0) hp.subL A.kin emono).1;have lx:PH.le h7 hx:=le8.trans lex;intro s3 g1 f1 ri1;refine⟨v,sc,s3,ls,a,qa,4,rfl,rSx.mono f1,(hu.mono f1).leaves ri1 aC,A.rep.mono (lx.trans f1),hq,aC,hov1,hb,htX,λt1 g2 f2 q1 s4 g3 f3 ri2=>?_⟩;have f12:=f1.trans (f2.trans f3);refine⟨v,sc,s4,L,a,qa,4,rfl,rSx.mono f12,(hw.mono f12).leaves ri2 aC,A.rep.mono (lx.trans f12),hq,aC,hov,hb,htX,λt2 g4 f4 q2=>⟨rfl,htX,t1,t2,false,_,_,rfl,bH.mono q1 (f3.trans f4) λr t hv=>cC.mono hv (f3.trans f4),q2,E2.rel.srt,E1.rel.len,λs5 g5 f5 q5=>?_⟩⟩
  have hnil:((fO ls qa 0).1.filter λx=>Kd (fO L qa 0).1 x==false)=[]:=by
   rw[List.filter_eq_nil_iff];intro y hy;rw[beq_iff_eq,Sr]
   exactλh=>h (hms y hy)
  rw[hnil]at q5;have hz:=bH.slen q5;rw[show s5.len=0 from hz];exact hK _ _ (sub oX)
end Go.Ps
