/-
  Part 9 of a proof that a law of the given program returns true: a condition generator that is proved sound, and contracts of functions. No condition of its own. Own work, joined by a program (pack2.py).
-/
import Derived.Test.YtileehgdfcknkaaGreatDoorSh
set_option linter.unusedVariables false
set_option linter.unusedSimpArgs false
namespace Go.Ps
open Go Go.Vc Go.Proofs
variable{K:CV->MH->PH->Prop}{m:MH}{h:PH}{s:oF}{ps:List Int}{cb:Nat}{sc:cH}{v:QV}{q:Query}{p:Pred}{l:List Int}{i:Nat}{N:Nat}{m':MH}{h':PH}{co:List Int}{gr:List Int}{od:List (Int×Bool)}{w:Pred}{ta:Int}{li:Int}{xs:List (List Value)}{sz:Nat}{k:Nat}{ks:List (List Int)}{rs:List Int}{r:Sl}{a:List Int}{b:Nat}
structure GD(s:oF)(st:List (List (List VV))):Prop where
 len:st.length=s.tables.length
 few:∀l∈st,l.length<=4
 ok:Il s st
 val:YT st
def V1:Vc.Spec:=λcvs m h K=>∃cb v s,cvs=[cP cb,aS v,cI 3]/\aK m h cb/\gJ h s v/\rP s/\∀st sl m' h',PH.le h h'->GC h' sl st->GD s st->bC m m' cb->aK m' h' cb->K (XW sl) m' h'
noncomputable def Xs(cb:Nat)(v:cH):Ctx:=uF [(15,Fo),(44,rR),(43,YV),(46,Wh),(45,YX)]
 [(3,{A:=Nat×Sl×MH×PH,st:=λ⟨i,s,m,h⟩=>cD 51 54 [(0,pv cb),(2,iv 3),(4,.at (.ptr 4 0)),(6,.at (.ptr 6 0)),(7,.at (.ptr 7 0)),(18,iv v.tables.len),(19,iv i)] [(4,.cells 43 (v.enc.map .val)),(6,.cells 25 [.val cE.val]),(7,.cells 25 [.val (.slice s.a s.len s.cap)])] m h}),
  (6,{A:=Nat×Int×Sl×MH×PH,st:=λ⟨i,n,s,m,h⟩=>cD 51 54 [(0,pv cb),(2,iv 3),(4,.at (.ptr 4 0)),(6,.at (.ptr 6 0)),(7,.at (.ptr 7 0)),(8,iv i),(9,iv n),(18,iv v.tables.len),(19,iv i)] [(4,.cells 43 (v.enc.map .val)),(6,.cells 25 [.val cE.val]),(7,.cells 25 [.val (.slice s.a s.len s.cap)])] m h})] [] [] [2023] [] false
abbrev Eu(a:List At)(b:Sl):Prop:=oQ 25 a=oQ 25 (jH (tU b))
noncomputable abbrev rH(a:Nat×Sl×MH×PH):Nat->Nat->Option Value:=a.2.2.2
noncomputable abbrev nG(a:Nat×Int×Sl×MH×PH):Sl×MH×PH:=a.2.2
attribute [push_cast] Eu rH nG
def Jv(cb:Nat)(v:cH)(m:MH)(h:PH)(K:CV->MH->PH->Prop):Prop:=
  aA (cF (gS v)) (gS v<=gS v) (aA (sH (gS v*24)) (sH (gS v)) (gV (λs m1=>mO m m1 h s 53 1 (List.replicate (gS v).toNat hX)->∃(I:Nat×Sl×MH×PH->Prop)(m2:Nat×Sl×MH×PH->Nat),(∃(x:Nat×Sl×MH×PH),aA (I x) (cW cb) (aA lJ (eP 4) (aA (eP 6) (eP 7) (aA (gH v) (bA x.1) (aA (bM v) nX (aA (Eu (jH (tU s)) x.2.1) (bH m1 x.2.2) (bN h (rH x))))))))/\∀(x:Nat×Sl×MH×PH),I x->aW (↑x.1:Int) (aG v.tables) (iV cb 5 (iX x.2) (rH x) (λk m3=>∃(I1:Nat×Int×Sl×MH×PH->Prop)(m4:Nat×Int×Sl×MH×PH->Nat),(∃(x1:Nat×Int×Sl×MH×PH),aA (I1 x1) (cW cb) (aA lJ (eP 4) (aA (eP 6) (eP 7) (aA (cC x.1 x1.1) (cL k x1.2.1) (aA (gH v) (cC x.1 x1.1) (aA (bM v) nX (aH
 (Eu (jH (tU x.2.1)) (nG x1).1) (bH m3 (nG x1).2) (rH x=(nG x1).2.2) True)))))))/\∀(x1:Nat×Int×Sl×MH×PH),I1 x1->eM x1.2.1 0 (bD (λb o=>aH (bE (oP v) b o) (0<=(↑x1.1:Int)) ((↑x1.1:Int)<aG v.tables) (∃(y:Int),aA (aM (iX (nG x1)) (nG x1).2.2 b (bI o x1.1 5+2) (bV y)) (aX (nG x1).2.2 b (bI o x1.1 5+2) (bV y)) (xG (aZ (fX v) (↑x1.1:Int)) (nG x1).2.2 (λs1 h1=>∃(c:Nat)(s2:Sl)(k1:Int)(k2:List Int),aA (oC cb 0::cK s1 (aZ (eZ y) 3)=oC c 0::cK s2 (aZ (eZ k1) 3)) (aK (iX (nG x1)) h1 c) (aA (Ints h1 s2 k2) (fS k2) ((∀(k3:Int),List.Mem k3 k2->k3=3\/k3=4\/k3=5)/\∀(s3:Sl)(r:List VV),fM (λm5 h2=>cY h1 h2 (cA h2 s3 r) (aT (M9 k1 k2 r) (bC (iX (nG
 x1)) m5 c) (jX m5 h2 c (jM (λv1 s4=>∃(t:Int),kE (λs5 r1=>aA (bP (dU v) (cR (eZ (↑x1.1:Int)) (lR s3))=bP (dU v1) (cR (eZ t) (lR s5))) (gJ h2 s4 v1) (aA (cA h2 s5 r1) (wI r1) (∀(s6:Sl)(h3:PH),cY h2 h3 (cA h3 s6 (EU s4 t r1)) (jM (λv2 s7=>bD (λt1 n=>IQ (λc1 u=>∃(u1:Sl)(t2:Nat)(t3:tV)(r2:List (List VV)),kE (λs8 k3=>kE (λs9 r3=>aA (bP (dU v) (bP (aL (nG x1).1) (eZ (↑x1.1:Int)::fY s6 s3))=bP (dU v2) (bP (iE (Value.slice (jZ t1) n c1)) (eZ (↑t2:Int)::fY s8 s9))) (gJ h3 s7 v2) (aA (HO s7 t2 t3) (Uu m5 t1 u) (aA (n=u.length) (sD u t2 u1) (aA (Rows h3 u1 r2) (mG r2.length) (aA (AG r2 (λr4=>wI r4)) (cA h3 s8 k3) (aA (cA h3 s9 r3) (0<r3.length) (wI r3
 /\∀(u2:Sl),fM (λm6 h4=>cY h3 h4 (Rows h4 u2 (wG t3 k3 r3 false r2)) (aT (Uu m6 t1 (List.set u t2 u2)) (bC m5 m6 t1) (∃(x2:Nat×Int×Sl×MH×PH),aA (I1 x2) (m4 x2<m4 x1) (aA (cW cb) lJ (aA (eP 4) (eP 6) (aA (eP 7) (cC x1.1 x2.1) (aA (cL (eC (x1.2.1-1)) x2.2.1) (gH v) (aA (cC x1.1 x2.1) (bM v) (aA nX (Eu (jH (At.val (Value.slice (jZ t1) n c1))) (nG x2).1) (aA (bH m6 (nG x2).2) (h4=(nG x2).2.2) True))))))))))))))))))))))))))))))))))))) (∃(x2:Nat×Sl×MH×PH),aA (I x2) (m2 x2<m2 x) (aA (cW cb) lJ (aA (eP 4) (eP 6) (aA (eP 7) (gH v) (aA (fU (bF x1.1 1)=bT x2.1) (bM v) (aA nX (Eu (jH (tU (nG x1).1)) x2.2.1) (bW (bH (iX (nG x1)) x2.2.2) (nG x1).2.2 (rH x2)))))))))) (K (mM (aL x.2.1))
 (iX x.2) (rH x)))))
theorem dA.iceB{m1:MH}{hx:PH}{r:CV}{tb:Nat}{cur:Array Value}{E:TypeId}(hcur:m1 tb=some (.cells cur E (0,0)))(le:PH.le h hx)(hK:∀h2,PH.le hx h2->(∀i,h2 tb i=cur[i]?)->K r (λb=>if b=tb then none else m1 b) h2):dA h K r m1 hx:=by
 intro hdis;have hg0:∀i,hx tb i=none:=hdis tb _ hcur
 have hle3:PH.le hx (λx i=>if x=tb then cur[i]? else hx x i):=⟨λx i v e=>by
  have:x≠tb:=λe'=>by rw[e',hg0 i]at e;cases e
  simp[this,e]⟩
 refine⟨_,_,λb o e=>?_,le.trans hle3,λx i v e=>?_,hK _ hle3 (λi=>by simp)⟩
 .by_cases e':b=tb
  .simp[e']at e
  .simpa[e']using e
 .by_cases e':x=tb
  .subst e';simp at e;exact .inr ⟨cur,E,(0,0),hcur,e,by simp⟩
  .simp[e']at e;exact .inl e
structure XL(h:PH)(s:oF)(m:MH)(tb:Nat)(us:List Sl)(st:List (List (List VV))):Prop where
 tbl:Uu m tb us
 ulen:us.length=s.tables.length
 slen:st.length=s.tables.length
 rows:∀(j:Nat) u l,us[j]? =some u->st[j]? =some l->Rows h u l
 ok:Il s st
 val:YT st
 few:∀l∈st,l.length<=4
theorem XL.mono{tb:Nat}{us:List Sl}{st:List (List (List VV))}(x:XL h s m tb us st)(le:PH.le h h')(e:m' tb=m tb):XL h' s m' tb us st:=by
 obtain⟨cur,h1,h2,h3⟩:=x.tbl;exact⟨⟨cur,by rw[e];exact h1,h2,h3⟩,x.ulen,x.slen,λj u l a b=>bL.mono (x.rows j u l a b) le λr t hv=>cA.mono hv le,x.ok,x.val,x.few⟩
theorem WE{t:tV}{r:List VV}(h:M9 t.key (t.columns.map lQ.kind) r):A3 t r=true:=by
 obtain⟨h1,_,h3⟩:=h;rw[List.length_map]at h1;refine BV.2 ⟨h1,λi hi=>?_⟩;have e1:r[i]? =some (r.getD i zeroV):=by rw[List.getD_eq_getElem?_getD,List.getElem?_eq_getElem hi];rfl
 refine h3 i _ _ e1 ?_;rw[List.getElem?_map,List.getD_eq_getElem?_getD,List.getElem?_eq_getElem aC];rfl
theorem U0{key k:Int}{v:VV}(h:uP key k i v=true)(hw:Hn v):M7 v.kind/\M7 v.int:=by
 simp only[uP,Bool.and_eq_true]at h;have:=GJ h.1;exact⟨⟨aC,aC⟩,hw.int_⟩
theorem XL.put{tb t:Nat}{us:List Sl}{st:List (List (List VV))}{u':Sl}{tab:tV}{l:List (List VV)}{row:List VV}(x:XL h s m tb us st)(le:PH.le h h')(ht:s.tables[t]? =some tab)(hl:st[t]? =some l)(hT:Uu m' tb (us.set t u'))(hr:Rows h' u' (wG tab (jJ tab row) row false l))(hf:M9 tab.key (tab.columns.map lQ.kind) row)(h4:l.length<=3):
 XL h' s m' tb (us.set t u') (st.set t (wG tab (jJ tab row) row false l)):=by
 have hfr:=WE hf;have htl:=(List.getElem?_eq_some_iff.1 hl).1;have hok:=x.ok t tab l ht hl;refine⟨hT,by rw[List.length_set];exact x.ulen,by rw[List.length_set];exact x.slen,λj u l' hu hl'=>?_,λj t' l' ht' hl'=>?_,λl' hl'=>?_,λl' hl'=>?_⟩
 .by_cases e:t=j
  .subst e;rw[List.getElem?_set_self (by rw[x.ulen, <-x.slen];exact htl)]at hu;rw[List.getElem?_set_self htl]at hl';cases hu;cases hl';exact hr
  .rw[List.getElem?_set_ne e]at hu hl';exact bL.mono (x.rows j u l' hu hl') le λr t hv=>cA.mono hv le
 .by_cases e:t=j
  .subst e;rw[List.getElem?_set_self htl]at hl';rw[ht]at ht';cases hl';cases ht';refine⟨λr hr=>?_,λi r r' e1 e2=>(IA (Kf.of hok.2)).adj i r r' e1 e2⟩;rcases Hs hr with rfl|hr
   .exact hfr
   .exact hok.1 r hr
  .rw[List.getElem?_set_ne e]at hl';exact x.ok j t' l' ht' hl'
 .rcases List.mem_or_eq_of_mem_set hl' with h5|rfl
  .exact x.val l' h5
  .intro r hr v hv;rcases Hs hr with rfl|hr
   .obtain⟨i,hi,rfl⟩:=List.mem_iff_getElem.1 hv;have hi2:i<(tab.columns.map lQ.kind).length:=by rw[<-hf.1];exact hi
    exact U0 (hf.2.2 i _ _ (List.getElem?_eq_getElem hi) (List.getElem?_eq_getElem hi2)) (hf.2.1 _ hv)
   .exact x.val l (List.mem_of_getElem? hl) r hr v hv
 .rcases List.mem_or_eq_of_mem_set hl' with h5|rfl
  .exact x.few l' h5
  .have:=Ht (t:=tab) (key:=jJ tab row) (row:=row) (l:=l) (d:=false);simp at this;omega
theorem Ua:Sound Tryz.prog 14 V1:=by
 refine WD Tryz.func14 ?_;rintro cvs m h K ⟨cb,v,s,rfl,hc,hs,hp,hK⟩;refine⟨Xs cb v,rfl,aD FV (aD CT (aD TO (aD KK (aD TN aF)))),Jv cb v m h (dA h K),by kernel_rfl,?_⟩;show Jv cb v m h (dA h K);dsimp only[Jv,push_cast];have htl:=hs.tables.slen;obtain⟨hse,hne⟩:=Ec hp;have h8:=Dv hse;have hs8:=sA hse;have hn0:0<s.tables.length:=List.length_pos_iff.2 hne;refine⟨aC,aC,aC,aC,λsl m1 hnew=>?_⟩;rw[show((v.tables.len:Int)).toNat=s.tables.length by omega]at hnew
 obtain⟨tb,cap,cur,hsl,hcur,_,_,hcs,hct⟩:∃b cap cur,sl=⟨some ⟨b,0,none⟩,s.tables.length,cap⟩/\m1 b=some (.cells cur 53 (0,0))/\s.tables.length<=cap/\cap<=maxLen/\cur.size=cap*1/\cur.toList.take (s.tables.length*1)=(List.replicate s.tables.length [tY]).flatten:=by
  rcases hnew.row.ex with⟨_,e⟩|⟨b,cap,cur,e1,e2,e3,e4,e5,e6⟩
  .have:=congrArg List.length e;rw[List.length_replicate,List.length_nil]at this;omega
  .rw[List.length_replicate]at e1 e3 e6;exact⟨b,cap,cur,e1,e2,e3,e4,e5,e6⟩
 have hcapn:s.tables.length<=cap:=by assumption
 have htb0:cG m h tb:=hnew.fresh tb 0 (by rw[hsl])
 have hne1:tb≠cb:=λe=>by
  obtain⟨cs,e2⟩:=hc.blk;rw[<-e,htb0.m_]at e2;cases e2
 have hoth:∀b,b≠tb->m1 b=m b:=λb hb=>hnew.other b λi e=>by
  rw[hsl]at e;injection e with e;injection e with e1 e2;exact hb e1.symm
 have hc1:aK m1 h cb:=hc.keep (hoth cb (Ne.symm hne1)) (.refl _)
 have hT0:XL h s m1 tb (List.replicate s.tables.length ⟨none,0,0⟩) (List.replicate s.tables.length []):=by
  refine⟨⟨cur,hcur,by rw[List.length_replicate];omega,?_⟩,by simp,by simp,λj u l hu hl=>?_,λj t l ht hl=>?_,λl hl=>?_,λl hl=>?_⟩
  .rw[List.length_replicate, <-Nat.mul_one s.tables.length,hct,Nat.mul_one,List.map_replicate];generalize s.tables.length=k
   induction k with
   |zero=>rfl
   |succ k ih=>rw[List.replicate_succ,List.flatten_cons,ih,List.replicate_succ];rfl
  .have hu:=List.mem_of_getElem? hu;have hl:=List.mem_of_getElem? hl;rw[List.eq_of_mem_replicate hu,List.eq_of_mem_replicate hl];exact bL.nil _ _ _ _
  .rw[List.eq_of_mem_replicate (List.mem_of_getElem? hl)];exact⟨λr hr=>by simp at hr,λi r r' e=>by simp at e⟩
  .rw[List.eq_of_mem_replicate hl];intro r hr;simp at hr
  .rw[List.eq_of_mem_replicate hl];simp
 clear hct hcs hcur cur;refine⟨λz=>z.1<=s.tables.length/\z.2.1=sl/\PH.le h z.2.2.2/\aK z.2.2.1 z.2.2.2 cb/\(∀b,b≠tb->b≠cb->z.2.2.1 b=m b)/\∃us st,XL z.2.2.2 s z.2.2.1 tb us st/\∀j l,z.1<=j->st[j]? =some l->l=[],λz=>s.tables.length-z.1,⟨(0,sl,m1,h),⟨by simp,rfl,.refl _,hc1,λb h1 _=>hoth b h1,_,_,hT0,λj l _ e=>List.eq_of_mem_replicate (List.mem_of_getElem? e)⟩,MT⟩,?_⟩;clear hT0 hc1;rintro⟨i,sl',m2,h2⟩ ⟨hi,e1,le2,c2,o2,us,st,hT,hnil⟩;dsimp only at hi e1 le2 c2 o2 hT hnil⊢
 rw[e1];clear e1 sl';refine aE (λhlt=>?_) (λhge=>?_)
 .obtain⟨tab,htab⟩:=eW htl hlt;have htabm:=List.mem_of_getElem? htab;obtain⟨tk,tc,tc4,tko⟩:=Th hp htabm;have hil:=(List.getElem?_eq_some_iff.1 htab).1
  have hnil0:st[i]? =some []:=by
   have:=List.getElem?_eq_getElem (l:=st) (i:=i) (by rw[hT.slen];exact hil);rw[this,hnil i _ (Nat.le_refl _) this]
  refine⟨cb,5,rfl,c2,λk m3 k0 k1 o3 c3=>?_⟩;refine⟨λz=>z.1=i/\z.2.2.1=sl/\z.2.1<=4/\PH.le h z.2.2.2.2/\aK z.2.2.2.1 z.2.2.2.2 cb/\(∀b,b≠tb->b≠cb->z.2.2.2.1 b=m b)/\∃us st l,XL z.2.2.2.2 s z.2.2.2.1 tb us st/\st[i]? =some l/\((l.length:Int)<=4-z.2.1)/\0<=z.2.1/\∀j l,i+1<=j->st[j]? =some l->l=[],λz=>z.2.1.toNat,⟨(i,k,sl,m3,h2),⟨rfl,rfl,by show k<=4;omega,le2,c3,λb h1 h2=>by show m3 b=m b;rw[o3.other b h2];exact o2 b h1 h2,us,st,[],hT.mono (.refl _) (o3.other tb hne1),hnil0,by simp;omega,k0,λj l hj=>hnil j l aC⟩,MT⟩,?_⟩;clear o3 c3 m3 k0 k1 hT hnil hnil0 us st k o2 c2 m2;rintro⟨i',n,sl',m3,h3⟩ ⟨e1,e2,hn4,le3,c3,o3,us,st,l,hT,hl,hll,hn0',hnil⟩;dsimp only at e1 e2 hn4 le3 c3 o3 hT hl hll hn0' hnil⊢
  rw[e1,e2];clear e1 e2 i' sl';refine aE (λhn=>?_) (λhn=>?_)
  .obtain⟨b,o,y,ea,rd,hy⟩:=bL.at (hs.mono le3).tables htab;have hkT:gI s (i:Int)=tab.columns.map lQ.kind:=by rw[gI,if_neg aC,Int.toNat_natCast,htab]
   refine⟨b,o,ea,aC,aC,tab.key,.imm (by rw[<-hy.key];exact aX.part rd 2 1),by rw[<-hy.key];exact aX.part rd 2 1,v,s,i,rfl,hs.mono le3,hs8,λks h4 le4 hks=>?_⟩;rw[hkT]at hks;refine⟨cb,ks,tab.key,_,rfl,c3.mono le4,hks,by rw[List.length_map];omega,λk hk=>?_,λsr row m5 h5 le5 hrow hfit o5 c5=>?_⟩
   .obtain⟨c,hc,rfl⟩:=List.mem_map.1 hk;exact tko c hc
   have hrl:row.length=tab.columns.length:=by rw[hfit.1,List.length_map]
   refine⟨v,s,i,sr,row,rfl,hs.mono ((le3.trans le4).trans le5),hrow,aC,λsk h6 le6 hkey=>?_⟩;rw[CP htab]at hkey;have hT6:=hT.mono ((le4.trans le5).trans le6) (o5.other tb hne1);obtain⟨u,hu⟩:∃u,us[i]? =some u:=⟨_,List.getElem?_eq_getElem (by rw[hT.ulen];exact hil)⟩
   have hlm:=List.mem_of_getElem? hl;refine⟨v,s,tb,s.tables.length,cap,us,u,i,tab,l,sk,jJ tab row,sr,row,by rw[hsl],hs.mono (((le3.trans le4).trans le5).trans le6),htab,hT6.tbl,hT.ulen.symm,hu,hT6.rows i u l hu hl,by have:=hT.few l hlm;omega,λr hr=>?_,hkey,cA.mono hrow le6,aC,aC,λu' m7 h7 le7 hr7 hT7 o7=>?_⟩
   .have:=(MB ((hT.ok i tab l htab hl).1 r hr)).1;omega
   have hw:IntKind.i64.wrap (n-1)=n-1:=eG aC aC;have hpl:=Ht (t:=tab) (key:=jJ tab row) (row:=row) (l:=l) (d:=false);simp at hpl;refine⟨(i,n-1,sl,m7,h7),⟨rfl,rfl,by show n-1<=4;omega,(((le3.trans le4).trans le5).trans le6).trans le7,(c5.mono (le6.trans le7)).keep (o7.other cb (Ne.symm hne1)) (.refl _),λb h1 h2=>by show m7 b=m b;rw[o7.other b h1,o5.other b h2];exact o3 b h1 h2,us.set i u',st.set i _,_,hT6.put le7 htab hl hT7 hr7 hfit aC,List.getElem?_set_self (List.getElem?_eq_some_iff.1 hl).1,by show(_:Int)<=4-(n-1);omega,by show 0<=n-1;omega,λj l' hj e=>?_⟩,by show(n-1).toNat<n.toNat;omega,?_⟩
   .rw[List.getElem?_set_ne aC]at e;exact hnil j l' hj e
   .rw[hw,hsl];exact MT
  .refine⟨(i+1,sl,m3,h3),⟨by show i+1<=s.tables.length;omega,rfl,le3,c3,o3,us,st,hT,hnil⟩,by show s.tables.length-(i+1)<s.tables.length-i;omega,?_⟩;rw[iT aC];exact MT
 .obtain⟨cur,hcur,hcs,hct⟩:=hT.tbl;refine dA.iceB hcur le2 λh3 le3 hice=>hK st sl _ h3 (le2.trans le3) ⟨⟨⟨us,⟨by rw[hsl,List.length_map];exact hT.ulen.symm,.inr ⟨tb,0,by rw[hsl],λj e hj=>⟨λn x hx=>?_⟩⟩,by rw[hsl];exact hcapn⟩,by rw[hT.slen,hT.ulen],λj l hl=>?_⟩,by rw[hT.slen];omega⟩,by rw[hT.slen];omega,hT.val⟩ ⟨hT.slen,hT.few,hT.ok,hT.val⟩ ⟨λb hb=>?_⟩ ?_
  .rw[List.getElem?_map,Option.map_eq_some_iff]at hj;obtain⟨u,hu,rfl⟩:=hj;have hn:n=0:=by have:=(List.getElem?_eq_some_iff.1 hx).1;simp[eS]at this;omega
   subst hn
   have hx:u.val=x:=by
    simp[eS]at hx;exact hx
   subst hx;have e:(cur.toList.take us.length)[j]? =some u.val:=by rw[hct,List.getElem?_map,hu];rfl
   rw[List.getElem?_take,if_pos (List.getElem?_eq_some_iff.1 hu).1,Array.getElem?_toList]at e;rw[hice,show 0+j*1+0=j by omega];exact e
  .have hjl:=(List.getElem?_eq_some_iff.1 hl).1;have hju:j<us.length:=by rw[hT.ulen, <-hT.slen];exact hjl
   have hu:us[j]? =some us[j]:=List.getElem?_eq_getElem hju;exact⟨_,hu,bL.mono (hT.rows j _ l hu hl) le3 λr t hv=>cA.mono hv le3⟩
  .by_cases e:b=tb
   .subst e;simp[htb0.m_]
   .simp only[e,if_false];exact o2 b e hb
  .refine aK.keep c2 ?_ le3;simp[Ne.symm hne1]
def Wo:Vc.Spec:=λcvs m h K=>cvs=[]/\jA m/\K (cB true) m h
def Jm(m:MH)(h:PH)(K:CV->MH->PH->Prop):Prop:=
  bX h 2 (nI HK 4::cQ (nI (HL 99) 4)) (λs h1=>∃(n:Int),nJ 1 n/\∃(n1:Int),nJ 10 n1/\∃(n2:Int),nJ 2 n2/\∃(n3:Int),nJ 10 n3/\∃(n4:Int),nJ 3 n4/\∃(n5:Int),nJ 20 n5/\bX h1 3 (sV n::cQ (sV n1)) (λs1 h2=>bX h2 3 (sV n2::cQ (sV n3)) (λs2 h3=>bX h3 3 (sV n4::cQ (sV n5)) (λs3 h4=>bX h4 1 (aL s1::aL s2::cQ (aL s3)) (λs4 h5=>bX h5 5 (cQ (CH 116 97 115 107 (pT 115) s 1)) (λs5 h6=>bX h6 1 (cQ (aL s4)) (λs6 h7=>bX h7 1 (cQ (bV 1)) (λs7 h8=>bX h8 2 (cQ (jI bU yT)) (λs8 h9=>bX h9 21 (cQ (AR 1 (sE tY (yR hX)))) (λs9 a=>jM (λv a1=>yW (λa2 a3=>kC (λw q=>aA (bP (jI bU (dV s5)) (cR
 (mM (aL s6)) (mM (AR 9 (sE tY (aR tY (dV s7) (aR (dV s8) (eH 1) (aL s9)))))))=bP (dU v) (cR (mM (aL a2)) (bJ w))) (gJ a a1 v) (aA (GC a a2 a3) (dC a q w) (aH (dT (lF q)) (jA m) (aT (EK a1 q) (p7 a1 a3=0) (LP a3 q)) (∀(a4:Sl)(a5:PH),cY a a5 (Rows a5 a4 (FD a1 a3 q).1) (dK (FD a1 a3 q).2 0 (dK (aG a4) 2 (dG a4.a 0 a4 (λb o y=>aM m a5 b (dJ o) (aL y)/\bD (λb1 o1=>aH (bE y.a b1 o1) ((0:Int)<=0) (0<aG y) (∃(y1:VV),aH (aM m a5 b1 (dJ o1) y1.enc) (aX a5 b (dJ o) (aL y)) (aX a5 b1 (dJ o1) y1.enc) (sX 2 (λn6=>∃(r:Bool),gU (oJ 27 y1.enc (sV n6) r) r (dG a4.a 1 a4 (λb2 o2 y2=>aM m a5 b2 (o2+1) (aL y2)/\bD (λb3 o3=>aH (bE y2.a b3 o3) ((0:Int)<=0) (0<aG
 y2) (∃(y3:VV),aA (aM m a5 b3 (dJ o3) y3.enc) (aX a5 b (dJ o) (aL y)) (aA (aX a5 b1 (dJ o1) y1.enc) (aX a5 b2 (o2+1) (aL y2)) (aX a5 b3 (dJ o3) y3.enc/\∃(n7:Int),nJ 3 n7/\∃(r1:Bool),gU (oJ 27 y3.enc (sV n7) r1) r1 (dG a4.a 0 a4 (λb4 o4 y4=>aM m a5 b4 (dJ o4) (aL y4)/\dG a4.a 1 a4 (λb5 o5 y5=>aA (aM m a5 b5 (o5+1) (aL y5)) (aX a5 b (dJ o) (aL y)) (aA (aX a5 b1 (dJ o1) y1.enc) (aX a5 b2 (o2+1) (aL y2)) (aX a5 b3 (dJ o3) y3.enc/\jV (λo6 a6=>∃(t:Sl)(o7:List (Int×Bool))(a7 b6:List VV),aA (cK s8 (fY y4 y5)=cK o6 (fY a6 t)) (iJ a5 o6 o7) (aA (cA a5 a6 a7) (cA a5 t b6) (K (z7 (jY o7 a7 b6==1)) m a5)))))))) (aA (aX a5 b (dJ o) (aL y)) (aX a5 b1 (dJ o1) y1.enc)
 (aA (aX a5 b2 (o2+1) (aL y2)) (aX a5 b3 (dJ o3) y3.enc) (K aU m a5))))))))) (aA (aX a5 b (dJ o) (aL y)) (aX a5 b1 (dJ o1) y1.enc) (aA (aX a5 b (dJ o) (aL y)) (aX a5 b1 (dJ o1) y1.enc) (K aU m a5))))))))) (K aU m a5)) (K aU m a5))))))))))))))))))
def nV(n:Int):VV:=⟨4,n,⟨#[]⟩⟩
def bS:oF:=⟨0,[⟨⟨⟨[116,97,115,107,115]⟩⟩,[⟨⟨⟨[105,100]⟩⟩,4⟩,⟨⟨⟨[112,114,111,106,101,99,116]⟩⟩,4⟩],1,[],[]⟩]⟩
def Ux:List (List (List VV)):=[[[nV 1,nV 10],[nV 2,nV 10],[nV 3,nV 20]]]
def VT:Query:=.mk 1 0 iB [] [] [] [] 0 []
def bQ:Query:=.mk 9 0 iB [] [] [1] [(0,true)] 1 [VT]
theorem XV:eJ bS=0:=UI (by decide) (λt ht=>by simp[bS]at ht;subst ht;exact⟨by simp,rfl,rfl⟩) (by decide) (by decide) (by
 refine vW ⟨⟨?_,?_,?_,?_,vW ⟨⟨?_,?_,?_⟩,⟨?_,?_,?_⟩,trivial⟩⟩,trivial⟩
 all_goals first|rfl|(simp;done)|decide)
theorem PZ{k:List Int}(h:bY s ps q=(k,0))(hr:uU k gr od li)(hk:k.length<=12):bY s ps (.mk 9 0 iB [] [] gr od li [q])=(k,0):=by
 rw[FP (by decide) h];unfold iS;rw[if_neg (by simp[arity,dQ])];dsimp only;rw[if_neg (by decide),if_neg (by decide),if_neg (by decide),if_neg (by decide),if_neg (by decide),if_pos rfl,if_pos hr,H2 hk]
theorem VU:bY bS [] bQ=([4,4],0):=by
 have e:gI bS 0=[4,4]:=rfl
 have h:bY bS [] VT=([4,4],0):=by
  have:=I7 (s:=bS) (ps:=[]) (t:=0) (by decide) (by decide) (by rw[e];decide);rw[e]at this;exact this
 exact PZ h ⟨vW ⟨⟨by decide,by simp⟩,trivial⟩,vW ⟨by show Fq _ _=true;decide,trivial⟩,by decide,by decide,by decide⟩ (by decide)
theorem Ix{k:List Int}(hs:eJ s=0)(h:lF q=true)(hk:bY s [] q=(k,0)):fB s [] q=(k,0):=by
 unfold fB;rw[if_pos hs,if_pos (by rfl),if_pos h,hk]
theorem YR:fB bS [] bQ=([4,4],0):=Ix XV (by rfl) VU
theorem YE:p7 bS Ux=0:=by
 unfold p7;rw[if_neg (by simp[XV]),if_neg (by decide),if_neg (by decide),if_pos];intro i t l ht hl
 match i,ht,hl with
 |0,ht,hl=>
  simp[bS]at ht;simp[Ux]at hl;subst ht hl;refine⟨λr hr=>?_,λi r r' e1 e2=>?_⟩
  .simp at hr;have hv:∀n,uP 1 4 0 (nV n)=true/\uP 1 4 1 (nV n)=true:=λn=>by simp[uP,nV,UB]
   rcases hr with rfl|rfl|rfl
   all_goals
    refine BV.2 ⟨rfl,λi hi=>?_⟩
    match i,hi with
    |0,_=>exact(hv _).1
    |1,_=>exact(hv _).2
    |i+2,hi=>simp at hi;omega
  .match i,e1,e2 with
   |0,e1,e2=>simp at e1 e2;subst e1 e2;decide
   |1,e1,e2=>simp at e1 e2;subst e1 e2;decide
   |i+2,e1,e2=>simp at e2
 |i+1,ht,hl=>simp[bS]at ht
theorem YQ:Ir Ux bQ=[[nV 2,nV 10],[nV 3,nV 20]]:=by rfl
theorem LV{s:Sl}{l:List VV}(r:cN h s 3 (l.map VV.enc))(hl:l.length<=1000):cA h s l:=⟨⟨l,r,rfl,λi x hx=>⟨x,hx,rfl⟩⟩,aC⟩
theorem TX:Sound Tryz.prog 23 Wo:=by
 refine EX Tryz.func23 ?_;rintro cvs m h K ⟨rfl,ht,hK⟩;refine⟨dL [(61,SK),(21,SE),(34,Fp)] [] [] [] false,rfl,aD TM (aD F6 (aD F4 aF)),Jm m h (j4 h K),by kernel_rfl,?_⟩;show Jm m h (j4 h K);dsimp only[Jm,push_cast];intro s1 h1 le1 r1;refine⟨1,rfl,10,rfl,2,rfl,10,rfl,3,rfl,20,rfl,?_⟩;intro s2 h2 le2 r2 s3 h3 le3 r3 s4 h4 le4 r4 s5 h5 le5 r5 s6 h6 le6 r6 s7 h7 le7 r7 s8 h8 le8 r8 s9 h9 le9 r9 sa ha lea ra;have l9:=le9.trans lea;have l8:=le8.trans l9;have l7:=le7.trans l8;have l6:=le6.trans l7;have l5:=le5.trans l6;have l4:=le4.trans l5;have l3:=le3.trans l4;have l2:=le2.trans l3;have rs:dC ha VT ⟨1,0,hP,cE,cE,cE,cE,0,cE⟩:=zE ha 0;have so:iJ ha s9 [(0,true)]:=⟨r9.mono lea,by simp⟩
 have rq:dC ha bQ ⟨9,0,hP,cE,cE,s8,s9,1,sa⟩:=oS.rep ⟨rfl,rfl,Cd ha,kQ ha,p9 ha,⟨r8.mono l9,by simp⟩,so,rfl,zG (v:=⟨1,0,hP,cE,cE,cE,cE,0,cE⟩) ra rs⟩;have rt:GF ha ⟨⟨⟨[116,97,115,107,115]⟩⟩,[⟨⟨⟨[105,100]⟩⟩,4⟩,⟨⟨⟨[112,114,111,106,101,99,116]⟩⟩,4⟩],1,[],[]⟩ ⟨⟨⟨[116,97,115,107,115]⟩⟩,s1,1,cE,cE⟩:=⟨rfl,Fe (l:=[⟨_,_⟩,⟨_,_⟩]) (r1.mono l2) (by simp),rfl,bL.nil _ _ _ _,bL.nil _ _ _ _⟩
 have rS:gJ ha bS ⟨0,s6⟩:=⟨rfl,⟨⟨[⟨⟨⟨[116,97,115,107,115]⟩⟩,s1,1,cE,cE⟩],r6.mono l7,rfl,λi x e=>by
  match i,e with
  |0,e=>simp[bS]at e;subst e;exact⟨_,rfl,rt⟩
  |i+1,e=>simp[bS]at e⟩,by simp[bS]⟩⟩
 have v1:cA ha s2 [nV 1,nV 10]:=LV (r2.mono l3) (by simp);have v2:cA ha s3 [nV 2,nV 10]:=LV (r3.mono l4) (by simp);have v3:cA ha s4 [nV 3,nV 20]:=LV (r4.mono l5) (by simp)
 have rr:Rows ha s5 [[nV 1,nV 10],[nV 2,nV 10],[nV 3,nV 20]]:=⟨⟨[s2,s3,s4],r5.mono l6,rfl,λi x e=>by
  match i,e with
  |0,e=>simp at e;subst e;exact⟨_,rfl,v1⟩
  |1,e=>simp at e;subst e;exact⟨_,rfl,v2⟩
  |2,e=>simp at e;subst e;exact⟨_,rfl,v3⟩
  |i+3,e=>simp at e⟩,by simp⟩
 have rst:GC ha s7 Ux:=⟨⟨⟨[s5],r7.mono l8,rfl,λi x e=>by
  match i,e with
  |0,e=>simp[Ux]at e;subst e;exact⟨_,rfl,rr⟩
  |i+1,e=>simp[Ux]at e⟩,by simp[Ux]⟩,by simp[Ux],λl hl r hr v hv=>by
   simp[Ux]at hl;subst hl;simp at hr;rcases hr with rfl|rfl|rfl<;>simp at hv<;>rcases hv with rfl|rfl<;>exact⟨by constructor<;>decide,by constructor<;>decide⟩⟩
 have hres:FD bS Ux bQ=([[nV 2,nV 10],[nV 3,nV 20]],0):=by
  unfold FD;rw[YR,if_neg (by simp),if_neg (by simp[YE]),YQ]
 refine⟨⟨0,s6⟩,bS,s7,Ux,⟨9,0,hP,cE,cE,s8,s9,1,sa⟩,bQ,rfl,rS,rst,rq,by rfl,ht,λ_ _=>⟨3,by decide,λl hl=>by simp[Ux]at hl;subst hl;simp,by decide⟩,λs' hb leb hr=>?_⟩;rw[hres]at hr⊢
 dsimp only at hr⊢
 have hrl:=bL.slen hr;have hrl:s'.len=2:=hrl;obtain⟨b1,o1,u1,ea1,rd1,hv1⟩:=bL.at hr (i:=0) rfl;obtain⟨b2,o2,u2,ea2,rd2,hv2⟩:=bL.at hr (i:=1) rfl;obtain⟨b3,o3,x1,ea3,rd3,e3⟩:=bL.at hv1 (i:=0) rfl;obtain⟨b4,o4,x2,ea4,rd4,e4⟩:=bL.at hv2 (i:=0) rfl;subst e3 e4;have n1:u1.len=2:=bL.slen hv1;have n2:u2.len=2:=bL.slen hv2;have eq2:∀v:VV,Ui v v=true:=λv=>by simp[Ui]
 have rd1:aX hb b1 (o1+0) [dV u1]:=rd1;have rd2:aX hb b2 (o2+1) [dV u2]:=rd2;have rd3:aX hb b3 (o3+0) (VV.enc (nV 2)):=by simpa using rd3
 have rd4:aX hb b4 (o4+0) (VV.enc (nV 3)):=by simpa using rd4
 have hc:jY [(0,true)] [nV 2,nV 10] [nV 3,nV 20]=1:=by decide
 refine aB (λ_=>aB (λ_=>⟨b1,o1,ea1,aC,aC,u1,.imm rd1,b3,o3,ea3,aC,aC,nV 2,.imm rd3,rd1,rd3,2,rfl,_,E5 (nV 2) (nV 2),aB (λ_=>⟨b2,o2,ea2,aC,aC,u2,.imm rd2,b4,o4,ea4,aC,aC,nV 3,.imm rd4,rd1,rd3,rd2,rd4,3,rfl,_,E5 (nV 3) (nV 3),aB (λ_=>⟨b1,o1,ea1,aC,aC,u1,.imm rd1,b2,o2,ea2,aC,aC,u2,.imm rd2,rd1,rd3,rd2,rd4,s9,u1,u2,[(0,true)],_,_,rfl,so.mono leb,hv1,hv2,?_⟩) (λe=>?_)⟩) (λe=>?_)⟩) (λe=>?_)) (λe=>?_)
 .rw[hc];exact .out (Sub.refl m) ((le1.trans l2).trans leb) hK
 .rw[eq2]at e;cases e
 .rw[eq2]at e;cases e
 .rw[hrl]at e;cases e
 .cases e
def Y8:Vc.Spec:=λcvs m h K=>∃s cs,cvs=[cS s]/\cN h s 1 (aY cs)/\s.len<=s.cap/\jA m/\∀m' h',Sub m m'->K (cB true) m' h'
noncomputable def NX:List (Nat×Vc.Spec):=[(11,YY),(12,Wa),(13,RF 5),(25,B7),(26,M1),(30,wU),(14,V1),(27,X4),(28,M0),(29,Yh),(24,XZ),(23,Wo),(15,Fo),(16,J1)]
theorem Tm:∀g S,assoc NX g=some S->Sound Tryz.prog g S:=aD Ue (aD Ud (aD (Sp 5) (aD KO (aD KN (aD CU (aD Ua (aD TV (aD KM (aD TU (aD TW (aD TX (aD FV (aD v8 aF)))))))))))))
structure YG(s:oF)(h:PH)(v:QV)(q:Query)(k:List Int)(b:Nat):Prop where
 rep:dC h q v
 kin:bY s [] q=(k,0)
 bnd:lO 4 q<=b
theorem Jd{st:List (List (List VV))}(hp:rP s)(h:GD s st):p7 s st=0:=by
 obtain⟨hse,hne⟩:=Ec hp;have h8:=Dv hse;have hl:=h.len
 have hsum:∀l:List (List (List VV)),(∀x∈l,x.length<=4)->(l.map λx=>(x.length:Int)).sum<=4*(l.length:Int):=λl=>by
  induction l with
  |nil=>intro _;simp
  |cons a l ih=>
   intro hx;have:=ih λx h=>hx x (List.mem_cons_of_mem _ h);have:=hx a (List.mem_cons_self ..);simp only[List.map_cons,List.sum_cons,List.length_cons];omega
 have:=hsum st h.few;unfold p7;rw[if_neg (by simp[hse]),if_neg aC,if_neg (by simp[hl]),if_pos h.ok]
theorem YG.res{k:List Int}{st:List (List (List VV))}(x:YG s h v q k b)(hp:rP s)(hst:GD s st)(hs:lF q=true):FD s st q=(Ir st q,0):=by
 unfold FD;rw[Ix (Ec hp).1 hs x.kin,if_neg (by simp),if_neg (by simp[Jd hp hst])]
theorem YG.bok{k:List Int}{st:List (List (List VV))}(x:YG s h v q k b)(hst:GD s st)(hb:b<=1000000):LP st q:=⟨4,aC,hst.few,Nat.le_trans x.bnd hb⟩
theorem YG.of{d:Nat}(r:dC h q v)(e:(fB s [] q).2=0)(f:Kg d q):YG s h v q (fB s [] q).1 (gB d):=by
 obtain⟨h1,h2,h3,h4⟩:=w8 e;have e2:bY s [] q=((bY s [] q).1,0):=Prod.ext rfl h4;have e3:=Ix h1 h3 e2;exact⟨r,by rw[e3];exact e2,f.b⟩
theorem jA.new(ht:jA m)(hc:m cb=none)(o:bC m m' cb):jA m':=by
 obtain⟨T,fz,e⟩:=ht;refine⟨T,fz,?_⟩;rw[o.other 1 (λe2=>by rw[<-e2,e]at hc;cases hc)];exact e
def SD(N:Nat):Vc.Spec:=λcvs m h K=>∃v q,cvs=[aQ v]/\dC h q v/\SizeOf.sizeOf q<N/\pB q<=900000/\∀s' h',PH.le h h'->Ints h' s' (eK q)->K (cS s') m h'
def V6:Vc.Spec:=λcvs m h K=>∃v q,cvs=[aQ v]/\dC h q v/\pB q<=900000/\∀s' h',PH.le h h'->Ints h' s' (eK q)->K (cS s') m h'
def SN:Vc.Spec:=λcvs m h K=>∃sl st v q,cvs=[XW sl,aQ v]/\GC h sl st/\dC h q v/\pB q<=900000/\(∀t∈eK q,0<=t/\t<st.length)/\∀s' h',PH.le h h'->Leaves h' s' (jN st q)->K (cS s') m h'
def SU:Vc.Spec:=λcvs m h K=>∃s r n,cvs=[cS s,cI n]/\cA h s r/\K (cB (decide ((r.length:Int)=n)&&r.all gK)) m h
structure RG(s:oF)(c:Nat)(ls:List (List (List VV)))(ts:List Int):Prop where
 len:ls.length=ts.length
 at_:∀(j:Nat)(t:Int) l,ts[j]? =some t->ls[j]? =some l->iI (gI s t).length l/\l.length<=c/\∀r∈l,r.all gK=true
def X2:Vc.Spec:=λcvs m h K=>∃v s sl ls w q c,cvs=[aS v,cS sl,aQ w]/\gJ h s v/\Leaves h sl ls/\dC h q w/\(fB s [] q).2=0/\1<=c/\RG s c ls (eK q)/\lO c q<=1000000/\jA m/\∀s' h',PH.le h h'->Rows h' s' (iH ls q 0).1->K (.tup [cS s',cI 0]) m h'
noncomputable def WW(N:Nat)(v:QV)(m:MH):Ctx:=
 dL [(75,SD N)] [(5,{A:=Nat×List Int×PH,st:=λ⟨i,l,h⟩=>cD 29 30 [(1,.at (.ptr 1 0)),(3,.at (.lst 12)),(15,iv v.args.len),(16,iv i)] [(1,.cells 38 (v.enc.map .val)),(12,.lst 3 1 (l.map eI))] m h})]
  [(4,{A:=List Int×PH,st:=λ⟨l,h⟩=>cD 29 30 [(1,.at (.ptr 1 0)),(3,.at (.lst 12))] [(1,.cells 38 (v.enc.map .val)),(12,.lst 3 1 (l.map eI))] m h})] [] false
noncomputable def Xg(sl:Sl)(m:MH):Ctx:=
 dL [(75,V6)] [(3,{A:=Nat×Sl×List Sl×PH,st:=λ⟨i,s,us,h⟩=>cD 25 27 [(2,.at (.ptr 2 0)),(5,.at (.lst 22)),(9,sv s),(10,iv s.len),(11,iv i)] [(2,.cells 25 [.val (.slice sl.a sl.len sl.cap)]),(22,.lst 53 1 (us.map eS))] m h})] [] [] false
noncomputable def WY(s:Sl)(m:MH)(h:PH):Ctx:=
 dL [(105,GB)] [(4,{A:=Nat,st:=λi=>cD 21 23 [(11,sv s),(12,iv s.len),(13,iv i)] [] m h})] [] [] false
noncomputable def Xh(v:cH)(sl:Sl)(w:QV):Ctx:=
 dL [(55,B6),(57,RE),(72,rR),(73,SU),(74,V5),(58,M3)]
 [(8,{A:=Nat×Sl×MH×PH,st:=λ⟨i,s,m,h⟩=>cD 80 83 [(1,sv sl),(3,.at (.ptr 3 0)),(5,.at (.ptr 5 0)),(35,sv s),(36,iv s.len),(37,iv i)] [(3,.cells 43 (v.enc.map .val)),(5,.cells 38 (w.enc.map .val))] m h}),
  (12,{A:=Nat×Int×Sl×Nat×Sl×MH×PH,st:=λ⟨j,n,l,i,s,m,h⟩=>cD 80 83 [(1,sv sl),(3,.at (.ptr 3 0)),(5,.at (.ptr 5 0)),(13,iv n),(35,sv s),(36,iv s.len),(37,iv i),(49,sv l),(50,iv l.len),(51,iv j)] [(3,.cells 43 (v.enc.map .val)),(5,.cells 38 (w.enc.map .val))] m h}),
  (20,{A:=Nat×List Sl×MH×PH,st:=λ⟨i,us,m,h⟩=>cD 80 83 [(5,.at (.ptr 5 0)),(16,.at (.lst 63)),(64,sv sl),(65,iv sl.len),(66,iv i)] [(5,.cells 38 (w.enc.map .val)),(63,.lst 53 1 (us.map eS))] m h})] [] [] false
def Ov(N:Nat)(v:QV)(m:MH)(h:PH)(K:CV->MH->PH->Prop):Prop:=
  ∃(I:List Int×PH->Prop),dK v.op 1 (aA (iA 8) (iA 1) (∃(x:List Int×PH),aA (I x) dZ (aA (eL 12) (dP v) (aH (rF (cQ (bV v.table)) x.1) (m=m) (h=x.2) True)))) (∃(x:List Int×PH),aA (I x) dZ (aA (eL 12) (dP v) (aH (pD x.1) (m=m) (h=x.2) True)))/\∀(x:List Int×PH),I x->∃(I1:Nat×List Int×PH->Prop)(m1:Nat×List Int×PH->Nat),(∃(x1:Nat×List Int×PH),aA (I1 x1) dZ (aA (eL 12) (uJ v) (aA (bA x1.1) (dP v) (aA (rF (fK x.1) x1.2.1) (m=m) (bN x.2 x1.2.2)))))/\∀(x1:Nat×List Int×PH),I1 x1->aW (↑x1.1:Int) (aG v.args) (bD (λb o=>aH (bE v.args.a b o) (0<=(↑x1.1:Int)) ((↑x1.1:Int)<aG v.args) (∃(y:QV),aM m x1.2.2 b (bI o x1.1 21) y.enc/\kC (λv1 q=>aA (vC (bJ y)=vC (bJ v1))
 (dC x1.2.2 q v1) (aA (oK q N) (pB q<=900000) (EM x1.2.2 q (λs h1=>∃(y1:List (List Value)),lZ 1 y1 (cN h1 (cZ s) 1 y1) (pO (fK x1.2.1) y1 8) (pP (fK x1.2.1) y1) (∃(x2:Nat×List Int×PH),aA (I1 x2) (m1 x2<m1 x1) (aA dZ (eL 12) (aA (uJ v) (fU (bF x1.1 1)=bT x2.1) (aA (dP v) (rF (fK x1.2.1++y1) x2.2.1) (bW (m=m) h1 x2.2.2)))))))))))) (bX x1.2.2 1 (fK x1.2.1) (λs h1=>K (lR s) m h1))
noncomputable abbrev AS(a:Nat×Sl×List Sl×PH):List (List Value):=lM a.2.2.1
attribute [push_cast] AS
def ON(sl:Sl)(v:QV)(m:MH)(h:PH)(K:CV->MH->PH->Prop):Prop:=
  kC (λv1 q=>aH (eA (bJ v) (bJ v1)) (dC h q v1) (pB q<=900000) (EM h q (λs h1=>∃(I:Nat×Sl×List Sl×PH->Prop)(m1:Nat×Sl×List Sl×PH->Nat),(∃(x:Nat×Sl×List Sl×PH),aA (I x) fQ (aA (eL 22) (bB s x.2.1) (aA (bZ s x.2.1) (bA x.1) (aA (qM (jH (tU sl))) (Option.some (Own.lst 53 1 [])=Option.some (Own.lst 53 1 (AS x))) (bW (m=m) h1 x.2.2.2)))))/\∀(x:Nat×Sl×List Sl×PH),I x->aW (↑x.1:Int) (aG x.2.1) (bD (λb o=>aH (bE x.2.1.a b o) (0<=(↑x.1:Int)) ((↑x.1:Int)<aG x.2.1) (∃(y:Int),aM m x.2.2.2 b (bI o x.1 1) (bV y)/\dG sl.a y sl (λb1 o1 y1=>aH (aM m x.2.2.2 b1 (fR o1 y 1) (aL y1)) (j8 (AS x)) (eF (AS x)) (∃(x1:Nat×Sl×List Sl×PH),aA (I x1) (m1 x1<m1 x) (aA fQ (eL 22) (aA
 (bB x.2.1 x1.2.1) (bZ x.2.1 x1.2.1) (aA (fU (bF x.1 1)=bT x1.1) (qM (jH (tU sl))) (aH (Option.some (Own.lst 53 1 (AS x++cQ (aL y1)))=Option.some (Own.lst 53 1 (AS x1))) (m=m) (x.2.2.2=x1.2.2.2) True))))))))) (bX x.2.2.2 1 (AS x) (λs1 h2=>K (lR s1) m h2)))))
def Ow(s:Sl)(n:Int)(m:MH)(h:PH)(K:CV->MH->PH->Prop):Prop:=
  eE (aG s) n (K aU m h) (mA (λI x=>aA (I x) (aJ s) (aA (bK s) (bA x) (bW (m=m) h h))) (λI m1 x=>I x->aW (↑x:Int) (aG s) (bD (λb o=>aH (bE s.a b o) (0<=(↑x:Int)) ((↑x:Int)<aG s) (∃(y:VV),aM m h b (bI o x 3) y.enc/\∃(v:VV),eA (eU y) (eU v)/\hZ (!(gK v)) (K aU m h) (λx1=>aA (I x1) (m1 x1<m1 x) (aA (aJ s) (bK s) (aH (fU (bF x 1)=bT x1) (m=m) (h=h) True)))))) (K fN m h)))
noncomputable abbrev j9(a:Nat×Int×Sl×Nat×Sl×MH×PH):Sl×MH×PH:=a.2.2.2.2
noncomputable abbrev tO(a:Nat×Int×Sl×Nat×Sl×MH×PH):Sl:=a.2.2.1
noncomputable abbrev AV(a:Nat×List Sl×MH×PH):Nat->Nat->Option Value:=a.2.2.2
attribute [push_cast] j9 tO AV
def OO(v:cH)(sl:Sl)(w:QV)(m:MH)(h:PH)(K:CV->MH->PH->Prop):Prop:=
  Cz (bP (dU v) (cR lN (bJ w))) h (λs p q=>dT (lF q)/\∀(s1:Sl)(h1:PH),cY h h1 (Ints h1 s1 (fB s p q).1) (eE (fB s p q).2 0 (K (CV.tup (cR lN (CV.val (eH (fB s p q).2)))) m h1) (kC (λv1 q1=>aH (eA (bJ w) (bJ v1)) (dC h1 q1 v1) (pB q1<=900000) (EM h1 q1 (λs2 h2=>eE (aG sl) (aG s2) (K (CV.tup (aZ lN 1)) m h2) (∃(I:Nat×Sl×MH×PH->Prop)(m1:Nat×Sl×MH×PH->Nat),(∃(x:Nat×Sl×MH×PH),aA (I x) (aJ sl) (aA (eP 3) eT (aA (bB s2 x.2.1) (bZ s2 x.2.1) (aA (bA x.1) (bM v) (aH (dP w) (bH m x.2.2) (h2=rH x) True)))))/\∀(x:Nat×Sl×MH×PH),I x->aW (↑x.1:Int) (aG x.2.1) (bD (λb o=>aH (bE x.2.1.a b o) (0<=(↑x.1:Int)) ((↑x.1:Int)<aG x.2.1) (∃(y:Int),aM (iX x.2)
 (rH x) b (bI o x.1 1) (bV y)/\xG (aZ (fX v) y) (rH x) (λs3 h3=>dG sl.a (↑x.1:Int) sl (λb1 o1 y1=>aM (iX x.2) h3 b1 (bI o1 x.1 1) (aL y1)/\∃(I1:Nat×Int×Sl×Nat×Sl×MH×PH->Prop)(m2:Nat×Int×Sl×Nat×Sl×MH×PH->Nat),(∃(x1:Nat×Int×Sl×Nat×Sl×MH×PH),aA (I1 x1) (aJ sl) (aA (eP 3) eT (aA (bT s3.len=fU x1.2.1) (bB x.2.1 (j9 x1).1) (aA (bZ x.2.1 (j9 x1).1) (cC x.1 x1.2.2.2.1) (aA (bB y1 (tO x1)) (bZ y1 (tO x1)) (aA (bA x1.1) (bM v) (aH (dP w) (bH (iX x.2) (j9 x1).2) (h3=(j9 x1).2.2) True)))))))/\∀(x1:Nat×Int×Sl×Nat×Sl×MH×PH),I1 x1->aW (↑x1.1:Int) (aG (tO x1)) (dG (tO x1).a (↑x1.1:Int) (tO x1) (λb2 o2 y2=>aM (iX (j9 x1)) (j9 x1).2.2 b2
 (bI o2 x1.1 1) (aL y2)/\kE (λs4 r=>∃(n:Int),aA (fC y2 x1.2.1=fC s4 n) (cA (j9 x1).2.2 s4 r) (branch (!(Bool.and (decide ((↑r.length:Int)=n)) (List.all r gK))) (K (CV.tup (aZ lN 71)) (iX (j9 x1)) (j9 x1).2.2) (∃(x2:Nat×Int×Sl×Nat×Sl×MH×PH),aA (I1 x2) (m2 x2<m2 x1) (aA (aJ sl) (eP 3) (aA eT (cL x1.2.1 x2.2.1) (aA (bB (j9 x1).1 (j9 x2).1) (bZ (j9 x1).1 (j9 x2).1) (aA (cC x1.2.2.2.1 x2.2.2.2.1) (bB (tO x1) (tO x2)) (aA (bZ (tO x1) (tO x2)) (fU (bF x1.1 1)=bT x2.1) (aA (bM v) (dP w) (aA (bH (iX (j9 x1)) (j9 x2).2) ((j9 x1).2.2=(j9 x2).2.2) True)))))))))))) (∃(x2:Nat×Sl×MH×PH),aA (I x2) (m1 x2<m1 x) (aA (aJ sl) (eP 3) (aA eT (bB (j9 x1).1 x2.2.1) (aA
 (bZ (j9 x1).1 x2.2.1) (fU (bF x1.2.2.2.1 1)=bT x2.1) (aA (bM v) (dP w) (aA (bH (iX (j9 x1)) x2.2.2) ((j9 x1).2.2=rH x2) True))))))))))) (HM sl (∃(I1:Nat×List Sl×MH×PH->Prop)(m2:Nat×List Sl×MH×PH->Nat),(∃(x1:Nat×List Sl×MH×PH),aA (I1 x1) eT (aA (eL 63) (aJ sl) (aA (bK sl) (bA x1.1) (aA (dP w) (CL 53 1 (aG sl) hX (lM x1.2.1)) (bW (bH (iX x.2) x1.2.2) (rH x) (AV x1))))))/\∀(x1:Nat×List Sl×MH×PH),I1 x1->aW (↑x1.1:Int) (aG sl) (dG sl.a (↑x1.1:Int) sl (λb o y=>aM x1.2.2.1 (AV x1) b (bI o x1.1 1) (aL y)/\∃(s3:Sl),Ev y s3 x1.2.2.1 (AV x1) 1 (λl=>∀(s4:Sl)(h3:PH),cY (AV x1) h3 (Rows h3 s4 (yO l)) (aA (cF (↑x1.1:Int)) ((↑x1.1:Int)<jW (lM x1.2.1))
 (∃(e:List Value),aA (tP (lM x1.2.1) (pM x1.1) e) (0<e.length) (∃(x2:Nat×List Sl×MH×PH),aA (I1 x2) (m2 x2<m2 x1) (aA eT (eL 63) (aA (aJ sl) (bK sl) (aA (fU (bF x1.1 1)=bT x2.1) (dP w) (aH (Option.some (Own.lst 53 1 (List.set (lM x1.2.1) (pM x1.1) (dV s4::List.drop 1 e)))=Option.some (Own.lst 53 1 (lM x2.2.1))) (bH x1.2.2.1 x2.2.2) (h3=AV x2) True)))))))))) (bX (AV x1) 1 (lM x1.2.1) (λs3 h3=>∃(l:Sl)(v2:QV)(l1:List (List (List VV)))(q2:Query),aA (fF s3 (bJ w)=fF l (bJ v2)) (Leaves h3 l l1) (aA (dC h3 q2 v2) (R2 l1 q2 0) (aH (jA x1.2.2.1) ((iH l1 q2 0).1.length<=1000000) (AG (iH l1 q2 0).1 (λr=>wI r)) (∀(s4:Sl)(h4:PH),cY h3 h4 (Rows h4 s4 (iH l1 q2 0).1) (K (CV.tup (aZ (lR s4) 0)) x1.2.2.1
 h4)))))))))))))))
theorem D5{q:Query}:∀{l:List Query},cT (l++[q])=cT l++eK q
 |[]=>by simp[cT]
 |p::l=>by rw[List.cons_append,cT,D5,cT,List.append_assoc]
theorem Si:∀N,Sound Tryz.prog 75 (SD N)
 |0=>by
  refine eD (fn:=Tryz.f75) (c:=dM Tryz.f75) Tryz.func75 rfl (by decide) ?_;rintro cvs m h K ⟨v,q,rfl,hq,hN,_⟩;omega
 |N+1=>by
  refine gZ Tryz.func75 ?_;rintro cvs m h K ⟨v,q,rfl,hq,hN,hc,hK⟩;refine⟨WW N v m,rfl,aD (Si N) aF,Ov N v m h K,by kernel_rfl,?_⟩;dsimp only[Ov,push_cast];have hsl:=zD q;obtain⟨op,ta,w,co,on,gr,od,li,args⟩:=q;have xq:=hq.parts;have hargs:=xq.args_;have hal:=bL.slen hargs;have hal2:=bL.len hargs;have hvop:v.op=op:=xq.op_;have hvta:v.table=ta:=xq.table_;rw[eK]at hK hsl;rw[pB]at hc hsl;refine⟨λz=>z=(if op=1 then[ta]else[],h),aB (λe=>?_) (λe=>?_),?_⟩
  .have e:op=1:=by rw[<-hvop];simpa using e
   exact⟨aC,aC,([ta],h),by rw[if_pos e],by rw[hvta];exact MT⟩
  .have e:op≠1:=by rw[<-hvop];simpa using e
   exact⟨([],h),by rw[if_neg e],MT⟩
  rintro _ rfl;dsimp only;generalize (if op=1 then[ta]else[])=l0 at hK hsl;refine⟨λz=>z.1<=args.length/\z.2.1=l0++cT (args.take z.1)/\PH.le h z.2.2,λz=>args.length-z.1,⟨(0,l0,h),⟨by simp,by simp[cT],.refl _⟩,MT⟩,?_⟩;rintro⟨i,l,hx⟩ ⟨hi,hl,le⟩;dsimp only at hi hl le⊢
  subst hl
  have hmono:∀j,(cT (args.take j)).length<=(cT args).length:=λj=>by
   have h5:∀(a b:List Query),(cT a).length<=(cT (a++b)).length:=λa b=>by
    induction a with
    |nil=>simp[cT]
    |cons p a ih=>rw[List.cons_append,cT,cT,List.length_append,List.length_append];omega
   have:=h5 (args.take j) (args.drop j)
   rwa [List.take_append_drop]at this
  have hpre:=hmono i;rw[List.length_append]at hsl;refine aE (λhlt=>?_) (λhge=>?_)
  .obtain⟨p,hp⟩:=eW hal hlt;obtain⟨b,o,u,ea,hrd,hru⟩:=bL.at (yJ.mono hargs le) hp;have hmem:=List.mem_of_getElem? hp
   have hsz:SizeOf.sizeOf p<N:=by
    have:=List.sizeOf_lt_of_mem hmem;simp only[Query.mk.sizeOf_spec]at hN;omega
   have hcp:=MK hmem;have hsn:cT (args.take (i+1))=cT (args.take i)++eK p:=by rw[List.take_add_one,hp,Option.toList_some,D5]
   have hpre2:(cT (args.take (i+1))).length<=(cT args).length:=hmono _;rw[hsn,List.length_append]at hpre2;refine⟨b,o,ea,aC,aC,u,.imm hrd,u,p,rfl,hru,hsz,aC,λs h2 le2 hi2=>⟨(eK p).map eI,wZ _,hi2.row,?_,?_,(i+1,l0++cT (args.take i)++eK p,h2),⟨by show i+1<=_;omega,by rw[hsn,List.append_assoc],le.trans le2⟩,by show args.length-(i+1)<args.length-i;omega,?_⟩⟩
   .rw[List.length_map,List.length_map,List.length_append];omega
   .rw[List.length_map,List.length_map,List.length_append];omega
   .rw[iT aC];dsimp only;rw[List.map_append (l₁:=l0++_)];exact MT
  .rw[List.take_of_length_le aC]
   exactλs h' le' hri=>hK s h' (le.trans le') ⟨hri,by rw[List.length_append];omega⟩
theorem TJ:Sound Tryz.prog 75 V6:=qE Si λ_ _ _ _⟨v,q,e,h1,h2,h3⟩=>⟨SizeOf.sizeOf q+1,v,q,e,h1,aC,h2,h3⟩
structure yK(h:PH)(us:List Sl)(ls:List (List (List VV))):Prop where
 len:us.length=ls.length
 at_:∀(j:Nat) l,ls[j]? =some l->∃u,us[j]? =some u/\Rows h u l
theorem yK.mono{us:List Sl}{ls:List (List (List VV))}(x:yK h us ls)(le:PH.le h h'):yK h' us ls:=⟨x.len,λj l hl=>(x.at_ j l hl).imp λ_ hu=>⟨hu.1,bL.mono hu.2 le λr t hv=>cA.mono hv le⟩⟩
theorem yK.nil(h:PH):yK h [] []:=⟨rfl,λj x hx=>by simp at hx⟩
theorem yK.snoc{us:List Sl}{ls:List (List (List VV))}(x:yK h us ls){u:Sl}{l:List (List VV)}(hv:Rows h u l):yK h (us++[u]) (ls++[l]):=by
 refine⟨by simp[x.len],λj r hr=>?_⟩;by_cases hj:j<ls.length
 .rw[List.getElem?_append_left hj]at hr;obtain⟨u',h1,h2⟩:=x.at_ j r hr;exact⟨u',by rw[List.getElem?_append_left (by rw[x.len];exact hj)];exact h1,h2⟩
 .rw[List.getElem?_append_right aC]at hr;have:j-ls.length=0:=by have:=(List.getElem?_eq_some_iff.1 hr).1;simp at this;omega
  rw[this]at hr;simp at hr;subst hr;exact⟨u,by rw[List.getElem?_append_right (by rw[x.len];omega),x.len,this];rfl,hv⟩
theorem yK.leaves{us:List Sl}{ls:List (List (List VV))}{s:Sl}(x:yK h us ls)(hr:cN h s 1 (us.map eS))(hl:ls.length<=1000000):Leaves h s ls:=⟨⟨us,hr,x.len.symm,λi l hi=>x.at_ i l hi⟩,aC⟩
theorem TS:Sound Tryz.prog 36 SN:=by
 refine gZ Tryz.func36 ?_;rintro cvs m h K ⟨sl,st,v,q,rfl,hst,hq,hc,hin,hK⟩;refine⟨Xg sl m,rfl,aD TJ aF,ON sl v m h K,by kernel_rfl,?_⟩;dsimp only[ON,push_cast];have hsl:=zD q;refine⟨v,q,rfl,hq,hc,λs' h2 le2 hi=>?_⟩;have hil:=hi.slen;have hst2:=hst.mono le2;have hstl:=bL.slen hst2.lea;have hlq:jN st q=(eK q).map λt=>st.getD t.toNat []:=rfl;generalize jN st q=L at hlq hK;generalize eK q=ts at hi hil hsl hin hlq;have hLl:L.length=ts.length:=by rw[hlq,List.length_map]
 refine⟨λz=>z.1<=ts.length/\z.2.1=s'/\z.2.2.2=h2/\yK h2 z.2.2.1 (L.take z.1),λz=>ts.length-z.1,⟨(0,s',[],h2),⟨by simp,rfl,rfl,by simpa using yK.nil h2⟩,MT⟩,?_⟩;rintro⟨i,s2,us,h3⟩ ⟨hi1,e3,e5,hu⟩;dsimp only at hi1 e3 e5 hu⊢
 subst e3 e5;have hul:=hu.len;rw[List.length_take]at hul;refine aE (λhlt=>?_) (λhge=>?_)
 .obtain⟨t,hx⟩:=eW hil hlt;obtain⟨b,o,ea,rd⟩:=hi.at' hx;have ht:=hin t (List.mem_of_getElem? hx);have htn:t.toNat<st.length:=by omega
  have e6:st[t.toNat]? =some (st.getD t.toNat []):=by rw[List.getD_eq_getElem?_getD,List.getElem?_eq_getElem htn];rfl
  obtain⟨b2,o2,u,ea2,rd2,hr⟩:=bL.at hst2.lea e6;have hLi:L[i]? =some (st.getD t.toNat []):=by rw[hlq,List.getElem?_map,hx];rfl
  refine⟨b,o,ea,aC,aC,t,.imm rd,b2,o2,ea2,ht.1,aC,u,.imm rd2,by rw[List.length_map];omega,by rw[List.length_map];omega,(i+1,s2,us++[u],h3),⟨by show i+1<=ts.length;omega,rfl,rfl,by rw[List.take_add_one,hLi];exact hu.snoc hr⟩,by show ts.length-(i+1)<ts.length-i;omega,?_⟩;rw[iT aC,List.map_append];exact MT
 .rw[List.take_of_length_le aC]at hu
  exactλs3 h4 le4 hri=>hK s3 h4 (le2.trans le4) ((hu.mono le4).leaves hri aC)
theorem TK:Sound Tryz.prog 73 SU:=by
 refine gZ Tryz.func73 ?_;rintro cvs m h K ⟨s,r,n,rfl,hs,hK⟩;refine⟨WY s m h,rfl,aD DL aF,Ow s n m h K,by kernel_rfl,?_⟩;dsimp only[Ow,push_cast];have hsl:=bL.slen hs;have hl:=bL.len hs;refine aB (λe=>?_) (λe=>?_)
 .have e:¬(r.length:Int)=n:=by rw[<-hsl];simpa using e
  rw[decide_eq_false e,Bool.false_and]at hK;exact hK
 have e:(r.length:Int)=n:=by rw[<-hsl];simpa using e
 rw[decide_eq_true e,Bool.true_and]at hK;refine⟨λi=>i<=r.length/\(r.take i).all gK=true,λi=>r.length-i,⟨0,⟨aC,by simp⟩,MT⟩,λi hi=>aE (λhlt=>?_) (λhge=>?_)⟩
 .obtain⟨y,hy⟩:=eW hsl hlt;obtain⟨b,o,u,ea,rd,hv⟩:=bL.at hs hy;have hv:y=u:=hv;subst hv;refine⟨b,o,ea,aC,hlt,y,.imm rd,y,rfl,aB (λhd=>?_) (λhd=>?_)⟩
  .have:r.all gK=false:=by
    rw[Bool.eq_false_iff];intro h2;rw[List.all_eq_true.1 h2 y (List.mem_of_getElem? hy)]at hd;cases hd
   rw[this]at hK;exact hK
  .have hd:gK y=true:=by simpa using hd
   rw[iT aC];exact⟨i+1,⟨aC,by rw[List.take_add_one,hy,List.all_append,hi.2];simp[hd]⟩,by show r.length-(i+1)<r.length-i;omega,MT⟩
 .have:=hi.2;rw[List.take_of_length_le aC]at this;rw[this]at hK;exact hK
theorem TT:Sound Tryz.prog 35 X2:=by
 refine gZ Tryz.func35 ?_;rintro cvs m h K ⟨v,s,sl,ls,w,q,c,rfl,hs,hlv,hq,he,c1,hov,hb,hT,hK⟩;refine⟨Xh v sl w,rfl,aD f55q_sound (aD f57_sound (aD F0 (aD TK (aD CR (aD f58_sound aF))))),OO v sl w m h K,by kernel_rfl,?_⟩;dsimp only[OO,push_cast];obtain⟨hse,_,hsm,hkz⟩:=w8 he;have hkq:bY s [] q=((bY s [] q).1,0):=Prod.ext rfl hkz;have hcnt:=Cg hsm;have hsl:=zD q;have hin:=Bw hkq;have h8:=sA hse
 have hev:=JD c1 (ls:=ls) (k:=0) hkq ⟨λj t hj=>by
  have hjl:=(List.getElem?_eq_some_iff.1 hj).1;have hl:=hov.len;have e1:ls[j]? =some ls[j]:=List.getElem?_eq_getElem aC;have:=hov.at_ j t _ hj e1;exact⟨_,by rw[Nat.zero_add];exact e1,this.1,this.2.1⟩⟩ hb
 have hlsl:=bL.slen hlv;have hlen:=hov.len;refine⟨v,cE,w,s,[],q,rfl,hs,kQ h,hq,hsm,λsl1 h1 le1 _=>aB (λe=>?_) (λ_=>?_)⟩
 .rw[he]at e;simp at e
 refine⟨w,q,rfl,hq.mono le1,aC,λs' h2 le2 hi=>aB (λe=>?_) (λ_=>?_)⟩
 .have:=hi.slen;have:(sl.len:Int)=s'.len:=by omega
  rw[this]at e;simp at e
 have hil:=hi.slen;have le12:=le1.trans le2;have hov2:=hov.at_;generalize eK q=ts at hi hil hsl hin hov2 hlen;have lv2:∀{hx},PH.le h hx->Leaves hx sl ls:=fun{hx} le=>bL.mono hlv le λl s hr=>bL.mono hr le λr t hv=>cA.mono hv le;refine⟨λz=>z.1<=ts.length/\z.2.1=s'/\z.2.2.1=m/\PH.le h2 z.2.2.2,λz=>ts.length-z.1,⟨(0,s',m,h2),⟨by simp,rfl,rfl,.refl _⟩,MT⟩,?_⟩;rintro⟨i,s2,m2,hx⟩ ⟨hi1,e3,e4,lex⟩;dsimp only at hi1 e3 e4 lex⊢
 subst e3 e4;refine aE (λhlt=>?_) (λhge=>?_)
 .obtain⟨t,ht⟩:=eW hil hlt;obtain⟨b,o,ea,rd⟩:=(hi.mono lex).at' ht;have e1:ls[i]? =some ls[i]:=List.getElem?_eq_getElem aC;obtain⟨hrel,_,hval⟩:=hov2 i t _ ht e1;refine⟨b,o,ea,aC,aC,t,.imm rd,v,s,t,rfl,hs.mono (le12.trans lex),h8,λsk h3 le3 hk=>?_⟩;obtain⟨b2,o2,u,ea2,rd2,hr⟩:=bL.at (lv2 (le12.trans (lex.trans le3))) e1;have hkl:=hk.slen;have hul:=bL.slen hr;refine⟨b2,o2,ea2,aC,aC,u,.imm rd2,λz=>z.1<=ls[i].length/\z.2=(((gI s t).length:Int),u,i,s2,m2,h3),λz=>ls[i].length-z.1,⟨(0,((gI s t).length:Int),u,i,s2,m2,h3),⟨by simp,rfl⟩,by rw[hkl];exact MT⟩,?_⟩;rintro⟨j,z⟩ ⟨hj,e⟩;dsimp only at hj e;subst e;dsimp only;refine aE (λhlt2=>?_) (λhge2=>?_)
  .obtain⟨r,hrj⟩:=eW hul hlt2;obtain⟨b3,o3,ur,ea3,rd3,hv⟩:=bL.at hr hrj;have hrm:=List.mem_of_getElem? hrj;have hll:=hrel.len;refine⟨b3,o3,ea3,aC,aC,ur,.imm rd3,ur,r,_,rfl,hv,aB (λe=>?_) (λ_=>?_)⟩
   .rw[hval r hrm,hrel.wid r hrm]at e;simp at e
   .rw[iT aC];exact⟨(j+1,((gI s t).length:Int),u,i,s2,m2,h3),⟨by show j+1<=_;omega,rfl⟩,by show ls[i].length-(j+1)<ls[i].length-j;omega,MT⟩
  .rw[iT aC];exact⟨(i+1,s2,m2,h3),⟨by show i+1<=_;omega,rfl,rfl,lex.trans le3⟩,by show ts.length-(i+1)<ts.length-i;omega,MT⟩
 .refine⟨aC,aC,aC,aC,λz=>z.1<=ls.length/\z.2.2.1=m2/\PH.le hx z.2.2.2/\∃us,z.2.1=us++List.replicate (ls.length-z.1) ⟨none,0,0⟩/\yK z.2.2.2 us (ls.take z.1),λz=>ls.length-z.1,⟨(0,List.replicate ls.length ⟨none,0,0⟩,m2,hx),⟨by simp,rfl,.refl _,[],by simp,by simpa using yK.nil hx⟩,?_⟩,?_⟩
  .rw[show((sl.len:Int)).toNat=ls.length by omega];dsimp only;rw[List.map_replicate];exact MT
  rintro⟨i2,l,m3,hy⟩ ⟨hi2,e4,ley,us,hl,hu⟩;dsimp only at hi2 e4 ley hl hu⊢
  subst e4;have hul:=hu.len;rw[List.length_take]at hul;refine aE (λhlt2=>?_) (λhge2=>?_)
  .have e1:ls[i2]? =some ls[i2]:=List.getElem?_eq_getElem aC;have et:ts[i2]? =some ts[i2]:=List.getElem?_eq_getElem aC;obtain⟨hrel,_,_⟩:=hov2 i2 _ _ et e1;have ley2:=le12.trans (lex.trans ley);obtain⟨b2,o2,u,ea2,rd2,hr⟩:=bL.at (lv2 ley2) e1;obtain⟨rs,h7,h8,h9⟩:=hr.ex;have hll:=hrel.len;have hlen2:l.length=ls.length:=by rw[hl,List.length_append,List.length_replicate];omega
   have hev2:l[i2]? =some ⟨none,0,0⟩:=by
    rw[hl,List.getElem?_append_right aC,List.getElem?_replicate,if_pos aC]
   refine⟨b2,o2,ea2,aC,aC,u,.imm rd2,u,rs,ls[i2],rfl,.imm h7,⟨h8.symm,h9⟩,aC,λs5 h5 le5 hr5=>⟨aC,by rw[List.length_map];omega,[tY],by rw[List.getElem?_map,show((i2:Int)).toNat=i2 from rfl,hev2];rfl,by simp,(i2+1,l.set i2 s5,m3,h5),⟨by show i2+1<=_;omega,rfl,ley.trans le5,us++[s5],?_,?_⟩,by show ls.length-(i2+1)<ls.length-i2;omega,?_⟩⟩
   .dsimp only;rw[hl,List.set_append,if_neg aC,List.append_assoc];congr 1;rw[show ls.length-i2=(ls.length-(i2+1))+1 by omega,List.replicate_succ,show i2-us.length=0 by omega];rfl
   .dsimp only;rw[List.take_add_one,e1];rw[Te hrel.srt]at hr5;exact(hu.mono le5).snoc hr5
   .dsimp only
    have e9:((l.map eS).set ((i2:Int)).toNat (dV s5::List.drop 1 [tY]))=(l.set i2 s5).map eS:=by
     rw[List.map_set];rfl
    rw[e9,iT aC];exact MT
  .have:i2=ls.length:=by omega
   subst this;rw[Nat.sub_self,List.replicate_zero,List.append_nil]at hl;subst hl;rw[List.take_length]at hu;intro s6 h6 le6 hri;have le06:=(le12.trans (lex.trans ley)).trans le6;exact⟨s6,w,ls,q,rfl,(hu.mono le6).leaves hri aC,hq.mono le06,hev.ok,hT,Nat.le_trans hev.bnd hb,λr hr=>by have:=(hev.rel.row r hr).len;omega,λs7 h7 le7 hr7=>hK s7 h7 (le06.trans le7) hr7⟩
noncomputable def Km:List (Nat×Vc.Spec):=(21,SE)::(35,X2)::(36,SN)::NX
noncomputable def Yu:Ctx:=uF Km [] [] [] [] [] false
def Sc(s:Sl)(m:MH)(h:PH)(K:CV->MH->PH->Prop):Prop:=
  ∃(s1:Sl)(c:List UInt8)(m1:Nat),aA (fC s 220=fC s1 (↑m1:Int)) (cN h s1 1 (aY c)) (aA (s1.len<=s1.cap) (mG m1) (∀(c1:Nat),fM (λm2 h1=>cY h h1 (AT m c1) (aT (bC m m2 c1) (aK m2 h1 c1) (∃(c2:Nat),aA (eA (oC c1 0) (oC c2 0)) (aK m2 h1 c2) (∀(s2:oF)(v:cH),fM (λm3 h2=>aT (rP s2) (gJ h2 s2 v) (cY h1 h2 (bC m2 m3 c2) (jX m3 h2 c2 (∃(c3:Nat),DE (λs3 p=>Dk (λs4 p1=>∃(d:Int),aA (oC c1 0::bP (dU v) (aZ lN 3)=oC c3 0::bP (dU s3) (fC p d)) (aK m3 h2 c3) (aA (gJ h2 s4 s3) (eJ s4=0) (aA (jL (s4.tables=[])) (Ints h2 p p1) (aA (fS p1) (dT (DC p1)) (aH (Int.negSucc 0<=d) (d<=1000) ((d+1).toNat<5) (FF (λw q=>fM (λm4 h3=>cY h2 h3 (dC h3 q w) (aT (QW q)
 (wV d.toNat q) (aT ((fB s4 p1 q).2=0) (bC m3 m4 c3) (jX m4 h3 c3 (∃(c4:Nat),jM (λv1 s5=>aA (oC c1 0::aZ (fX v) 3=oC c4 0::aZ (fX v1) 3) (aK m4 h3 c4) (aA (gJ h3 s5 v1) (rP s5) (∀(s6:List (List (List VV)))(s7:Sl),fM (λm5 h4=>cY h3 h4 (GC h4 s7 s6) (aT (GD s5 s6) (bC m4 m5 c4) (jX m5 h4 c4 (jM (λv2 s8=>yW (λs9 a=>kC (λw1 q1=>aA (bP (dU v) (cR (mM (aL s7)) (bJ w))=bP (dU v2) (cR (mM (aL s9)) (bJ w1))) (gJ h4 s8 v2) (aA (GC h4 s9 a) (dC h4 q1 w1) (aH (dT (lF q1)) (jA m5) (aT (EK s8 q1) (p7 s8 a=0) (LP a q1)) (∀(a1:Sl)(h5:PH),cY h4 h5 (Rows h5 a1 (FD s8 a q1).1) (yW (λa2 a3=>kC (λv3 q2=>aA (cR (mM (aL s7)) (bJ w)=cR (mM (aL a2)) (bJ
 v3)) (GC h5 a2 a3) (aA (dC h5 q2 v3) (pB q2<=900000) ((∀(t:Int),List.Mem t (eK q2)->cF t/\t<(↑a3.length:Int))/\∀(a4:Sl)(h6:PH),cY h5 h6 (Leaves h6 a4 (jN a3 q2)) (jM (λv4 a5=>yW (λa6 l=>kC (λw2 q3=>∃(c5:Nat),aA (bP (dU v) (fF a4 (bJ w))=bP (dU v4) (fF a6 (bJ w2))) (gJ h6 a5 v4) (aA (Leaves h6 a6 l) (dC h6 q3 w2) (aA (EK a5 q3) (1<=c5) (aA (RG a5 c5 l (eK q3)) (lO c5 q3<=1000000) (jA m5/\∀(a7:Sl)(h7:PH),cY h6 h7 (Rows h7 a7 (iH l q3 0).1) (aA (([]:List CV)=[]) (jA m5) (dK (FD s8 a q1).2 0 (jV (λa8 t=>∃(a9 b:List (List VV)),aH (fY a1 a7=fY a8 t) (Rows h7 a8 a9) (Rows h7 t b) (∀(r:Bool),(dT r↔a9=b)->K (z7 r) m5 h7))) (K aU m5 h7))))))))))))))))))))))))))))))))))))))))))))))))))))
theorem Tu{t:tV}{r:List VV}(h:A3 t r=true):r.all gK=true:=by
 rw[List.all_eq_true];intro v hv;obtain⟨i,hi⟩:=List.getElem?_of_mem hv;have hil:=(List.getElem?_eq_some_iff.1 hi).1;unfold A3 at h;rw[Bool.and_eq_true,List.all_eq_true]at h;have:=h.2 i (List.mem_range.2 hil);unfold uP at this;rw[Bool.and_eq_true,List.getD_eq_getElem?_getD,hi]at this;exact this.1
theorem PQ{st:List (List (List VV))}(hp:rP s)(hst:GD s st)(hin:∀t∈eK q,0<=t/\t<s.tables.length):RG s 4 (jN st q) (eK q):=by
 refine⟨by rw[jN,List.length_map],λj t l h1 h2=>?_⟩;rw[jN,List.getElem?_map,h1]at h2;simp only[Option.map_some,Option.some.injEq]at h2;subst h2;obtain⟨t0,t1⟩:=hin t (List.mem_of_getElem? h1);obtain⟨hr,hm⟩:=UE (Jd hp hst) hst.val t0 t1;refine⟨hr,hst.few _ hm,λr hrm=>?_⟩;have hl:=hst.len;have e1:s.tables[t.toNat]? =some s.tables[t.toNat]:=List.getElem?_eq_getElem aC;have e2:st[t.toNat]? =some (st.getD t.toNat []):=by rw[List.getD_eq_getElem?_getD,List.getElem?_eq_getElem aC];rfl
 exact Tu ((hst.ok _ _ _ e1 e2).1 r hrm)
theorem PJ:∀g S,assoc Km g=some S->Sound Tryz.prog g S:=aD F6 (aD TT (aD TS Tm))
theorem U1:Sound Tryz.prog 9 Y8:=by
 refine gZ Tryz.func9 ?_;rintro cvs m h K ⟨s,cs,rfl,hr,hcap,ht,hK⟩;refine⟨Yu,rfl,PJ,Sc s m h K,by kernel_rfl,?_⟩;dsimp only[Sc,push_cast];refine⟨s,cs,220,rfl,hr,hcap,aC,λcb m1 h1 le1 hcb o1 c1=>⟨cb,rfl,c1,λsc v m2 h2 hpl rS le2 o2 c2=>?_⟩⟩;obtain⟨hse,hne⟩:=Ec hpl;refine⟨cb,v,cE,sc,[],3,rfl,c2,rS,hse,hne,kQ _,by simp,by simp,aC,aC,by decide,λa qa m3 h3 le3 rq qw fq hq o3 c3=>⟨cb,v,sc,rfl,c3,rS.mono le3,hpl,λst sl m7 h7 le7 hst good o7 c0=>?_⟩⟩;have fq:wV 3 qa:=fq;have A:=YG.of (rq.mono le7) hq fq.arg;obtain⟨_,_,hsm,hkz⟩:=w8 hq;have gb:gB 3<=1000000:=by decide
 have om:=((o1.trans o2).trans o3).trans o7;have ht7:=ht.new hcb om;have hsub:Sub m m7:=λb o e=>by rw[om.other b (λe2=>by rw[e2,hcb]at e;cases e)];exact e
 have rS7:=rS.mono (le3.trans le7);have hin:=Bw A.kin;have htl:=good.len;have hcnt:=Cg hsm;have hb:lO 4 qa<=1000000:=Nat.le_trans A.bnd gb;have ev:=(UG (Jd hpl good) good.val good.few aC A.kin hb).2.1;have hres:=A.res hpl good hsm;refine⟨v,sc,sl,st,a,qa,rfl,rS7,hst,A.rep,hsm,ht7,λ_ _=>A.bok good gb,λt1 g1 f1 q1=>⟨sl,st,a,qa,rfl,hst.mono f1,A.rep.mono f1,aC,λt h=>by have:=hin t h;omega,λs2 g2 f2 lv=>⟨v,sc,s2,jN st qa,a,qa,4,rfl,rS7.mono (f1.trans f2),lv,A.rep.mono (f1.trans f2),hq,aC,PQ hpl good hin,hb,ht7,λt2 g3 f3 q2=>?_⟩⟩⟩;rw[hres]at q1⊢
 rw[ev]at q2;refine⟨rfl,ht7,aB (λ_=>?_) (λe=>?_)⟩
 .refine⟨t1,t2,_,_,rfl,bL.mono q1 (f2.trans f3) λr t hv=>cA.mono hv (f2.trans f3),q2,λr hr=>?_⟩;rw[hr.2 rfl];exact hK _ _ hsub
 .simp at e
end Go.Ps
