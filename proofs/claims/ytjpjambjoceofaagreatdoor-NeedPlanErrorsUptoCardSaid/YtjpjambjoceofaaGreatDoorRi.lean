/- Own work. -/
import Derived.Test.YtjpjambjoceofaaGreatDoorRh
set_option linter.unusedVariables false
set_option linter.unusedSimpArgs false
namespace Go.Ps
open Go Go.Vc Go.Proofs List Tryz
variable{K:cr}{m:MH}{h:PH}{s:jB}{ps:cq}{ts:de}{cb:Nat}{sc:bW}{v:QV}{t:Step}{p:Pred}{l:cq}{i:Nat}{N:Nat}{m':MH}{h':PH}{co:cq}{gr:cq}{od:cv}{ta:Int}{li:Int}{xs:List cn}{sz:Nat}{ks:List cq}{rs:cq}{r:Sl}{a:cq}{b:Nat}
variable{cN:Nat}
theorem MX{b:cq}{l:cu}(h:∀x∈l,Cg a x.1=true/\Cg b x.2=true/\a.getD x.1.toNat 0=b.getD x.2.toNat 0)(d:(l.map Prod.fst).Nodup)(f:(l.map Prod.snd).Nodup):Good (lS a b) l:=by
 intro i x c;obtain⟨g,n,o⟩:=h x (br c);refine⟨g,n,o,λq u=>?_⟩;obtain⟨j,A,e⟩:=mem_take_iff_getElem.1 u;obtain⟨y,z⟩:=List.getElem?_eq_some_iff.1 c;rw[nodup_iff_pairwise_ne,pairwise_iff_getElem]at d f
 grind
theorem WJ{b:cq}{l:cu}(h:Good (lS a b) l):(l.map Prod.fst).Nodup/\(l.map Prod.snd).Nodup:=by
 rw[nodup_iff_pairwise_ne,pairwise_iff_getElem,nodup_iff_pairwise_ne,pairwise_iff_getElem];refine⟨λi j e c d=>?_,λi j e c d=>?_⟩<;>
 .simp only[length_map]at e c;simp only[getElem_map];have:=(h j l[j] (bo c)).2.2.2 l[i] (mem_take_iff_getElem.2 ⟨i,aD,rfl⟩)
  first|exact this.1|exact this.2
theorem akQ{b:cq}{on:cu}(h:Good (lS a b) on):Good (lS b a) (pW on):=by
 obtain⟨f,g⟩:=WJ h;refine MX (λx c=>?_) ?_ ?_
 .obtain⟨p,d,rfl⟩:=mem_map.1 c;have:=BM (P:=λp=>Cg a p.1=true/\Cg b p.2=true/\a.getD p.1.toNat 0=b.getD p.2.toNat 0) h (λe x t=>⟨t.1,t.2.1,t.2.2.1⟩) p d
  grind
 .unfold pW;grind
 .unfold pW;grind
theorem aKX(h:Good (E9 a) gr):Good (lS a a) (tA gr):=by
 have u:gr.Nodup:=by
  rw[nodup_iff_pairwise_ne,pairwise_iff_getElem];intro i j y d f e;exact(h j gr[j] (bo d)).2 (by rw[<-e];exact mem_take_iff_getElem.2 ⟨i,aD,rfl⟩)
 refine MX (λx g=>?_) ?_ ?_
 .obtain⟨c,n,rfl⟩:=mem_map.1 g;have:=BM (P:=λc=>Cg a c=true) h (λo x t=>t.1) c n
  grind
 .unfold tA;grind
 .unfold tA;grind
theorem amQ{α β:Type}{f:α->β}:∀{l:List α},l.Nodup->(∀x∈l,∀y∈l,f x=f y->x=y)->(l.map f).Nodup
 |[],_,_=>ay
 |a::l,h,c=>by
  rw[nodup_cons]at h;rw[map_cons,nodup_cons];refine⟨λg=>?_,amQ h.2 λx d y e=>c x (by simp[d]) y (by simp[e])⟩
  grind
theorem WK(h:Good (λ_ c=>Cg a c=true) co):Good (lS a (co.map λc=>a.getD c.toNat 0)) (nZ co):=by
 have g:((List.range co.length).filter λi=>decide (co.idxOf (co.getD i 0)=i)).Nodup:=List.Nodup.sublist filter_sublist nodup_range;refine MX (λx e=>?_) ?_ ?_
 .obtain⟨i,j,rfl⟩:=mem_map.1 e;have d:i<co.length:=bg
  have f:co.getD i 0=co[i]:=by simp[d]
  have:=h i co[i] (bo d);dsimp only;rw[f];refine⟨this,dZ.2 ⟨aD,bf⟩,?_⟩
  grind
 .unfold nZ
  grind
 .unfold nZ
  grind
theorem WI{b:cq}:Good (lS (a++b) b) (AU (a.length:Int) (b.length:Int)):=by
 have e:(List.range b.length).Nodup:=nodup_range;refine MX (λx c=>?_) ?_ ?_
 .unfold AU at c;rw[Int.toNat_natCast]at c;obtain⟨i,f,rfl⟩:=mem_map.1 c;have d:i<b.length:=bg
  refine⟨dZ.2 ⟨aD,bg⟩,dZ.2 ⟨aD,aD⟩,?_⟩
  grind
 .unfold AU
  grind
 .unfold AU
  grind
theorem Zw{K:cq}{a n:Nat}(h:a+n<=K.length):Good (λ_ c=>Cg K c=true) (gS a n):=by
 intro i x d;have:=br d;unfold gS at this;obtain⟨j,e,rfl⟩:=mem_map.1 this;have:j<n:=bg
 exact dZ.2 ⟨aD,aD⟩
theorem Uc{K:cq}{a n:Nat}(h:a+n<=K.length):(gS a n).map (λc=>K.getD c.toNat 0)=(K.drop a).take n:=by
 unfold gS;rw[map_map,Int.toNat_natCast];apply ext_getElem?
 grind
theorem ahJ{K:cq}{n:Nat}(h:n<=K.length):(gS 0 n).map (λc=>K.getD c.toNat 0)=K.take n:=by
 have:=Uc (K:=K) (a:=0) (n:=n) aD
 grind
theorem v7{s:jB}{ts:de}{op:Int}{on:cu}{gr:cq}{od:cv}{li:Int}{a b:Nat}(c:s.tables.length<=1000)(v:Dm cN s ts)(d:ts.length<=100000)(e:arity op=2)(f:a<ts.length)(j:b<ts.length)(g:gY cN s (.mk op 0 eJ [] on gr od li [aM ts a,aM ts b])):
 AP cN s ts (bT ⟨op,0,eJ,[],on,gr,od,li,a,b⟩ ts).1 (bT ⟨op,0,eJ,[],on,gr,od,li,a,b⟩ ts).2 (.mk op 0 eJ [] on gr od li [aM ts a,aM ts b]):=
 Kn (ks:=[a,b]) c v d (by rw[e];rfl) (λk n=>bg) rfl g
theorem Wd{s:jB}{ts:de}{co:cq}{a:Nat}(c:s.tables.length<=1000)(v:Dm cN s ts)(d:ts.length<=100000)(e:a<ts.length)(g:gY cN s (Hx (aM ts a) co)):
 AP cN s ts (bT (mT a co) ts).1 (bT (mT a co) ts).2 (Hx (aM ts a) co):=
 Kn (ks:=[a]) c v d rfl (λk f=>bg) rfl g
theorem AP.keep{c:de}{k:Nat}{q:Query}(x:AP cN s ts c k q)(d:i<ts.length):i<c.length/\aM c i=aM ts i:=⟨ck d x.pre.length_le,eM x.pre x.inv.ok i d⟩
structure yT(cN:Nat)(s:jB)(ts:de)(rs:cq)(r:de×cq)(qs:cz):Prop where
 inv:Dm cN s r.1
 pre:ts<+:r.1
 ex:∃ds:dl,r.2=rs++ds.map (fun(d:Nat)=>(d:Int))/\(∀d∈ds,d<r.1.length)/\ds.map (aM r.1)=qs
theorem yT.comp{e:de}{z r:de×cq}{f g:cz}(x:yT cN s ts rs z f)(j:z.1<+:e)(y:yT cN s e z.2 r g):yT cN s ts rs r (f++g):=by
 obtain⟨o,D,u,A⟩:=x.ex;obtain⟨B,E,F,C⟩:=y.ex;have c:=j.trans y.pre;refine⟨y.inv,(x.pre.trans j).trans y.pre,o++B,bg,λd n=>?_,?_⟩
 .grind
 .rw[bw,C, <-A];congr 1;exact map_congr_left λd n=>eM c y.inv.ok d (u d n)
theorem yT.shift{c:de}{r:de×cq}{q:cz}(d:ts<+:c)(y:yT cN s c rs r q):yT cN s ts rs r q:=⟨y.inv,d.trans y.pre,y.ex⟩
theorem MI{q p:Query}{op:Int}{w:Pred}{on:cu}(c:op≠1)(d:op≠4):fE (cN+1) (.mk op ta w co on gr od li [q,p])=fE (cN+1) q+fE (cN+1) p:=by
 rw[fE,if_neg c,if_neg d];simp[rK]
theorem b8X{q:Query}{w:Pred}{on:cu}:fE (cN+1) (.mk 3 ta w co on gr od li [q])=fE (cN+1) q:=by
 rw[fE,if_neg az,if_neg az];simp[rK]
theorem ZC{s:jB}{ts:de}{p:PN}{gr:cq}{od:cv}{li:Int}{B b k:Nat}(j:s.tables.length<=1000)(v:Dm cN s ts)(I:ts.length+5<=100000)(n:k<ts.length)(C:Ge cN s ts p)(e:(aJ s [] (aM ts k)).1=(aJ s [] p.q).1)(o:lH (aJ s [] p.q).1 gr od li)(D:fE (cN+1) p.q<=B)(J:fE (cN+1) (aM ts k)<=b)(E:b+2*B<=8000000):
 AP cN s ts (AA p k gr od li ts).1 (AA p k gr od li ts).2 (Fe (lB (gR p.q) (aM ts k) (tA gr)) p.q gr od li)/\(aJ s [] (Fe (lB (gR p.q) (aM ts k) (tA gr)) p.q gr od li)).1=(aJ s [] p.q).1/\fE (cN+1) (Fe (lB (gR p.q) (aM ts k) (tA gr)) p.q gr od li)<=b+2*B:=by
 obtain⟨F,u,f,x,_,G,_⟩:=C.get;have ev:=DC _ G;have L:fE (cN+1) (gR p.q)<=B:=cj ev.2.2 D;have g:(aJ s [] (aM ts p.env)).1=(aJ s [] p.q).1:=bg
 have y:=Ds (on:=tA gr) (v.good _ u) (v.good k n) (by rw[g,e];exact aKX o.group_) bg;have A:=v7 (on:=tA gr) (gr:=[]) (od:=[]) (li:=0) j v aD (show arity 5=2 from rfl) u n y.1;have H:=dM (dL p.env k (tA gr)) ts;have A:AP cN s ts (bT (dL p.env k (tA gr)) ts).1 (bT (dL p.env k (tA gr)) ts).2 (lB (gR p.q) (aM ts k) (tA gr)):=by rw[<-x];exact A
 rw[x]at y;have M:fE (cN+1) (lB (gR p.q) (aM ts k) (tA gr))<=b+B:=by unfold lB;rw[MI az az];omega
 have c:=A.keep F;have d:(aJ s [] (lB (gR p.q) (aM ts k) (tA gr))).1=(aJ s [] p.q).1:=bg
 have z:=ajX (gr:=gr) (od:=od) (li:=li) (A.inv.good _ A.lt) (A.inv.good _ c.1) (by rw[A.is,c.2,f,d]) (by rw[A.is,d];exact o) (by rw[A.is,c.2,f];omega);have A2:=v7 (on:=[]) (gr:=gr) (od:=od) (li:=li) j A.inv aD (show arity 10=2 from rfl) A.lt c.1 z.1;rw[A.is,c.2,f]at z A2;refine⟨⟨A2.inv,A.pre.trans A2.pre,A2.lt,A2.is⟩,bg,?_⟩;unfold Fe;rw[MI az az];omega
set_option maxHeartbeats 32000000 in
theorem vC{s:jB}(o:dH s=0):∀(p:PN)(B W b k:Nat)(ts:de)(rs:cq),Ge cN s ts p->Dm cN s ts->k<ts.length->(aJ s [] (aM ts k)).1=(aJ s [] p.q).1->fE (cN+1) p.q<=B->2*B<=W->fE (cN+1) (aM ts k)<=b->b+W*jZ p<=8000000->ts.length+5*jZ p<=100000->
 yT cN s ts rs (fG p k ts rs) (pI (wT s) p.q (aM ts k))
 |.mk (.mk op ta w co on gr od li a5) args r e wd,B,W,b,k,ts,rs,hp,v,E,f,hB,hW,hb,H,hl=>by
  have Q:=Uf o;have b4:=hp;rw[Ge]at hp;obtain⟨_,_,_,_,_,g,ha,L⟩:=hp;have ha:a5=args.map PN.q:=ha;subst ha;have hB:fE (cN+1) (.mk op ta w co on gr od li (args.map PN.q))<=B:=hB;have f:(aJ s [] (aM ts k)).1=(aJ s [] (.mk op ta w co on gr od li (args.map PN.q))).1:=f;show yT cN s ts rs _ (pI (wT s) (.mk op ta w co on gr od li (args.map PN.q)) (aM ts k));obtain⟨n,b5,I,ga⟩:=g.node;have gD:=v.good k E;have J:∀a∈args,fE (cN+1) a.q<=B:=λa h=>cj (Z9 g (mem_map.2 ⟨a,h,rfl⟩)) hB;have eB:∀a∈args,fE (cN+1) (gR a.q)<=B:=λa h=>cj (DC _ (ga _ (mem_map.2 ⟨a,h,rfl⟩))).2.2 (J a h);have eg:∀a∈args,(aJ s [] (gR a.q)).1=(aJ s [] a.q).1:=λa h=>(DC _ (ga _ (mem_map.2 ⟨a,h,rfl⟩))).2.1;have V:∀a∈args,a.rows<ts.length/\a.env<ts.length/\aM ts a.rows=a.q/\aM ts a.env=gR a.q/\a.width=wT s a.q/\gY cN s a.q:=λa h=>let x:=(L a h).get;⟨x.1,x.2.1,x.2.2.1,x.2.2.2.1,x.2.2.2.2.1,x.2.2.2.2.2.1⟩
  rw[n.out]at f;rw[length_map]at I;rw[fG.eq_def,pI.eq_def];simp only[jZ]at H hl;have a8:op=1\/op=2\/op=3\/op=9\/op=4\/op=5\/op=6\/op=7\/op=8\/op=10:=by omega
  rcases a8 with rfl|rfl|rfl|rfl|rfl|rfl|rfl|rfl|rfl|rfl
  .obtain rfl:args=[]:=eq_nil_of_length_eq_zero (by have:arity 1=0:=rfl;omega);exact⟨v,prefix_refl _,[k],rfl,λd hd=>by simp at hd;subst hd;exact E,rfl⟩
  .obtain⟨a,rfl⟩:=Gp (l:=args) (by rw[I];rfl);simp only[qK]at H hl;have e1:W*(1+(jZ a+0))=W+W*jZ a:=bg
   exact vC o a B W b k ts rs (L a ay) v E f (J a ay) hW hb aD aD
  .obtain⟨a,rfl⟩:=Gp (l:=args) (by rw[I];rfl);simp only[qK]at H hl;have e1:W*(1+(jZ a+0))=W+W*jZ a:=bg
   obtain⟨_,g2,_,g4,_,g6⟩:=V a ay;have g1:=eB a ay;have gE:gY cN s (aM ts a.env):=v.good _ g2;have M:(aJ s [] (aM ts a.env)).1=(aJ s [] a.q).1:=bg
   have R:=Ds (on:=nZ co) gE gD (by rw[M,f];exact WK (n.proj rfl).2) bg;have A:=v7 (on:=nZ co) (gr:=[]) (od:=[]) (li:=0) Q v aD (show arity 5=2 from rfl) g2 E R.1;have a1:=dM (dL a.env k (nZ co)) ts;have A:AP cN s ts (bT (dL a.env k (nZ co)) ts).1 (bT (dL a.env k (nZ co)) ts).2 (lB (gR a.q) (aM ts k) (nZ co)):=by rw[<-g4];exact A
   show yT cN s ts rs (fG a (bT (dL a.env k (nZ co)) ts).2 (bT (dL a.env k (nZ co)) ts).1 rs) (pI (wT s) a.q (lB (gR a.q) (aM ts k) (nZ co)));have:=vC o a B W (b+2*B) _ _ rs (Ge.mono A.pre A.inv.ok a (L a ay)) A.inv A.lt (by rw[A.is, <-g4,R.2];exact M) (J a ay) hW (by rw[A.is];unfold lB;rw[MI az az];omega) aD aD;rw[A.is]at this;exact this.shift A.pre
  .obtain⟨a,rfl⟩:=Gp (l:=args) (by rw[I];rfl);simp only[qK]at H hl;have e1:W*(1+(jZ a+0))=W+W*jZ a:=bg
   obtain⟨g0,g2,S,g4,_,g6⟩:=V a ay;have g1:=eB a ay;have a2:lH (aJ s [] a.q).1 gr od li:=n.rank (.inl rfl);have f:(aJ s [] (aM ts k)).1=(aJ s [] a.q).1:=f;have P:=ZC (gr:=gr) (od:=od) (li:=li) Q v aD E (L a ay) f a2 (J a ay) hb aD;show yT cN s ts rs (fG a (AA a k gr od li ts).2 (AA a k gr od li ts).1 rs) (pI (wT s) a.q (Fe (lB (gR a.q) (aM ts k) (tA gr)) a.q gr od li));have a1:=BL a k gr od li ts;have:=vC o a B W (b+2*B) _ _ rs (Ge.mono P.1.pre P.1.inv.ok a (L a ay)) P.1.inv P.1.lt (by rw[P.1.is];exact P.2.1) (J a ay) hW (by rw[P.1.is];exact P.2.2) aD aD;rw[P.1.is]at this;exact this.shift P.1.pre
  .obtain⟨a,c,rfl⟩:=rJ (l:=args) (by rw[I];rfl);simp only[qK]at H hl;have e1:W*(1+(jZ a+(jZ c+0)))=W+W*jZ a+W*jZ c:=bg
   obtain⟨g0,g2,S,g4,g5,g6⟩:=V a ay;obtain⟨k0,X,k3,T,k5,k6⟩:=V c ay;have f:(aJ s [] (aM ts k)).1=(aJ s [] a.q).1++(aJ s [] c.q).1:=f;have pa:=KW o _ g6;have pb:=KW o _ k6;have b':=kH s [] (aM ts k);rw[f,bt]at b';have b0:=J c ay;have R:=Ds (on:=AU a.width c.width) gD (v.good _ k0) (by rw[f,k3,g5,k5];exact WI) bg;have A:=v7 (on:=AU a.width c.width) (gr:=[]) (od:=[]) (li:=0) Q v aD (show arity 5=2 from rfl) E k0 R.1;have A:AP cN s ts (bT (dL k c.rows (AU a.width c.width)) ts).1 (bT (dL k c.rows (AU a.width c.width)) ts).2 (lB (aM ts k) c.q (AU a.width c.width)):=by rw[<-k3];exact A
   have a1:=dM (dL k c.rows (AU a.width c.width)) ts;rw[k3]at R;have a9:(aJ s [] (lB (aM ts k) c.q (AU a.width c.width))).1=(aJ s [] a.q).1++(aJ s [] c.q).1:=bg
   have b1:∀(K1 K2:cq),0<K1.length->(gS 0 (K1.length:Int))≠[]:=λK1 K2 h e=>by
    have:=congrArg List.length e;simp[gS]at this
    grind
   have U:a.width=((aJ s [] a.q).1.length:Int):=g5;have a3:c.width=((aJ s [] c.q).1.length:Int):=k5;have bX:fE (cN+1) (lB (aM ts k) c.q (AU a.width c.width))<=b+B:=by unfold lB;rw[MI az az];omega
   have pg:=Qm (a:=lB (aM ts k) c.q (AU a.width c.width)) (co:=gS 0 a.width) R.1 (by rw[U];exact b1 _ [] pa) (by rw[a9,U];exact Zw (a:=0) ay) (by rw[U];simp[gS];omega) aD;rw[<-A.is]at pg;have P:=Wd (co:=gS 0 a.width) Q A.inv aD A.lt pg.1;have b6:=dM (mT (bT (dL k c.rows (AU a.width c.width)) ts).2 (gS 0 a.width)) (bT (dL k c.rows (AU a.width c.width)) ts).1;have a4:=A.pre.trans P.pre;rw[A.is]at pg P;have R1:=vC o a B W (b+B) _ _ rs (Ge.mono a4 P.inv.ok a (L a ay)) P.inv P.lt (by rw[P.is,pg.2,a9,U,ahJ ay];simp) (J a ay) hW (by rw[P.is];unfold Hx;rw[b8X];exact bX) aD aD;rw[P.is]at R1;have R1:=R1.shift a4;have Y:=gL a (bT (mT (bT (dL k c.rows (AU a.width c.width)) ts).2 (gS 0 a.width)) (bT (dL k c.rows (AU a.width c.width)) ts).1).2 (bT (mT (bT (dL k c.rows (AU a.width c.width)) ts).2 (gS 0 a.width)) (bT (dL k c.rows (AU a.width c.width)) ts).1).1 rs;show yT cN s ts rs (fG c _ _ _) (pI (wT s) a.q (Hx (lB (aM ts k) c.q (AU (wT s a.q) (wT s c.q))) (gS 0 (wT s a.q)))++pI (wT s) c.q (Hx (aM ts k) (gS (wT s a.q) (wT s c.q))));rw[<-g5, <-k5];generalize hZ:fG a (bT (mT (bT (dL k c.rows (AU a.width c.width)) ts).2 (gS 0 a.width)) (bT (dL k c.rows (AU a.width c.width)) ts).1).2 (bT (mT (bT (dL k c.rows (AU a.width c.width)) ts).2 (gS 0 a.width)) (bT (dL k c.rows (AU a.width c.width)) ts).1).1 rs=Z at*
   have j:k<Z.1.length/\aM Z.1 k=aM ts k:=⟨ck E R1.pre.length_le,eM R1.pre R1.inv.ok k E⟩
   have a6:=Qm (a:=aM Z.1 k) (co:=gS a.width c.width) (R1.inv.good k j.1) (λe=>by
    have:=congrArg List.length e;rw[a3]at this;simp[gS]at this
    grind) (by rw[j.2,f,U,a3];exact Zw ay) (by rw[a3];simp[gS];omega) bg
   have P2:=Wd (co:=gS a.width c.width) Q R1.inv aD j.1 a6.1;have a0:=dM (mT k (gS a.width c.width)) Z.1;have y:=R1.pre.trans P2.pre;rw[j.2]at a6 P2;have R2:=vC o c B W b _ _ Z.2 (Ge.mono y P2.inv.ok c (L c ay)) P2.inv P2.lt (by rw[P2.is,a6.2,f,U,a3,Uc ay];simp) (J c ay) hW (by rw[P2.is];unfold Hx;rw[b8X];exact hb) aD aD;rw[P2.is]at R2;exact R1.comp P2.pre R2
  .obtain⟨a,c,rfl⟩:=rJ (l:=args) (by rw[I];rfl);simp only[qK]at H hl;have e1:W*(1+(jZ a+(jZ c+0)))=W+W*jZ a+W*jZ c:=bg
   obtain⟨g0,g2,S,g4,g5,g6⟩:=V a ay;obtain⟨k0,X,k3,T,k5,k6⟩:=V c ay;have f:(aJ s [] (aM ts k)).1=(aJ s [] a.q).1:=f;have b2:Good (lS (aJ s [] a.q).1 (aJ s [] c.q).1) on:=n.pair (.inr rfl);have b0:=J c ay;have a7:=eB c ay;have R:=Ds (on:=on) gD (v.good _ k0) bg bg;have A:=v7 (on:=on) (gr:=[]) (od:=[]) (li:=0) Q v aD (show arity 5=2 from rfl) E k0 R.1;have A:AP cN s ts (bT (dL k c.rows on) ts).1 (bT (dL k c.rows on) ts).2 (lB (aM ts k) c.q on):=by rw[<-k3];exact A
   have a1:=dM (dL k c.rows on) ts;rw[k3]at R;have bX:fE (cN+1) (lB (aM ts k) c.q on)<=b+B:=by unfold lB;rw[MI az az];omega
   have R1:=vC o a B W (b+B) _ _ rs (Ge.mono A.pre A.inv.ok a (L a ay)) A.inv A.lt (by rw[A.is,R.2];exact f) (J a ay) hW (by rw[A.is];exact bX) aD aD;rw[A.is]at R1;have R1:=R1.shift A.pre;have Y:=gL a (bT (dL k c.rows on) ts).2 (bT (dL k c.rows on) ts).1 rs;show yT cN s ts rs (fG c _ _ _) (pI (wT s) a.q (lB (aM ts k) c.q on)++pI (wT s) c.q (lB (gR c.q) (aM ts k) (pW on)));generalize hZ:fG a (bT (dL k c.rows on) ts).2 (bT (dL k c.rows on) ts).1 rs=Z at*
   have j:k<Z.1.length/\aM Z.1 k=aM ts k:=⟨ck E R1.pre.length_le,eM R1.pre R1.inv.ok k E⟩
   have u:c.env<Z.1.length/\aM Z.1 c.env=aM ts c.env:=⟨ck X R1.pre.length_le,eM R1.pre R1.inv.ok _ X⟩
   have M:(aJ s [] (gR c.q)).1=(aJ s [] c.q).1:=eg c ay;have z:=Ds (on:=pW on) (R1.inv.good _ u.1) (R1.inv.good k j.1) (by rw[u.2,j.2,T,M,f];exact akQ b2) bg;have P2:=v7 (on:=pW on) (gr:=[]) (od:=[]) (li:=0) Q R1.inv aD (show arity 5=2 from rfl) u.1 j.1 z.1;have P2:AP cN s Z.1 (bT (dL c.env k (pW on)) Z.1).1 (bT (dL c.env k (pW on)) Z.1).2 (lB (gR c.q) (aM ts k) (pW on)):=by rw[<-T, <-u.2, <-j.2];exact P2
   have a0:=dM (dL c.env k (pW on)) Z.1;rw[u.2,j.2,T]at z;have y:=R1.pre.trans P2.pre;have R2:=vC o c B W (b+B) _ _ Z.2 (Ge.mono y P2.inv.ok c (L c ay)) P2.inv P2.lt (by rw[P2.is,z.2];exact M) (J c ay) hW (by rw[P2.is];unfold lB;rw[MI az az];omega) aD aD;rw[P2.is]at R2;exact R1.comp P2.pre R2
  .obtain⟨a,c,rfl⟩:=rJ (l:=args) (by rw[I];rfl);simp only[qK]at H hl;have e1:W*(1+(jZ a+(jZ c+0)))=W+W*jZ a+W*jZ c:=bg
   obtain⟨g0,g2,S,g4,g5,g6⟩:=V a ay;obtain⟨k0,X,k3,T,k5,k6⟩:=V c ay;have f:(aJ s [] (aM ts k)).1=(aJ s [] a.q).1:=f;have C:(aJ s [] a.q).1=(aJ s [] c.q).1:=n.same (.inl rfl);have be:=eB a ay;have a7:=eB c ay;have M:(aJ s [] (gR a.q)).1=(aJ s [] a.q).1:=eg a ay;have F:(aJ s [] (gR c.q)).1=(aJ s [] c.q).1:=eg c ay;have R:=zD (v.good _ g2) gD bg bg;have A:=v7 (on:=[]) (gr:=[]) (od:=[]) (li:=0) Q v aD (show arity 8=2 from rfl) g2 E R.1;have A:AP cN s ts (bT (bY a.env k) ts).1 (bT (bY a.env k) ts).2 (jM (gR a.q) (aM ts k)):=by rw[<-g4];exact A
   have a1:=dM (bY a.env k) ts;rw[g4]at R;have R1:=vC o a B W (b+B) _ _ rs (Ge.mono A.pre A.inv.ok a (L a ay)) A.inv A.lt (by rw[A.is,R.2];exact M) (J a ay) hW (by rw[A.is];unfold jM;rw[MI az az];omega) aD aD;rw[A.is]at R1;have R1:=R1.shift A.pre;have Y:=gL a (bT (bY a.env k) ts).2 (bT (bY a.env k) ts).1 rs;show yT cN s ts rs (fG c _ _ _) (pI (wT s) a.q (jM (gR a.q) (aM ts k))++pI (wT s) c.q (jM (gR c.q) (aM ts k)));generalize hZ:fG a (bT (bY a.env k) ts).2 (bT (bY a.env k) ts).1 rs=Z at*
   have j:k<Z.1.length/\aM Z.1 k=aM ts k:=⟨ck E R1.pre.length_le,eM R1.pre R1.inv.ok k E⟩
   have u:c.env<Z.1.length/\aM Z.1 c.env=aM ts c.env:=⟨ck X R1.pre.length_le,eM R1.pre R1.inv.ok _ X⟩
   have z:=zD (R1.inv.good _ u.1) (R1.inv.good k j.1) bg bg;have P2:=v7 (on:=[]) (gr:=[]) (od:=[]) (li:=0) Q R1.inv aD (show arity 8=2 from rfl) u.1 j.1 z.1;have P2:AP cN s Z.1 (bT (bY c.env k) Z.1).1 (bT (bY c.env k) Z.1).2 (jM (gR c.q) (aM ts k)):=by rw[<-T, <-u.2, <-j.2];exact P2
   have a0:=dM (bY c.env k) Z.1;rw[u.2,j.2,T]at z;have y:=R1.pre.trans P2.pre;have R2:=vC o c B W (b+B) _ _ Z.2 (Ge.mono y P2.inv.ok c (L c ay)) P2.inv P2.lt (by rw[P2.is,z.2];exact F) (J c ay) hW (by rw[P2.is];unfold jM;rw[MI az az];omega) aD aD;rw[P2.is]at R2;exact R1.comp P2.pre R2
  .obtain⟨a,c,rfl⟩:=rJ (l:=args) (by rw[I];rfl);simp only[qK]at H hl;have e1:W*(1+(jZ a+(jZ c+0)))=W+W*jZ a+W*jZ c:=bg
   obtain⟨g0,g2,S,g4,g5,g6⟩:=V a ay;obtain⟨k0,X,k3,T,k5,k6⟩:=V c ay;have f:(aJ s [] (aM ts k)).1=(aJ s [] a.q).1:=f;have C:(aJ s [] a.q).1=(aJ s [] c.q).1:=n.same (.inr (.inl rfl));have ba:=J a ay;have a7:=eB c ay;have F:(aJ s [] (gR c.q)).1=(aJ s [] c.q).1:=eg c ay;have R1:=vC o a B W b k ts rs (L a ay) v E f ba hW hb aD aD;have Y:=gL a k ts rs;show yT cN s ts rs (fG c _ _ _) (pI (wT s) a.q (aM ts k)++pI (wT s) c.q (jM (jM (gR c.q) (aM ts k)) a.q));generalize hZ:fG a k ts rs=Z at*
   have j:k<Z.1.length/\aM Z.1 k=aM ts k:=⟨ck E R1.pre.length_le,eM R1.pre R1.inv.ok k E⟩
   have u:c.env<Z.1.length/\aM Z.1 c.env=aM ts c.env:=⟨ck X R1.pre.length_le,eM R1.pre R1.inv.ok _ X⟩
   have G:a.rows<Z.1.length/\aM Z.1 a.rows=aM ts a.rows:=⟨ck g0 R1.pre.length_le,eM R1.pre R1.inv.ok _ g0⟩
   have z:=zD (R1.inv.good _ u.1) (R1.inv.good k j.1) bg bg;have P2:=v7 (on:=[]) (gr:=[]) (od:=[]) (li:=0) Q R1.inv aD (show arity 8=2 from rfl) u.1 j.1 z.1;have P2:AP cN s Z.1 (bT (bY c.env k) Z.1).1 (bT (bY c.env k) Z.1).2 (jM (gR c.q) (aM ts k)):=by rw[<-T, <-u.2, <-j.2];exact P2
   have a0:=dM (bY c.env k) Z.1;rw[u.2,j.2,T]at z;have bX:fE (cN+1) (jM (gR c.q) (aM ts k))<=b+B:=by unfold jM;rw[MI az az];omega
   have D:=P2.keep G.1;have O:=zD (P2.inv.good _ P2.lt) (P2.inv.good _ D.1) (by rw[P2.is,D.2,G.2,S,z.2,F,C]) (by rw[P2.is,D.2,G.2,S];omega);have P3:=v7 (on:=[]) (gr:=[]) (od:=[]) (li:=0) Q P2.inv aD (show arity 8=2 from rfl) P2.lt D.1 O.1;have P3:AP cN s (bT (bY c.env k) Z.1).1 (bT (bY (bT (bY c.env k) Z.1).2 a.rows) (bT (bY c.env k) Z.1).1).1 (bT (bY (bT (bY c.env k) Z.1).2 a.rows) (bT (bY c.env k) Z.1).1).2 (jM (jM (gR c.q) (aM ts k)) a.q):=by rw[<-P2.is, <-S, <-G.2, <-D.2];exact P3
   have b3:=dM (bY (bT (bY c.env k) Z.1).2 a.rows) (bT (bY c.env k) Z.1).1;rw[P2.is,D.2,G.2,S]at O;have y:=(R1.pre.trans P2.pre).trans P3.pre;have R2:=vC o c B W (b+2*B) _ _ Z.2 (Ge.mono y P3.inv.ok c (L c ay)) P3.inv P3.lt (by rw[P3.is,O.2,z.2];exact F) (J c ay) hW (by rw[P3.is];unfold jM at bX⊢;rw[MI az az];omega) aD aD;rw[P3.is]at R2;exact R1.comp (P2.pre.trans P3.pre) R2
  .obtain⟨a,c,rfl⟩:=rJ (l:=args) (by rw[I];rfl);simp only[qK]at H hl;have e1:W*(1+(jZ a+(jZ c+0)))=W+W*jZ a+W*jZ c:=bg
   obtain⟨g0,g2,S,g4,g5,g6⟩:=V a ay;obtain⟨k0,X,k3,T,k5,k6⟩:=V c ay;have f:(aJ s [] (aM ts k)).1=(aJ s [] a.q).1:=f;have C:(aJ s [] a.q).1=(aJ s [] c.q).1:=n.same (.inr (.inr (.inl rfl)));have ba:=J a ay;have a7:=eB c ay;have F:(aJ s [] (gR c.q)).1=(aJ s [] c.q).1:=eg c ay;have R1:=vC o a B W b k ts rs (L a ay) v E f ba hW hb aD aD;have Y:=gL a k ts rs;show yT cN s ts rs (fG c _ _ _) (pI (wT s) a.q (aM ts k)++pI (wT s) c.q (jM (jM (gR c.q) (aM ts k)) a.q));generalize hZ:fG a k ts rs=Z at*
   have j:k<Z.1.length/\aM Z.1 k=aM ts k:=⟨ck E R1.pre.length_le,eM R1.pre R1.inv.ok k E⟩
   have u:c.env<Z.1.length/\aM Z.1 c.env=aM ts c.env:=⟨ck X R1.pre.length_le,eM R1.pre R1.inv.ok _ X⟩
   have G:a.rows<Z.1.length/\aM Z.1 a.rows=aM ts a.rows:=⟨ck g0 R1.pre.length_le,eM R1.pre R1.inv.ok _ g0⟩
   have z:=zD (R1.inv.good _ u.1) (R1.inv.good k j.1) bg bg;have P2:=v7 (on:=[]) (gr:=[]) (od:=[]) (li:=0) Q R1.inv aD (show arity 8=2 from rfl) u.1 j.1 z.1;have P2:AP cN s Z.1 (bT (bY c.env k) Z.1).1 (bT (bY c.env k) Z.1).2 (jM (gR c.q) (aM ts k)):=by rw[<-T, <-u.2, <-j.2];exact P2
   have a0:=dM (bY c.env k) Z.1;rw[u.2,j.2,T]at z;have bX:fE (cN+1) (jM (gR c.q) (aM ts k))<=b+B:=by unfold jM;rw[MI az az];omega
   have D:=P2.keep G.1;have O:=zD (P2.inv.good _ P2.lt) (P2.inv.good _ D.1) (by rw[P2.is,D.2,G.2,S,z.2,F,C]) (by rw[P2.is,D.2,G.2,S];omega);have P3:=v7 (on:=[]) (gr:=[]) (od:=[]) (li:=0) Q P2.inv aD (show arity 8=2 from rfl) P2.lt D.1 O.1;have P3:AP cN s (bT (bY c.env k) Z.1).1 (bT (bY (bT (bY c.env k) Z.1).2 a.rows) (bT (bY c.env k) Z.1).1).1 (bT (bY (bT (bY c.env k) Z.1).2 a.rows) (bT (bY c.env k) Z.1).1).2 (jM (jM (gR c.q) (aM ts k)) a.q):=by rw[<-P2.is, <-S, <-G.2, <-D.2];exact P3
   have b3:=dM (bY (bT (bY c.env k) Z.1).2 a.rows) (bT (bY c.env k) Z.1).1;rw[P2.is,D.2,G.2,S]at O;have y:=(R1.pre.trans P2.pre).trans P3.pre;have R2:=vC o c B W (b+2*B) _ _ Z.2 (Ge.mono y P3.inv.ok c (L c ay)) P3.inv P3.lt (by rw[P3.is,O.2,z.2];exact F) (J c ay) hW (by rw[P3.is];unfold jM at bX⊢;rw[MI az az];omega) aD aD;rw[P3.is]at R2;exact R1.comp (P2.pre.trans P3.pre) R2
  .obtain⟨a,c,rfl⟩:=rJ (l:=args) (by rw[I];rfl);simp only[qK]at H hl;have e1:W*(1+(jZ a+(jZ c+0)))=W+W*jZ a+W*jZ c:=bg
   have f:(aJ s [] (aM ts k)).1=(aJ s [] a.q).1:=f;have C:(aJ s [] a.q).1=(aJ s [] c.q).1:=n.same (.inr (.inr (.inr rfl)));have a2:lH (aJ s [] a.q).1 gr od li:=n.rank (.inr rfl);rw[C]at a2;have R1:=vC o a B W b k ts rs (L a ay) v E f (J a ay) hW hb aD aD;have Y:=gL a k ts rs;show yT cN s ts rs (fG c _ _ _) (pI (wT s) a.q (aM ts k)++pI (wT s) c.q (Fe (lB (gR c.q) (aM ts k) (tA gr)) c.q gr od li));generalize hZ:fG a k ts rs=Z at*
   have j:k<Z.1.length/\aM Z.1 k=aM ts k:=⟨ck E R1.pre.length_le,eM R1.pre R1.inv.ok k E⟩
   have P:=ZC (gr:=gr) (od:=od) (li:=li) (B:=B) (b:=b) Q R1.inv aD j.1 (Ge.mono R1.pre R1.inv.ok c (L c ay)) bg a2 (J c ay) bg aD;rw[j.2]at P;have a0:=BL c k gr od li Z.1;have y:=R1.pre.trans P.1.pre;have R2:=vC o c B W (b+2*B) _ _ Z.2 (Ge.mono y P.1.inv.ok c (L c ay)) P.1.inv P.1.lt (by rw[P.1.is];exact P.2.1) (J c ay) hW (by rw[P.1.is];exact P.2.2) aD aD;rw[P.1.is]at R2;exact R1.comp P.1.pre R2
 termination_by p=>SizeOf.sizeOf p
def bSQ:Vc.Spec:=λd m h K=>∃(s:Sl)(g:Nat)(c:cn)(l:ct)(p:cw->Bool),d=[cS s,.val (.func (.func g) #[] ⟨c⟩)]/\Rows h s l/\l.length<=8000000/\(∀(u:Sl)(r:cw),r∈l->cF h u r->FAt Tryz.prog g 4 (cS u::c.map .val) m h (λx m' h'=>x=[.bool (p r)]/\m'=m/\h'=h))/\
 ∀e h',PH.le h h'->Rows h' e (l.filter p)->K (cS e) m h'
def bSJ:Vc.Spec:=λc m h K=>∃s u l r,c=[cS s,cS u,.val (.func (.func 102) #[] #[])]/\Rows h s l/\oR l/\cF h u r/\l.length<=8000000/\K (.tup [cI ((l.countP λy=>decide (fQ y r<0):Nat):Int),cB (TR l r)]) m h
def boQ:Vc.Spec:=λc m h K=>∃s u l r,c=[cS s,cS u]/\Rows h s l/\oR l/\cF h u r/\l.length<=8000000/\K (cB (TR l r)) m h
def Ss:Vc.Spec:=λc m h K=>∃s l,c=[cS s]/\Rows h s l/\l.length<=8000000/\(∀r∈l,r.length<=1000)/\∀d h',PH.le h h'->Rows h' d l->K (cS d) m h'
def pG(r:cw):ByteArray:=⟨(r.flatMap yH).toArray⟩
def Sr:Vc.Spec:=λd m h K=>∃s t r c,d=[cS s,cS t]/\cF h s r/\Ints h t c/\TL r/\jP r.length c/\fU m/\K (V1 (pG (pick r c))) m h
def aeZ:Vc.Spec:=λc m h K=>∃n:Nat,c=[.val (.slice none 0 0),cI n]/\n<=32000000/\K (.lst 94 1 []) m h
def Su:Vc.Spec:=λc m h K=>∃f d e,c=[cS f]/\Leaves h f [d,e]/\d.length<=8000000/\e.length<=8000000/\∀g h',PH.le h h'->Rows h' g (d++e)->K (cS g) m h'
noncomputable def bbQ(s:Sl)(g:Nat)(c:cn)(m:MH)(h:PH):Ctx:=
 tR [] [(3,{A:=Nat×da,st:=λ⟨i,d⟩=>bQ 23 25 [(1,vv (.func (.func g) #[] ⟨c⟩)),(5,.at (.lst 20)),(8,sv s),(9,iv s.len),(10,iv i)] [(20,.lst 94 1 (d.map eS))] m h})] [] [] [510004] [] false
noncomputable def a0Q(s u:Sl)(m:MH)(h:PH):Ctx:=
 dD [(102,MG)] [(3,{A:=Nat×Nat,st:=λ⟨i,j⟩=>bQ 49 52 [(0,sv s),(1,sv u),(2,vv (.func (.func 102) #[] #[])),(8,iv s.len),(9,iv i),(10,iv j)] [] m h})] [] [] false
noncomputable def bzX(s:Sl)(m:MH):Ctx:=
 dD [(78,TO)] [(3,{A:=Nat×da×PH,st:=λ⟨i,c,h⟩=>bQ 23 24 [(3,.at (.lst 8)),(9,sv s),(10,iv s.len),(11,iv i)] [(8,.lst 94 1 (c.map eS))] m h})] [] [] false
noncomputable def baQ(s t:Sl)(m:MH)(h:PH):Ctx:=
 tR [(192,bWQ)] [(3,{A:=Nat×di,st:=λ⟨i,l⟩=>bQ 23 25 [(0,sv s),(5,.at (.lst 19)),(8,sv t),(9,iv t.len),(10,iv i)] [(19,.lst 5 1 (bA l))] m h})] [] [] [] [(192,[0])] false
noncomputable def a9J(c:Sl)(m:MH)(h:PH):Ctx:=
 dD [(193,aeZ)] [(3,{A:=Nat×Nat,st:=λ⟨i,n⟩=>bQ 36 37 [(0,sv c),(3,iv n),(9,sv c),(10,iv c.len),(11,iv i)] [] m h}),
  (11,{A:=Nat×da,st:=λ⟨i,l⟩=>bQ 36 37 [(6,.at (.lst 24)),(25,sv c),(26,iv c.len),(27,iv i)] [(24,.lst 94 1 (l.map eS))] m h})] [] [] false
noncomputable abbrev sS(a:Nat×da):List cn:=nB a.2
attribute [push_cast] sS
def RY(s:Sl)(g:Nat)(c:cn)(m:MH)(h:PH)(K:cr):Prop:=
  ∃(I:Nat×da->Prop)(n:Nat×da->Nat),(∃(x:Nat×da),aA (I x) (eQ (EO g (Array.mk c))) (aA (eL 20) (aI s) (aA (bJ s) (bB x.1) (aA (Eb (sS x)) (m=m) (bL h h)))))/\∀(x:Nat×da),I x->aX (↑x.1:Int) (aH s) (eA s.a (↑x.1:Int) s (λb o y=>aU m h b (bN o x.1 1) (aY y)/\∃(R:Bool->MH->PH->Prop),BD g 4 (dJ y (List.map CV.val c)) m h (λl e f=>∃(j:Bool),l=uO j/\R j e f)/\∀(j:Bool),iB (λe f=>gQ (R j e f) j (mV (sS x) 24 (∃(d:Nat×da),aA (I d) (n d<n x) (aA (eQ (EO g (Array.mk c))) (eL 20) (aA (aI s) (bJ s) (aA (bD (gG (bF x.1 1)) d.1) (Option.some (Own.lst 94 1 (fK (sS x) (aY y)))=Option.some (Own.lst 94 1 (sS d))) (bP (e=m) f h)))))) (∃(d
 :Nat×da),aA (I d) (n d<n x) (aA (eQ (EO g (Array.mk c))) (eL 20) (aA (aI s) (bJ s) (aA (bD (gG (bF x.1 1)) d.1) (vQ (sS x) (sS d)) (bP (e=m) f h)))))))) (vP h (sS x) K m)
noncomputable abbrev IU(a:Nat×Nat):Int:=fI (Int.fdiv (Od (bF a.1 (↑a.2:Int))) 2)
attribute [push_cast] IU
def Rj(s u:Sl)(m:MH)(h:PH)(K:cr):Prop:=
  JA (λI x=>aA (I x) (aI s) (aA (aI u) (z8 102) (aA (bJ s) (bB x.1) (aA (bD (Hs s.len) x.2) (m=m) (bL h h))))) (λI f x=>I x->aX (↑x.1:Int) (↑x.2:Int) (eA s.a (IU x) s (λb o y=>aU m h b (fT o (IU x) 1) (aY y)/\∃(d:Sl),qO (λt a=>∃(e:cw),aA (cV y u=cV d t) (cF h d a) (cF h t e/\aX (fQ a e) 0 (∃(c:Nat×Nat),aA (I c) (f c<f x) (aA (aI s) (aI u) (aA (z8 102) (bJ s) (aA (bD (SV.at (At.val (eN (fI (IU x+1))))) c.1) (cO x.2 c.2) (bP (m=m) h h))))) (∃(c:Nat×Nat),aA (I c) (f c<f x) (aA (aI s) (aI u) (aA (z8 102) (bJ s) (aA (cO x.1 c.1) (bD (SV.at (At.val (eN (IU x)))) c.2) (bP (m=m) h h))))))))) (aX (↑x.1:Int) (aH s) (eA s.a (↑x.1:
 Int) s (λb o y=>aU m h b (bN o x.1 1) (aY y)/\∃(d:Sl),qO (λt a=>∃(e:cw),aA (cV y u=cV d t) (cF h d a) (cF h t e/\K (CV.tup (gZ (eV (↑x.1:Int)) (AQ (fQ a e==0)))) m h)))) (K (CV.tup (gZ (eV (↑x.1:Int)) aZ)) m h)))
abbrev JO(a:Sl->Sl->ct->cw->Prop):Prop:=nA (λx c=>∃(d:ct)(e:cw),a x c d e)
attribute [push_cast] JO
def azQ(s u:Sl)(m:MH)(h:PH)(K:cr):Prop:=
  JO (λc d l r=>aA (Bq s u 102=Bq c d 102) (Rows h c l) (aA (oR l) (cF h d r) (l.length<=8000000/\K (AQ (TR l r)) m h)))
def Vf(s:Sl)(m:MH)(h:PH)(K:cr):Prop:=
  aA (bV (aH s)) (Ah s) (aA (uI s 24) (vB (aH s)) (Nd (λI x=>aA (I x) (eL 8) (aA (aI s) (bJ s) (aA (bB x.1) (CL 94 s iV (qE x)) (aA (m=m) (h=mJ x) True)))) (λI f x=>I x->aX (↑x.1:Int) (aH s) (eA s.a (↑x.1:Int) s (λb o y=>aU m (mJ x) b (bN o x.1 1) (aY y)/\qO (λg r=>aA (fP (Dj y) (Dj g)) (cF (mJ x) g r) (lY r.length/\jJ (λj d=>cZ (mJ x) d (cF d j r) (rW (↑x.1:Int) ((↑x.1:Int)<iZ (qE x)) (λe=>aA (mI (qE x) (↑x.1:Int) e) (0<e.length) (∃(c:Nat×da×PH),aA (I c) (f c<f x) (aA (eL 8) (aI s) (aA (bJ s) (bD (gG (bF x.1 1)) c.1) (aA (Option.some (Own.lst 94 1 (List.set (qE x) (↑x.1:Int).toNat (kW (hJ j) 1 e)))=Option.some (Own.lst 94 1
 (qE c))) (m=m) (bL d (mJ c))))))))))))) (vP (mJ x) (qE x) K m))))
def RW(s t:Sl)(m:MH)(h:PH)(K:cr):Prop:=
  ∃(I:Nat×di->Prop)(e:Nat×di->Nat),(∃(x:Nat×di),aA (I x) (aI s) (aA (eL 19) (aI t) (aA (bJ t) (bB x.1) (aA (qG 5 1 (bA x.2)) (m=m) (bL h h)))))/\∀(x:Nat×di),I x->aX (↑x.1:Int) (aH t) (bI (λb o=>aA (bK t.a b o) (0<=(↑x.1:Int)) ((↑x.1:Int)<aH t/\∃(y:Int),aU m h b (bN o x.1 1) (bG y)/\bI (λf g=>aA (bK s.a f g) (0<=y) (y<aH s/\∃(j:VV),aU m h f (fT g y 3) j.enc/\∃(d:List cn)(v:VV),aA (uC (bA x.2) j.enc=uC d v.enc) (fU m) (iM (qR d v.text.size+500)/\∃(c:Nat×di),aA (I c) (e c<e x) (aA (aI s) (eL 19) (aA (aI t) (bJ t) (aA (bD (gG (bF x.1 1)) c.1) (Option.some (Own.lst 5 1 (jX d (yH v)))=Option.some
 (Own.lst 5 1 (bA c.2))) (bP (m=m) h h)))))))))) (∃(b:di),bA x.2=bA b/\K (kE (ByteArray.mk (Array.mk b))) m h)
def Rk(n:Nat)(m:MH)(h:PH)(K:cr):Prop:=
  Nf n 0 24 iV (K (CV.lst 94 1 []) m h)
def RV(d:Sl)(m:MH)(h:PH)(K:cr):Prop:=
  JA (λI x=>aA (I x) (aI d) (aA (bB x.2) (aI d) (aA (bJ d) (bB x.1) (aA (m=m) (h=h) True)))) (λI g x=>I x->aX (↑x.1:Int) (aH d) (eA d.a (↑x.1:Int) d (λb o y=>aU m h b (bN o x.1 1) (aY y)/\aX (bF x.2 (aH y)) 0 False (∃(c:Nat×Nat),aA (I c) (g c<g x) (aA (aI d) (bD (gG (bF x.2 (aH y))) c.2) (aA (aI d) (bJ d) (aA (bD (gG (bF x.1 1)) c.1) (m=m) (bL h h))))))) (∃(n:Nat),aA (Eu x.2=Eu n) (n<=32000000) (∃(I1:Nat×da->Prop)(j:Nat×da->Nat),(∃(c:Nat×da),aA (I1 c) (eL 24) (aA (aI d) (bJ d) (aA (bB c.1) (Eb (sS c)) (aA (m=m) (h=h) True))))/\∀(c:Nat×da),I1 c->aX (↑c.1:Int) (aH d) (eA d.a (↑c.1:Int) d (λb o y=>HY m h b o
 c.1 1 (aY y) (λe=>jI 1 e (cC h (gJ y) 1 e) (nU (sS c) e 24) (nP (sS c) e) (∃(f:Nat×da),aA (I1 f) (j f<j c) (aA (eL 24) (aI d) (aA (bJ d) (bD (gG (bF c.1 1)) f.1) (aA (vQ (sS c++e) (sS f)) (m=m) (bL h h)))))))) (vP h (sS c) K m))))
theorem VZ{u v:VV}{r r':di}(e:VOk u)(f:VOk v)(h:yH u++r=yH v++r'):u=v/\r=r':=by
 have z:rN 0:=⟨az,az⟩
 have c:∀w:VV,VOk w->Wl ⟨0,0,w⟩:=λw d=>⟨z,z,d.kind,d.int,by have:=d.text;omega⟩
 have:=HS (o:=⟨0,0,u⟩) (o':=⟨0,0,v⟩) (r:=r) (r':=r') (c u e) (c v f) (by simp only[Cf,append_assoc,h])
 grind
theorem UL:∀{a b:cw},a.length=b.length->(∀v∈a,VOk v)->(∀v∈b,VOk v)->a.flatMap yH=b.flatMap yH->a=b
 |[],[],_,_,_,_=>rfl
 |x::a,y::b,c,e,f,h=>by
  simp only[flatMap_cons]at h;obtain⟨g,j⟩:=VZ (e x (mem_cons_self ..)) (f y (mem_cons_self ..)) h;rw[g,UL bg (λv d=>e v (mem_cons_of_mem _ d)) (λv d=>f v (mem_cons_of_mem _ d)) j]
 |[],_::_,c,_,_,_=>by simp at c
 |_::_,[],c,_,_,_=>by simp at c
theorem JW:aFQ pG:=⟨fun{a b} c d e=>⟨λh=>by
 simp only[pG,ByteArray.mk.injEq]at h;exact UL c d e bg,λh=>by rw[h]⟩⟩
theorem aSX{P:Program}{f:FuncId}{T:TypeId}{c:dk}{R R':cn->MH->PH->Prop}(x:FAt P f T c m h R)(d:∀l m' h',R l m' h'->R' l m' h'):FAt P f T c m h R':=
 ⟨x.fn,λg w e j=>(x.go g w e j).mono λ_ _⟨l,m',h',n,o,u⟩=>⟨l,m',h',n,d _ _ _ o,u⟩⟩
theorem YQ:cm 112 bSQ:=by
 refine iH func112 ?_;rintro E m h K ⟨s,g,c,l,p,rfl,B,P,F,G⟩;refine⟨bbQ s g c m h,rfl,aG,RY s g c m h K,ax,?_⟩;dsimp only[RY,push_cast];have n:=bZ.slen B;refine⟨λx=>x.1<=l.length/\x.2.length<=x.1/\jC h x.2 ((l.take x.1).filter p),λx=>l.length-x.1,⟨(0,[]),⟨ay,ay,bk (jC.nil h)⟩,MT⟩,?_⟩;rintro⟨i,C⟩ ⟨H,y,d⟩;dsimp only at H y d;refine aF (λf=>?_) (λz=>?_)
 .dsimp only at f⊢
  obtain⟨r,j⟩:=eU n f;obtain⟨b,o,u,I,rd,D⟩:=bZ.at B j;refine⟨b,o,I,aD,aD,u,.imm rd,λt m' h'=>t=p r/\m'=m/\h'=h,aSX (F u r (br j) D) (λx m' h'⟨J,L,M⟩=>⟨p r,J,rfl,L,M⟩),?_⟩;rintro t m' h' ⟨rfl,rfl,rfl⟩;refine aC (λe=>⟨bg,bg,(i+1,C++[u]),⟨aD,bf,?_⟩,aD,?_⟩) (λe=>⟨(i+1,C),⟨aD,bg,?_⟩,aD,?_⟩)
  .rw[AF _ j,if_pos e];exact d.snoc D
  .rw[kR aD,bw];exact MT
  .rw[AF _ j,if_neg (by rw[e];simp),append_nil];exact d
  .rw[kR aD];exact MT
 .dsimp only at z⊢
  rw[bu aD]at d;intro O h' le A;exact G O h' le ((d.mono le).rows A bg)
theorem Y1{l:ct}{r:cw}(f:oR l)(g:i<=l.length)(n:∀j y,j<i->l[j]? =some y->fQ y r<0)(o:∀j y,i<=j->l[j]? =some y->¬fQ y r<0):(l.countP λy=>decide (fQ y r<0))=i:=by
 have e:l.countP (λy=>decide (fQ y r<0))=(l.take i).countP (λy=>decide (fQ y r<0))+(l.drop i).countP λy=>decide (fQ y r<0):=by
  rw[<-countP_append,take_append_drop]
 have u:(l.take i).countP (λy=>decide (fQ y r<0))=(l.take i).length:=countP_eq_length.2 λy c=>by
  obtain⟨j,d⟩:=getElem?_of_mem c
  grind
 have x:(l.drop i).countP (λy=>decide (fQ y r<0))=0:=countP_eq_zero.2 λy c=>by
  obtain⟨j,d⟩:=getElem?_of_mem c
  grind
 grind
theorem Kz{l:ct}(d:oR l){j:Nat}{x y:cw}(c:i<j)(e:l[i]? =some x)(f:l[j]? =some y):fQ x y<0:=by
 obtain⟨g,rfl⟩:=List.getElem?_eq_some_iff.1 e;obtain⟨n,rfl⟩:=List.getElem?_eq_some_iff.1 f;exact pairwise_iff_getElem.1 d i j g n c
theorem aRQ{j:Nat}(h:i+j<=32000000):IntKind.i64.wrap ((IntKind.u64.wrap (IntKind.i64.wrap ((i:Int)+(j:Int)))).fdiv 2)=(((i+j)/2:Nat):Int):=by
 rw[dY (n:=(i:Int)+j) aD aD,P6 aD aD,Int.fdiv_eq_ediv_of_nonneg _ aD];have:((i:Int)+j)/2=(((i+j)/2:Nat):Int):=by omega
 rw[this,dY aD aD]
theorem XW:cm 194 bSJ:=by
 refine iH func194 ?_;rintro X m h K ⟨s,u,l,r,rfl,E,d,U,Z,B⟩;refine⟨a0Q s u m h,rfl,aE B8 aG,Rj s u m h K,ax,?_⟩;dsimp only[Rj,push_cast];have Y:=bZ.slen E;refine⟨λx=>x.1<=x.2/\x.2<=l.length/\(∀j y,j<x.1->l[j]? =some y->fQ y r<0)/\∀j y,x.2<=j->l[j]? =some y->¬fQ y r<0,λx=>x.2-x.1,⟨(0,l.length),⟨ay,ay,λj y C=>by omega,λj y C D=>bg⟩,?_⟩,?_⟩
 .grind
 rintro⟨i,j⟩ ⟨F,C,f,g⟩;dsimp only at F C f g;refine aF (λn=>?_) (λG=>?_)
 .dsimp only at n⊢
  have n:i<j:=by omega
  rw[aRQ aD];have H:i<=(i+j)/2:=by omega
  have I:(i+j)/2<j:=by omega
  generalize (i+j)/2=k at H I;have c:l[k]? =some (l[k]'(by omega)):=bo _;generalize l[k]'(by omega)=x at c;obtain⟨b,o,e,J,rd,L⟩:=bZ.at E c;refine⟨b,o,J,aD,aD,e,.imm rd,e,u,x,r,rfl,L,U,aF (λM=>⟨(k+1,j),⟨aD,C,λO y P D=>?_,g⟩,aD,?_⟩) (λM=>⟨(i,k),⟨aD,aD,f,λO y P D V=>?_⟩,aD,?_⟩)⟩
  .by_cases Q:O=k
   .grind
   .exact Ty (Kz d aD D c) M
  .rw[kR aD];exact MT
  .by_cases Q:O=k
   .grind
   .exact M (Ty (Kz d aD c D) V)
  .exact MT
 .dsimp only at G⊢
  have:i=j:=by omega
  subst this;rw[Y1 d C f g]at B
  have z:(∀y,l[i]? =some y->fQ y r≠0)->TR l r=false:=λV=>by
   rw[Bool.eq_false_iff];intro R;obtain⟨j,S⟩:=getElem?_of_mem (ZI.1 R);have hz:fQ r r=0:=mR.2 rfl;rcases Nat.lt_trichotomy j i with T|T|T
   .grind
   .grind
   .have A:i<l.length:=bg
    have c:l[i]? =some l[i]:=bo A;have h3:=Kz d T c S
    grind
  refine aF (λn=>?_) (λW=>?_)
  .have A:i<l.length:=by omega
   have c:l[i]? =some l[i]:=bo A;generalize l[i]=x at c;obtain⟨b,o,e,J,rd,L⟩:=bZ.at E c;refine⟨b,o,J,aD,aD,e,.imm rd,e,u,x,r,rfl,L,U,?_⟩
   have:TR l r=(fQ x r==0):=by
    cases e2:fQ x r==0 with
    |true=>
     have:=mR.1 (by grind:fQ x r=0);subst this;exact ZI.2 (br c)
    |false=>grind
   rw[this]at B;exact B
  .rw[z λy D=>by grind]at B;exact B
theorem O9:cm 122 boQ:=by
 refine iH func122 ?_;rintro d m h K ⟨s,u,l,r,rfl,e,c,f,g,j⟩;refine⟨dD [(194,bSJ)] [] [] [] false,rfl,aE XW aG,azQ s u m h K,ax,?_⟩;exact⟨s,u,l,r,rfl,e,c,f,g,j⟩
theorem asZ:cm 69 Ss:=by
 refine iH func69 ?_;rintro E m h K ⟨s,l,rfl,C,L,F,G⟩;refine⟨bzX s m,rfl,aE QK aG,Vf s m h K,ax,?_⟩;dsimp only[Vf,push_cast];have z:=bZ.slen C;refine⟨aD,aD,aD,aD,λx=>x.1<=l.length/\PH.le h x.2.2/\∃j,j.length=x.1/\x.2.1=j++replicate (l.length-x.1) ⟨none,0,0⟩/\jC x.2.2 j (l.take x.1),λx=>l.length-x.1,⟨(0,replicate l.length ⟨none,0,0⟩,h),⟨ay,.refl _,[],rfl,ay,bk (jC.nil h)⟩,?_⟩,?_⟩
 .dsimp only;rw[map_replicate,show((s.len:Int)).toNat=l.length by omega];exact MT
 rintro⟨i,M,O⟩ ⟨H,le,j,f,D,g⟩;dsimp only at H le f D g;subst D;refine aF (λy=>?_) (λA=>?_)
 .dsimp only at y⊢
  obtain⟨r,c⟩:=eU z y;obtain⟨b,o,u,I,rd,J⟩:=bZ.at C c;refine⟨b,o,I,aD,aD,u,.imm (rd.mono le),u,r,rfl,cF.mono J le,F r (br c),λn h' d B=>⟨aD,bg,[lI],?_,ay,(i+1,(j++[n])++replicate (l.length-(i+1)) ⟨none,0,0⟩,h'),⟨aD,le.trans d,j++[n],by simp[f],rfl,?_⟩,aD,?_⟩⟩
  .rw[getElem?_map,Int.toNat_natCast,getElem?_append_right aD,getElem?_replicate,if_pos aD];rfl
  .dsimp only;rw[cd,c];exact(g.mono d).snoc B
  .dsimp only
   have e:((j++replicate (l.length-i) (⟨none,0,0⟩:Sl)).map eS).set ((i:Int)).toNat (hJ n::List.drop 1 [lI])=((j++[n])++replicate (l.length-(i+1)) (⟨none,0,0⟩:Sl)).map eS:=by
    rw[Int.toNat_natCast,show l.length-i=(l.length-(i+1))+1 by omega,replicate_succ,bw,set_append,if_neg (by simp[f]),bw,bw,append_assoc];simp[f,eS]
   rw[e,kR aD];exact MT
 .dsimp only at A⊢
  have:i=l.length:=by omega
  subst this;rw[Nat.sub_self,replicate_zero,append_nil];rw[take_length]at g;intro n h' d c;exact G n h' (le.trans d) ((g.mono d).rows c aD)
theorem aCJ{v:VV}(h:v.text.size<=64):(yH v).length<=200:=by
 have c:=fY [v.kind];have e:=zB v.int;have d:=fY [(v.text.size:Int)];have f:v.text.data.toList.length=v.text.size:=Array.length_toList;simp only[yH,bt,ci,length_nil]at c d⊢
 omega
theorem anQ{r:cw}(h:∀v∈r,v.text.size<=64):(r.flatMap yH).length<=200*r.length:=by
 induction r with
 |nil=>simp
 |cons v l c=>
  have d:=aCJ (h v (mem_cons_self ..))
  grind
theorem B7:cm 118 Sr:=by
 refine iH func118 ?_;rintro H m h K ⟨s,t,r,d,rfl,D,E,I,y,J,L⟩;refine⟨baQ s t m h,rfl,aE XY aG,RW s t m h K,ax,?_⟩;dsimp only[RW,push_cast];have M:=bZ.slen D;have z:=E.slen;have O:=y.len;have P:(pick r d).length=d.length:=by simp[pick]
 have g:∀v∈pick r d,v.text.size<=64:=λv Q=>(I.val v (Uu y Q)).text;refine⟨λx=>x.1<=d.length/\x.2=((pick r d).take x.1).flatMap yH,λx=>d.length-x.1,⟨(0,[]),⟨ay,ay⟩,MT⟩,?_⟩;rintro⟨i,l⟩ ⟨R,F⟩;dsimp only at R F;subst F;refine aF (λf=>?_) (λA=>?_)
 .dsimp only at f;obtain⟨c,j⟩:=eU z f;obtain⟨b,o,e,rd⟩:=E.at j;obtain⟨v,B,n,S,X⟩:=SS y j;obtain⟨T,U,w,V,C,rfl⟩:=bZ.at D B;have Y:=anQ (r:=(pick r d).take i) (λu W=>g u (mem_of_mem_take W));have G:=g v (br n);refine⟨b,o,e,aD,f,c,.imm bg,T,U,V,S,aD,v,.imm C,_,v,rfl,J,?_,(i+1,((pick r d).take (i+1)).flatMap yH),⟨aD,rfl⟩,bg,?_⟩
  .rw[aW]
   grind
  .dsimp only;rw[cd,n,flatMap_append,dK];simp only[Option.toList_some,flatMap_cons,flatMap_nil,append_nil];exact MT
 .dsimp only at A⊢
  rw[bu aD];exact⟨_,rfl,L⟩
theorem XX:cm 193 aeZ:=by
 refine iH func193 ?_;rintro d m h K ⟨n,rfl,f,c⟩;refine⟨dD [] [] [] [] true,rfl,aG,Rk n m h K,ax,?_⟩;dsimp only[Rk,push_cast];have e:IntKind.i64.wrap ((n:Int)-0)=n:=by rw[dY aD aD];omega
 have g:IntKind.i64.wrap ((n:Int)-IntKind.i64.wrap (0-0))=n:=by rw[show IntKind.i64.wrap (0-0)=0 from by rw[dY aD aD];rfl,e]
 exact aF (λj=>⟨aD,aD,aD,aD,aD,aD,aD,c⟩) (λ_=>c)
theorem YK:cm 120 Su:=by
 refine iH func120 ?_;rintro V m h K ⟨z,R,S,rfl,G,h1,h2,W⟩;refine⟨a9J z m h,rfl,aE XX aG,RV z m h K,ax,?_⟩;dsimp only[RV,push_cast];have X:z.len=2:=bZ.slen G
 have g:∀k∈[R,S],k.length<=8000000:=λk e=>by
  grind
 generalize A:[R,S]=ks at G g;have H:ks.length=2:=bg
 have f:∀i,i<=2->((ks.take i).map List.length).sum<=16000000:=λi j=>by
  rw[<-A]
  match i,j with
  |0,_=>simp
  |1,_=>simp;omega
  |2,_=>simp;omega
 refine⟨λx=>x.1<=2/\x.2=((ks.take x.1).map List.length).sum,λx=>2-x.1,⟨(0,0),⟨ay,ay⟩,MT⟩,?_⟩;rintro⟨i,n⟩ ⟨j,T⟩;dsimp only at j T⊢
 subst T;have Y:=f i j;refine aF (λd=>?_) (λB=>?_)
 .obtain⟨k,e⟩:=eU (l:=ks) (n:=z.len) aD d;obtain⟨b,o,y,I,r,u⟩:=bZ.at G e;have H:=bZ.slen u;have C:=g k (br e)
  have Z:IntKind.i64.wrap (((((ks.take i).map List.length).sum:Nat):Int)+(y.len:Int))=((((ks.take (i+1)).map List.length).sum:Nat):Int):=by
   rw[Bd e,dY aD aD];omega
  refine⟨b,o,I,aD,d,y,.imm r,?_⟩;rw[Z];exact aF (λU=>by omega) (λ_=>⟨(i+1,((ks.take (i+1)).map List.length).sum),⟨aD,rfl⟩,aD,by rw[kR aD];exact MT⟩)
 .refine⟨((ks.take i).map List.length).sum,rfl,aD,λx=>x.1<=2/\x.2.length<=16000000/\jC h x.2 (ks.take x.1).flatten,λx=>2-x.1,⟨(0,[]),⟨ay,ay,bk (jC.nil h)⟩,MT⟩,?_⟩;clear Y B j;rintro⟨i,us⟩ ⟨j,J,c⟩;dsimp only at j J c⊢
  have L:=c.len;rw[length_flatten]at L;refine aF (λd=>?_) (λB y h' D E=>W y h' D ?_)
  .obtain⟨k,e⟩:=eU (l:=ks) (n:=z.len) aD d;obtain⟨b,o,y,I,r,u⟩:=bZ.at G e;obtain⟨⟨F,M,O,P⟩,_⟩:=u;have C:=g k (br e);have Q:=f (i+1) aD;rw[Bd e]at Q;refine⟨b,o,I,aD,d,y,.imm r,F.map eS,IF _,M,bf,bf,(i+1,us++F),⟨aD,bf,?_⟩,aD,?_⟩
   .dsimp only;rw[cd,e,flatten_append];simp only[Option.toList_some,flatten_cons,flatten_nil,append_nil];exact c.app ⟨O.symm,P⟩
   .rw[kR aD,bw];exact MT
  .rw[bu aD, <-A]at c;simp only[flatten_cons,flatten_nil,append_nil]at c;exact(c.mono D).rows E bf
def PC:Vc.Spec:=λc m h K=>∃s t d v od a b,c=[cS s,cS t,cP d]/\m d=some (.cells ⟨vE.enc v⟩ 123 (0,0))/\jO h v.order od/\cF h s a/\cF h t b/\K (cI (mA od a b)) m h
def aaX:Vc.Spec:=λd m h K=>∃(s:Sl)(e:Nat)(v:vE)(od:cv)(w:Nat)(ps:dq),d=[cS s,.val (.func (.func 195) #[] #[.pointer (some ⟨e,0,none⟩)])]/\m e=some (.cells ⟨vE.enc v⟩ 123 (0,0))/\(∀i,s.a≠some ⟨e,i,none⟩)/\jO h v.order od/\dE m s 94 1 (ps.map λp=>eS p.1)/\(∀p∈ps,cF h p.1 p.2)/\(∀p∈ps,p.2.length=w)/\ps.length<=140737488355328/\
 ∀(c:dq)(m':MH),c.Perm ps->c.Pairwise (λp q=>¬mA od q.2 p.2<0)->dE m' s 94 1 (c.map λp=>eS p.1)->(∀b,(∀i,s.a≠some ⟨b,i,none⟩)->m' b=m b)->K (.tup []) m' h
def Wo:Vc.Spec:=λc m h K=>∃v s gr od l w,c=[aT v,cS s]/\Ints h v.group gr/\jO h v.order od/\Rows h s l/\iJ w l/\jP w gr/\fU m/\
 ∀y d e f g,m y=none->(∀b,b≠y->d b=m b)->PH.le h e->wJ pG d e y gr od l f g->K (.val (.map (some y))) d e
noncomputable def a9Z(s:Sl):Ctx:=tR [(118,Sr),(189,aaX)] [(3,{A:=Nat×Nat×Nat×MH×PH,st:=λ⟨b,y,i,m,h⟩=>bQ 41 43 [(2,pv b),(5,vv (.map (some y))),(12,sv s),(13,iv s.len),(14,iv i)] [] m h}),
 (9,{A:=Nat×Nat×Nat×MH×PH,st:=λ⟨b,y,r,m,h⟩=>bQ 41 43 [(2,pv b),(5,vv (.map (some y))),(32,pv r)] [] m h})] [] [] [200002,1053,400000,0] [] false
def axJ(s t:Sl)(f:Nat)(m:MH)(h:PH)(K:cr):Prop:=
  xO m h f 18 (λy=>nA (λo c=>SZ (λd e=>∃(a b:cw),aA (dJ y (cV s t)=dJ o (cV c d)) (jO h o e) (aA (cF h c a) (cF h d b) (K (eV (mA e a b)) m h)))))
abbrev S4(a:Prop)(b:(Nat×Nat×Nat×MH×PH)->Prop):Prop:=a/\∀(x:Nat×Nat×Nat×MH×PH),b x
noncomputable abbrev jH(a:Nat×Nat×Nat×MH×PH):Nat:=a.2.1
noncomputable abbrev kM(a:Nat×Nat×Nat×MH×PH):Nat:=a.2.2.1
noncomputable abbrev oH(a:Nat×Nat×Nat×MH×PH):MH×PH:=a.2.2.2
noncomputable abbrev iT(a:Nat×Nat×Nat×MH×PH):Nat->Nat->Option Value:=a.2.2.2.2
noncomputable abbrev nH(a:Nat×Nat×Nat×MH×PH):Nat->Option Obj:=a.2.2.2.1
abbrev Dd(a:Sl->cw->cq->Prop):Prop:=qO (λx c=>∃(d:cq),a x c d)
noncomputable abbrev iW(a:cw)(b:cq):Value:=Value.string (pG (pick a b))
abbrev GA(a b:Prop)(c:MH)(d:Nat)(e:cw)(g:cq)(i:dy->Prop)(j:dy->Sl->Prop):Prop:=aA a b (∃(x:dy)(n:Value->Prop),aA (wS c d (List.map (fun(f:Value×Sl)=>(f.1,hJ f.2)) x)) (EM n) (aA (n (iW e g)) (∀(f:Value×Sl),List.Mem f x->n f.1) (i x/\∀(f:Sl),j x f)))
abbrev Ap(a:cw)(b:cq):Prop:=jP a.length b
noncomputable abbrev oC:Sl:=Sl.mk Option.none 0 0
abbrev GB(a:Nat->Option Obj)(b:Nat)(c:cw)(d:cq)(e:db->Prop)(g:db->db->Value->db->Prop):Prop:=WZ (λx j=>aA (wV a b x) (EM j) (aA (j (iW c d)) (gI (Instr.sameBits 10000 (iW c d) (iW c d))) (aA (∀(f:Value×Value),List.Mem f x->j f.1) ((∀(f:Value×Value),List.Mem f x->f.1=iW c d->False)->e x) (∀(f:db)(n:Value)(o:db),g x f n o))))
abbrev Jb(a:MH)(b:Nat×Nat×Nat×MH×PH)(c:MH->Prop)(d:MH->(Nat×Nat×Nat×MH×PH)->Prop):Prop:=∀(x:MH),qV a x (jH b)->c x->∃(e:Nat×Nat×Nat×MH×PH),d x e
abbrev Og(a:Nat->db->db->Prop):Prop:=∃(x:Nat)(c d:db),a x c d
attribute [push_cast] S4 jH kM oH iT nH Dd iW GA Ap oC GB Jb Og
def Lz(v:vE)(s:Sl)(m:MH)(h:PH)(K:cr):Prop:=
  mH m h (λb H=>dQ m H b v.enc 123) (λb H=>Ct H h (λS T=>∃(I:Nat×Nat×Nat×MH×PH->Prop)(z:Nat×Nat×Nat×MH×PH->Nat),S4 (∃(x:Nat×Nat×Nat×MH×PH),aA (I x) (fA b x.1) (aA (jW S (jH x)) (aI s) (aA (bJ s) (bB (kM x)) (aA (bH T (oH x)) (h=iT x) True)))) (λx=>I x->aX (↑(kM x):Int) (aH s) (eA s.a (↑(kM x):Int) s (λG o y=>aU (nH x) (iT x) G (bN o (kM x) 1) (aY y)/\∃(P:Sl),aU (nH x) (iT x) x.1 17 (aY P)/\∃(A:Sl),Dd (λt r c=>aA (cV y P=cV A t) (cF (iT x) A r) (aA (Ints (iT x) t c) (TL r) (GA (Ap r c) (fU (nH x)) (nH x) (jH x) r c (λk=>yZ (∀(e:Value×Sl),List.Mem e k->e.1=iW r c->False) (λf=>oZ (dE
 (nH x) oC 94 1 f) f 24 (lE (λC j=>eF (nH x) j oC C 94 1 (fK f (aY y))->GB j (jH x) r c (λn=>Jb j x (λg=>wV g (jH x) (n++Db (iW r c) (hJ C))) (λg d=>aA (I d) (z d<z x) (aA (fA x.1 d.1) (jW (jH x) (jH d)) (aA (aI s) (bJ s) (aA (bD (gG (bF (kM x) 1)) (kM d)) (bH g (oH d)) (bL (iT x) (iT d))))))) (λn l E B=>n=l++(iW r c,E)::B->Jb j x (λg=>wV g (jH x) (l++(iW r c,hJ C)::B)) (λg d=>aA (I d) (z d<z x) (aA (fA x.1 d.1) (jW (jH x) (jH d)) (aA (aI s) (bJ s) (aA (bD (gG (bF (kM x) 1)) (kM d)) (bH g (oH d)) (bL (iT x) (iT d))))))))))) (λk J=>yZ (List.Mem (iW r c,J) k)
 (λf=>oZ (dE (nH x) (gJ J) 94 1 f) f 24 (lE (λC j=>eF (nH x) j (gJ J) C 94 1 (fK f (aY y))->GB j (jH x) r c (λn=>Jb j x (λg=>wV g (jH x) (n++Db (iW r c) (hJ C))) (λg d=>aA (I d) (z d<z x) (aA (fA x.1 d.1) (jW (jH x) (jH d)) (aA (aI s) (bJ s) (aA (bD (gG (bF (kM x) 1)) (kM d)) (bH g (oH d)) (bL (iT x) (iT d))))))) (λn l E B=>n=l++(iW r c,E)::B->Jb j x (λg=>wV g (jH x) (l++(iW r c,hJ C)::B)) (λg d=>aA (I d) (z d<z x) (aA (fA x.1 d.1) (jW (jH x) (jH d)) (aA (aI s) (bJ s) (aA (bD (gG (bF (kM x) 1)) (kM d)) (bH g (oH d)) (bL (iT x) (iT d)))))))))))))))) (∃(k:List
 (Value×Value)),kA (wV (nH x) (jH x) k) (λr=>∀(j:MH),mL (nH x) (iT x) r->qV (nH x) j r->mQ j (jH x) r k k->∃(I1:Nat×Nat×Nat×MH×PH->Prop)(g:Nat×Nat×Nat×MH×PH->Nat),S4 (∃(f:Nat×Nat×Nat×MH×PH),aA (I1 f) (fA x.1 f.1) (aA (jW (jH x) (jH f)) (fA r (kM f)) (bP (bH j (oH f)) (iT x) (iT f)))) (λf=>I1 f->Og (λG n l=>aA (mQ (nH f) G (kM f) n l) (l=[]->K (CV.val (Value.map (Option.some (jH f)))) (nH f) (iT f)) (∀(B:db)(d:Value×Value)(Q:db),l=B++d::Q->∀(F:MH),qV (nH f) F (kM f)->E7 F G (kM f) n (B++Q) d->Og (λU V W=>∃(R:Value×Value),E7 F U (kM f) V W
 R/\∃(A:Sl)(L:Nat)(E:vE)(o:cv)(w:Nat)(p:dq),aA (gZ (CV.val R.2) (BZ 195 (Array.mk (Bw f.1)))=jA A (BZ 195 (Array.mk (Bw L)))) (F L=Option.some (kI (Array.mk E.enc) 123 0)) (aA (∀(i:Nat),wB (bK A.a L i)) (jO (iT f) E.order o) (aA (Jc F A 1 p) (∀(u:Sl×cw),List.Mem u p->cF (iT f) u.1 u.2) (aA (∀(u:Sl×cw),List.Mem u p->u.2.length=w) (iM p.length) (∀(u:dq)(M:MH),List.Perm u p->List.Pairwise (fun(X:Sl×cw)=>fun(q:Sl×cw)=>¬(mA o q.2 X.2<0)) u->Jc M A 1 u->(∀(O:Nat),(∀(i:Nat),wB (bK A.a O i))->M O=F O)->∃(D:Nat×Nat×Nat×MH×PH),aA (I1 D) (g D<g f) (aA (fA f.1 D.1) (jW (jH f) (jH D))
 (bO (fA (kM f) (kM D)) (bH M (oH D)) (iT f=iT D))))))))))))))))
theorem XV:cm 195 PC:=by
 refine iH func195 ?_;rintro c m h K ⟨s,t,d,v,od,a,b,rfl,e,f,g,j,n⟩;refine⟨tR [(64,PG)] [] [] [] [0] [] false,rfl,aE QL aG,axJ s t d m h K,ax,?_⟩;exact⟨v.order,.of_m e rfl,v.order,s,t,od,a,b,rfl,f,g,j,n⟩
theorem Vy:cm 189 aaX:=by
 refine⟨⟨Tryz.f189,func189,rfl,az⟩,?_⟩;rintro j f m h w K ⟨s,c,v,od,n,ps,rfl,I,u,z,A,B,C,D,E⟩ d
 obtain⟨F,e,rfl⟩:∃v e,f=[v,e]:=by
  have:=(rI d.args).1
  match f,this with
  |[v,e],_=>grind
 have G:F=s.val:=d.args.1;have H:e= .func (.func 195) #[] #[.pointer (some ⟨c,0,none⟩)]:=d.args.2.1;subst G H;refine Qe (R:=λl=>l.length=n) (g:=195) (cb:=[.pointer (some ⟨c,0,none⟩)]) (m2:=λb=>if b=c then m c else none) (cf:=mA od) rfl d ⟨Tryz.f195,func195,rfl,az⟩ A B C D (bdZ od) ⟨PC,XV,λx y=>⟨x.s,y.s,c,v,od,x.l,y.l,rfl,bg,z,x.ok,y.ok,rfl,rfl,rfl⟩⟩ (λb o J=>?_) E
 grind
theorem rO.appV{m0:MH}{y:Nat}{kk:dh}{us:ByteArray->da}{key:ByteArray}{s e:Sl}{Q:MH->Prop}(g:rO m0 m y kk us)(z:∃o,m0 y=some o)(D:(us key).length<=502633886983)
 (A:∀m' f,rO m0 m' y f (NC us key e)->Q m')(n:Fk kk key s):
 ∃xs:List cn,dE m (Sl.mk s.a s.len s.cap) 94 1 xs/\(xs.length+1)*24<=140737488355328/\xs.length<140737488355328/\∀(j:Sl)(d:MH),eF m d (Sl.mk s.a s.len s.cap) j 94 1 (xs++[[hJ e]])->
 ∃(c:db)(Ok:Value->Prop),wV d y c/\KeyLaw Tryz.prog 9 Ok/\Ok (.string key)/\Instr.sameBits 10000 (Value.string key) (Value.string key)=true/\(∀e,List.Mem e c->Ok e.1)/\((∀e,List.Mem e c->e.1=Value.string key->False)->∀m':MH,qV d m' y->wV m' y (c++[(Value.string key,hJ j)])->Q m')/\
  ∀(u:db)(B:Value)(x:db),c=u++(Value.string key,B)::x->∀m':MH,qV d m' y->wV m' y (u++(Value.string key,hJ j)::x)->Q m':=
 ⟨_,(n.row g).1,bf,bf,λ_ _ C=>g.put z n C A⟩
theorem YH:cm 124 Wo:=by
 refine W8 func124 ?_;rintro b9 m h K ⟨v,s,gr,od,l,w,rfl,a7,a8,Z,c,H,hT,hK⟩;refine⟨a9Z s,rfl,aE B7 (aE Vy aG),Lz v s m h (iI h K),ax,?_⟩;show Lz v s m h (iI h K);dsimp only[Lz,push_cast];intro bq m1 a' B y I J C;obtain⟨s1,nq⟩:=DX (Sub.refl m) a' B;obtain⟨s2,ny⟩:=DX s1 J C;have D:bq≠y:=λe=>by have:=J.m_;rw[<-e,B.at_]at this;cases this
 have L:I bq=some (.cells ⟨vE.enc v⟩ 123 (0,0)):=by rw[C.other bq D];exact B.at_
 have n:I y=some (.map #[] 0):=C.at_;have a9:=bZ.slen Z;have b':=c.len;clear B C a' J s1;have a0:∀{E kk us},rO I E y kk us->Sub m E:=λg z o j=>g.old z o (s2 z o j) (λF=>bg);refine⟨λx=>x.1=bq/\x.2.1=y/\x.2.2.1<=l.length/\x.2.2.2.2=h/\Zk I x.2.2.2.1 h y (oM pG gr (l.take x.2.2.1)),λx=>l.length-x.2.2.1,⟨(bq,y,0,I,h),⟨rfl,rfl,Nat.zero_le _,rfl,⟨[],_,rO.new n,λk=>by simpa[oM]using jC.nil h⟩⟩,MT⟩,?_⟩;rintro⟨M,O,i,E,P⟩ ⟨Q,j,hi,F,⟨kk,uk,g,hg⟩⟩;dsimp only at Q j hi F g hg⊢
 subst Q j F;refine aF (λb0=>?_) (λc'=>?_)
 .obtain⟨r,hr⟩:=eU a9 b0;obtain⟨b,o,u,ea,rd,hv⟩:=bZ.at Z hr;have a1:=br hr;have rq:aU E P M 17 [hJ v.group]:=.of_m (g.old M _ L D) rfl
  have hl:(uk (pG (pick r gr))).length<=502633886983:=by
   have h5:=(hg (pG (pick r gr))).len;have h6:(oM pG gr (l.take i) (pG (pick r gr))).length<=(l.take i).length:=length_filter_le _ _
   grind
  rw[kR aD];have nx:∀(m':MH)(d:dh),rO I m' O d (NC uk (pG (pick r gr)) u)->Zk I m' P O (oM pG gr (l.take (i+1))):=λm' d g'=>Zk.upd g' hg hv (by rw[oM,AF _ hr,if_pos ay];rfl) (λk2 c0=>by rw[oM,AF _ hr,if_neg bg,append_nil];rfl);exact⟨b,o,ea,aD,aD,u,.imm rd,v.group,rq,u,v.group,r,gr,rfl,hv,a7,c.row r a1,by rw[c.wid r a1];exact H,hT.sub (a0 g),g.get2 (λZ=>g.appV ⟨_,n⟩ hl (λm' d g'=>⟨(M,O,i+1,m',P),⟨rfl,rfl,bg,rfl,nx m' d g'⟩,bg,MT⟩) Z) (λs Z=>g.appV ⟨_,n⟩ hl (λm' d g'=>⟨(M,O,i+1,m',P),⟨rfl,rfl,bg,rfl,nx m' d g'⟩,bg,MT⟩) Z)⟩
 .rw[bu aD]at hg;have mq:=g.old M _ L D;refine⟨_,g.map_,λr m5 b3 b4 it=>?_⟩;have b5:E r=none:=b3.m_
  have a2:∀{z o},E z=some o->m5 z=E z/\z≠r:=fun{z o} j=>by
   have:z≠r:=λF=>bg
   exact⟨b4.other z this,this⟩
  have R:∀p∈kk,∀x i,p.2.a=some ⟨x,i,none⟩->∃o,E x=some o:=λp hp x i j=>⟨_,((g.row p hp).blk j).choose_spec⟩
  refine⟨λz=>z.1=M/\z.2.1=O/\z.2.2.1=r/\z.2.2.2.2=P/\(∀b o,E b=some o->(∀p∈kk,∀i,p.2.a≠some ⟨b,i,none⟩)->z.2.2.2.1 b=some o)/\∃left,mQ z.2.2.2.1 O r (kk.map λp=>(Value.string p.1,hJ p.2)) left/\∀p∈kk,bMQ z.2.2.2.1 P od p (oM pG gr l) ((Value.string p.1,hJ p.2)∉left),λz=>leftOf z.2.2.2.1 z.2.2.1,⟨(M,O,r,m5,P),⟨rfl,rfl,rfl,rfl,λb o e _=>(a2 e).1.trans e,_,it,λp hp=>?_⟩,MT⟩,?_⟩
  .obtain⟨ps,Q,j,F⟩:=b8Q (hg p.1);refine⟨ps,?_,F,by rw[j],λhn=>(hn (mem_map_of_mem (f:=λp:ByteArray×Sl=>(Value.string p.1,hJ p.2)) hp)).elim⟩;have e5:(ps.map λq=>eS q.1)=(uk p.1).map eS:=by rw[<-Q,map_map];rfl
   rw[e5];exact dE.keep (g.row p hp) λb i e=>(a2 (R p hp b i e).choose_spec).1
  .rintro⟨c1,c2,c3,mz,hz⟩ ⟨Q,j,F,e4,S,left,G,A⟩;dsimp only at Q j F e4 S G A⊢
   subst Q j F e4;refine⟨c2,_,left,G,λT=>?_,λl1 x l2 b6 m6 b7 a3=>?_⟩
   .subst T;exact UT s2 ny n g hg (.refl _) b' S G A hK
   .obtain⟨p0,ps,rfl,a4,a5,hv,hw,c4,U⟩:=US (m4y:=n) g c b5 S G A b6 b7 a3;have hb:=a4 c1 _ L D;refine⟨c2,_,_,_,a3,p0.2,c1,v,od,w,ps,rfl,hb.1,hb.2,a8,a5,hv,hw,aD,λb8 m7 V W X a6=>?_⟩;obtain⟨k1,⟨Y,k2,k3⟩,k4⟩:=U b8 m7 V W X a6;exact⟨(c1,c2,c3,m7,hz),⟨rfl,rfl,rfl,rfl,k1,Y,k2,k3⟩,k4,rfl,rfl,rfl,rfl,rfl,trivial⟩
def bkJ:Vc.Spec:=λe m h K=>∃v on f g c d,e=[aT v,cS f,cS g]/\iD h v.on on/\Rows h f c/\Rows h g d/\fU m/\bsZ on [c,d]/\c.length*d.length<=8000000/\∀j h',PH.le h h'->Rows h' j (c.flatMap (pT on d))->K (cS j) m h'
noncomputable def baX:Ctx:=tR [(117,Ze),(118,Sr),(190,Ws),(191,Wp)] [(4,{A:=Nat×Nat×Sl×Sl×Sl×Sl×MH×PH,st:=λ⟨i,y,l,a,b,r,m,h⟩=>bQ 76 79 [(1,sv l),(7,sv a),(8,sv b),(9,vv (.map (some y))),(25,sv r),(26,iv r.len),(27,iv i)] [] m h}),
 (12,{A:=Nat×Nat×Sl×Sl×da×MH×PH,st:=λ⟨i,y,l,a,c,m,h⟩=>bQ 76 79 [(7,sv a),(9,vv (.map (some y))),(13,.at (.lst 72)),(46,sv l),(47,iv l.len),(48,iv i)] [(72,.lst 94 1 (c.map eS))] m h}),
 (16,{A:=Nat×Nat×Nat×Sl×Sl×Sl×Sl×da×MH×PH,st:=λ⟨j,i,y,l,a,e,g,c,m,h⟩=>bQ 76 79 [(7,sv a),(9,vv (.map (some y))),(13,.at (.lst 72)),(15,sv e),(46,sv l),(47,iv l.len),(48,iv i),(60,sv g),(61,iv g.len),(62,iv j)] [(72,.lst 94 1 (c.map eS))] m h})] [] [] [1053,400000,0] [] false
noncomputable abbrev sP(a:Nat×Nat×Sl×Sl×Sl×Sl×MH×PH):Sl:=a.2.2.1
noncomputable abbrev sO(a:Nat×Nat×Sl×Sl×Sl×Sl×MH×PH):Sl:=a.2.2.2.2.1
noncomputable abbrev pA(a:Nat×Nat×Sl×Sl×Sl×Sl×MH×PH):Nat:=a.2.1
noncomputable abbrev kO(a:Nat×Nat×Sl×Sl×Sl×Sl×MH×PH):Sl×MH×PH:=a.2.2.2.2.2
noncomputable abbrev p8(a:Nat×Nat×Sl×Sl×Sl×Sl×MH×PH):Sl:=(kO a).1
abbrev Jd(a:MH)(b:Nat×Nat×Sl×Sl×Sl×Sl×MH×PH)(c:MH->Prop)(d:MH->(Nat×Nat×Sl×Sl×Sl×Sl×MH×PH)->Prop):Prop:=∀(x:MH),qV a x (pA b)->c x->∃(e:Nat×Nat×Sl×Sl×Sl×Sl×MH×PH),d x e
abbrev GM(a b:Nat×Nat×Sl×Sl×Sl×Sl×MH×PH):Prop:=bS a.2.2.2.1 b.2.2.2.1
abbrev GN(a b:Nat×Nat×Sl×Sl×Sl×Sl×MH×PH)(c:Nat->Option Obj):Prop:=bO (bD (gG (bF a.1 1)) b.1) (bH c (kO b).2) (gX (kO a)=gX (kO b))
noncomputable abbrev Aa(a:Nat×Nat×Sl×Sl×da×MH×PH):Sl:=a.2.2.2.1
noncomputable abbrev nG(a:Nat×Nat×Sl×Sl×da×MH×PH):Sl:=a.2.2.1
noncomputable abbrev Bt(a:Nat×Nat×Sl×Sl×da×MH×PH):List cn:=nB a.2.2.2.2.1
noncomputable abbrev iG(a:Sl×Sl×da×MH×PH):MH×PH:=a.2.2.2
noncomputable abbrev sQ(a:Nat×Nat×Sl×Sl×da×MH×PH):Nat->Nat->Option Value:=(iG a.2.2).2
noncomputable abbrev CG(a:Nat×Nat×Sl×Sl×da×MH×PH):Nat->Option Obj:=(iG a.2.2).1
abbrev Jf(a:dy)(b:cw)(c:cq)(d:Prop):Prop:=(∀(x:Value×Sl),List.Mem x a->x.1=iW b c->False)->d
noncomputable abbrev Br(a:Nat×Nat×Nat×Sl×Sl×Sl×Sl×da×MH×PH):Sl:=a.2.2.2.2.1
noncomputable abbrev Bs(a:Nat×Nat×Nat×Sl×Sl×Sl×Sl×da×MH×PH):Nat:=a.2.2.1
noncomputable abbrev nW(a:Nat×Nat×Nat×Sl×Sl×Sl×Sl×da×MH×PH):Sl×Sl×da×MH×PH:=a.2.2.2.2.2
noncomputable abbrev oG(a:Nat×Nat×Nat×Sl×Sl×Sl×Sl×da×MH×PH):Sl:=a.2.2.2.1
noncomputable abbrev rA(a:Nat×Nat×Nat×Sl×Sl×Sl×Sl×da×MH×PH):Sl:=(nW a).2.1
noncomputable abbrev xW(a:Nat×Nat×Nat×Sl×Sl×Sl×Sl×da×MH×PH):List cn:=nB (nW a).2.2.1
noncomputable abbrev xS(a:Nat×Nat×Nat×Sl×Sl×Sl×Sl×da×MH×PH):Nat->Nat->Option Value:=(iG (nW a)).2
abbrev Ng(a:PH)(b c:Sl)(d:Sl->PH->Sl->ct->Prop):Prop:=bU a 1 (jV (aY b) (aY c)) (λx e=>∃(f:Sl)(g:ct),d x e f g)
attribute [push_cast] sP sO pA kO p8 Jd GM GN Aa nG Bt iG sQ CG Jf Br Bs nW oG rA xW xS Ng
def LA(v:vE)(Y W:Sl)(m:MH)(h:PH)(K:cr):Prop:=
  JI v.on h (λo=>∀(a:Sl),jJ (λb G=>cZ h G (Ints G a (oK o)) (Ints G b (iX o)->Ct m G (λZ m1=>∃(I:Nat×Nat×Sl×Sl×Sl×Sl×MH×PH->Prop)(B:Nat×Nat×Sl×Sl×Sl×Sl×MH×PH->Nat),(∃(x:Nat×Nat×Sl×Sl×Sl×Sl×MH×PH),aA (I x) (bS Y (sP x)) (aA (bS a x.2.2.2.1) (bS b (sO x)) (aA (jW Z (pA x)) (j7 W (kO x)) (aA (cK W (p8 x)) (bB x.1) (bP (bH m1 (kO x).2) G (gX (kO x)))))))/\∀(x:Nat×Nat×Sl×Sl×Sl×Sl×MH×PH),I x->aX (↑x.1:Int) (aH (p8 x)) (eA (p8 x).a (↑x.1:Int) (p8 x) (λR S y=>aU (fB (kO x)) (gX (kO x)) R (bN S x.1 1) (aY y)/\∃(s:Sl),Dd (λt r c=>aA (cV y (sO x)=cV s t) (cF (gX (kO x)) s r) (aA (Ints (gX
 (kO x)) t c) (Ap r c) (branch (List.all (pick r c) nK) (∃(H:Sl),Dd (λJ j u=>aA (cV y (sO x)=cV H J) (cF (gX (kO x)) H j) (aA (Ints (gX (kO x)) J u) (TL j) (GA (Ap j u) (fU (fB (kO x))) (fB (kO x)) (pA x) j u (λk=>yZ (∀(e:Value×Sl),List.Mem e k->e.1=iW j u->False) (λf=>oZ (dE (fB (kO x)) oC 94 1 f) f 24 (lE (λA z=>eF (fB (kO x)) z oC A 94 1 (fK f (aY y))->GB z (pA x) j u (λE=>Jd z x (λn=>wV n (pA x) (E++Db (iW j u) (hJ A))) (λn d=>aA (I d) (B d<B x) (aA (bS (sP x) (sP d)) (GM x d) (aA (bS (sO x) (sO d)) (jW (pA x) (pA d)) (aA (j7 (p8 x) (kO d)) (cK
 (p8 x) (p8 d)) (GN x d n)))))) (λE l T L=>E=l++(iW j u,T)::L->Jd z x (λn=>wV n (pA x) (l++(iW j u,hJ A)::L)) (λn d=>aA (I d) (B d<B x) (aA (bS (sP x) (sP d)) (GM x d) (aA (bS (sO x) (sO d)) (jW (pA x) (pA d)) (aA (j7 (p8 x) (kO d)) (cK (p8 x) (p8 d)) (GN x d n)))))))))) (λk C=>yZ (List.Mem (iW j u,C) k) (λf=>oZ (dE (fB (kO x)) (gJ C) 94 1 f) f 24 (lE (λA z=>eF (fB (kO x)) z (gJ C) A 94 1 (fK f (aY y))->GB z (pA x) j u (λE=>Jd z x (λn=>wV n (pA x) (E++Db (iW j u) (hJ A))) (λn d=>aA (I d) (B d<B x) (aA (bS (sP x) (sP d)) (GM x d) (aA (bS
 (sO x) (sO d)) (jW (pA x) (pA d)) (aA (j7 (p8 x) (kO d)) (cK (p8 x) (p8 d)) (GN x d n)))))) (λE l T L=>E=l++(iW j u,T)::L->Jd z x (λn=>wV n (pA x) (l++(iW j u,hJ A)::L)) (λn d=>aA (I d) (B d<B x) (aA (bS (sP x) (sP d)) (GM x d) (aA (bS (sO x) (sO d)) (jW (pA x) (pA d)) (aA (j7 (p8 x) (kO d)) (cK (p8 x) (p8 d)) (GN x d n)))))))))))))) (∃(f:Nat×Nat×Sl×Sl×Sl×Sl×MH×PH),aA (I f) (B f<B x) (aA (bS (sP x) (sP f)) (GM x f) (aA (bS (sO x) (sO f)) (jW (pA x) (pA f)) (aA (j7 (p8 x) (kO f)) (cK (p8 x) (p8 f)) (GN x f (fB (kO x)))))))))))) (∃(I1:Nat×Nat×Sl×Sl
 ×da×MH×PH->Prop)(z:Nat×Nat×Sl×Sl×da×MH×PH->Nat),(∃(f:Nat×Nat×Sl×Sl×da×MH×PH),aA (I1 f) (bS x.2.2.2.1 (Aa f)) (aA (jW (pA x) f.2.1) (eL 72) (aA (bS (sP x) (nG f)) (cK (sP x) (nG f)) (aA (bB f.1) (Eb (Bt f)) (bP (bH (fB (kO x)) (iG f.2.2)) (gX (kO x)) (sQ f))))))/\∀(f:Nat×Nat×Sl×Sl×da×MH×PH),I1 f->aX (↑f.1:Int) (aH (nG f)) (eA (nG f).a (↑f.1:Int) (nG f) (λR S y=>aU (CG f) (sQ f) R (bN S f.1 1) (aY y)/\∃(s:Sl),Dd (λt r c=>aA (cV y (Aa f)=cV s t) (cF (sQ f) s r) (aA (Ints (sQ f) t c) (Ap r c) (tD (List.all (pick r c) nK) (∃(d:Nat×Nat×Sl×Sl×da×MH×PH),aA (I1
 d) (z d<z f) (aA (bS (Aa f) (Aa d)) (jW f.2.1 d.2.1) (aA (eL 72) (bS (nG f) (nG d)) (aA (cK (nG f) (nG d)) (bD (gG (bF f.1 1)) d.1) (bO (vQ (Bt f) (Bt d)) (bH (CG f) (iG d.2.2)) (sQ f=sQ d)))))) (∃(H:Sl),Dd (λJ j u=>aA (cV y (Aa f)=cV H J) (cF (sQ f) H j) (aA (Ints (sQ f) J u) (TL j) (GA (Ap j u) (fU (CG f)) (CG f) f.2.1 j u (λk=>Jf k j u (∃(I2:Nat×Nat×Nat×Sl×Sl×Sl×Sl×da×MH×PH->Prop)(n:Nat×Nat×Nat×Sl×Sl×Sl×Sl×da×MH×PH->Nat),(∃(d:Nat×Nat×Nat×Sl×Sl×Sl×Sl×da×MH×PH),aA (I2 d) (bS (Aa f) (Br d)) (aA (jW f.2.1 (Bs d)) (eL 72) (aA (bS y (nW d).1)
 (bS (nG f) (oG d)) (aA (cK (nG f) (oG d)) (cO f.1 d.2.1) (aA (sQn=sQs (rA d)) (bB (rA d).len) (aA (bB d.1) (vQ (Bt f) (xW d)) (bP (bH (CG f) (iG (nW d))) (sQ f) (xS d))))))))/\∀(d:Nat×Nat×Nat×Sl×Sl×Sl×Sl×da×MH×PH),I2 d->aX (↑d.1:Int) (aH (rA d)) (eA (rA d).a (↑d.1:Int) (rA d) (λU V C=>aU (iG (nW d)).1 (xS d) U (bN V d.1 1) (aY C)/\Ng (xS d) (nW d).1 C (λA M O D=>aA (rB A=rB O) (Rows M O D) (aA (D.length<=10) (∀(P:cw),List.Mem P D->P.length<=12) (jJ (λQ F=>cZ M F (cF F Q D.flatten) (mV (xW d) 24 (∃(g:Nat×Nat×Nat×Sl×Sl×Sl×Sl×da×MH×PH),aA (I2 g) (n g<
 n d) (aA (bS (Br d) (Br g)) (jW (Bs d) (Bs g)) (aA (eL 72) (bS (nW d).1 (nW g).1) (aA (bS (oG d) (oG g)) (cK (oG d) (oG g)) (aA (cO d.2.1 g.2.1) (bS (rA d) (rA g)) (aA (cK (rA d) (rA g)) (bD (gG (bF d.1 1)) g.1) (bO (Option.some (Own.lst 94 1 (fK (xW d) (aY Q)))=Option.some (Own.lst 94 1 (xW g))) (bH (iG (nW d)).1 (iG (nW g))) (F=xS g))))))))))))))) (∃(g:Nat×Nat×Sl×Sl×da×MH×PH),aA (I1 g) (z g<z f) (aA (bS (Br d) (Aa g)) (jW (Bs d) g.2.1) (aA (eL 72) (bS (oG d) (nG g)) (aA (cK (oG d) (nG g)) (bD (gG (bF d.2.1 1)) g.1) (bO (vQ (xW d) (Bt g)) (bH (iG (nW d)).1 (iG
 g.2.2)) (xS d=sQ g)))))))) (λk C=>List.Mem (iW j u,C) k->∃(I2:Nat×Nat×Nat×Sl×Sl×Sl×Sl×da×MH×PH->Prop)(n:Nat×Nat×Nat×Sl×Sl×Sl×Sl×da×MH×PH->Nat),(∃(d:Nat×Nat×Nat×Sl×Sl×Sl×Sl×da×MH×PH),aA (I2 d) (bS (Aa f) (Br d)) (aA (jW f.2.1 (Bs d)) (eL 72) (aA (bS y (nW d).1) (bS (nG f) (oG d)) (aA (cK (nG f) (oG d)) (cO f.1 d.2.1) (aA (bS C (rA d)) (cK C (rA d)) (aA (bB d.1) (vQ (Bt f) (xW d)) (bP (bH (CG f) (iG (nW d))) (sQ f) (xS d))))))))/\∀(d:Nat×Nat×Nat×Sl×Sl×Sl×Sl×da×MH×PH),I2 d->aX (↑d.1:Int) (aH (rA d)) (eA (rA d).a (↑d.1:Int) (rA d) (λU V X=>aU
 (iG (nW d)).1 (xS d) U (bN V d.1 1) (aY X)/\Ng (xS d) (nW d).1 X (λA M O D=>aA (rB A=rB O) (Rows M O D) (aA (D.length<=10) (∀(P:cw),List.Mem P D->P.length<=12) (jJ (λQ F=>cZ M F (cF F Q D.flatten) (mV (xW d) 24 (∃(g:Nat×Nat×Nat×Sl×Sl×Sl×Sl×da×MH×PH),aA (I2 g) (n g<n d) (aA (bS (Br d) (Br g)) (jW (Bs d) (Bs g)) (aA (eL 72) (bS (nW d).1 (nW g).1) (aA (bS (oG d) (oG g)) (cK (oG d) (oG g)) (aA (cO d.2.1 g.2.1) (bS (rA d) (rA g)) (aA (cK (rA d) (rA g)) (bD (gG (bF d.1 1)) g.1) (bO (Option.some (Own.lst 94 1 (fK (xW d) (aY Q)))=Option.some (Own.lst 94 1 (xW g))) (bH (iG (nW
 d)).1 (iG (nW g))) (F=xS g))))))))))))))) (∃(g:Nat×Nat×Sl×Sl×da×MH×PH),aA (I1 g) (z g<z f) (aA (bS (Br d) (Aa g)) (jW (Bs d) g.2.1) (aA (eL 72) (bS (oG d) (nG g)) (aA (cK (oG d) (nG g)) (bD (gG (bF d.2.1 1)) g.1) (bO (vQ (xW d) (Bt g)) (bH (iG (nW d)).1 (iG g.2.2)) (xS d=sQ g)))))))))))))))) (vP (sQ f) (Bt f) K (CG f)))))))
theorem Pa:cm 117 Ze:=by
 refine iH func117 ?_;rintro c m h K ⟨s,on,rfl,d,e⟩;refine⟨aWQ s m h,rfl,aG,Li s m h K,ax,?_⟩;exact bDJ d e
theorem X0:cm 190 Ws:=by
 refine iH func190 ?_;rintro d m h K ⟨s,t,r,c,rfl,e,f,g,j⟩;refine⟨aVJ s t m h,rfl,aE H7 aG,Lh s t m h K,ax,?_⟩;exact bDZ e f g j
theorem rO.get1{m0:MH}{y:Nat}{kk:dh}{us:ByteArray->da}{key:ByteArray}{K0:Prop}{K:Sl->Prop}(g:rO m0 m y kk us)(d:∀s,Fk kk key s->K s)(e:K ⟨none,0,0⟩=K0):
 ∃(c:dy)(Ok:Value->Prop),wS m y (c.map λp=>(p.1,hJ p.2))/\KeyLaw Tryz.prog 9 Ok/\Ok (.string key)/\(∀e,List.Mem e c->Ok e.1)/\((∀e,List.Mem e c->e.1=Value.string key->False)->K0)/\∀t,List.Mem (Value.string key,t) c->K t:=g.get2 (λf=>e▸d _ f) d
theorem YM:cm 116 bkJ:=by
 refine W8 func116 ?_;rintro c9 m h K ⟨v,on,s1,s2,D,f,rfl,ho,L,M,hT,c',d',hK⟩;refine⟨baX,rfl,aE Pa (aE B7 (aE X0 (aE XZ aG))),LA v s1 s2 m h (iI h K),ax,?_⟩;show LA v s1 s2 m h (iI h K);dsimp only[LA,push_cast];obtain⟨-,wa,wb,n,c,c0,a8⟩:=c';have n:iJ wa D:=n;have c:iJ wb f:=c;have d0:=n.len;have c6:=c.len;refine⟨v.on,on,rfl,ho,λsa sb h1 B O a9 y m2 b' a0=>?_⟩;obtain⟨st,ny⟩:=DX (Sub.refl m) b' a0;have b0:m2 y=some (.map #[] 0):=a0.at_;have U:∀{mx kk us},rO m2 mx y kk us->Sub m mx:=λg z o J=>g.old z o (st z o J) (λP=>bg);clear a0 b';have L:=bZ.mono L B (λ_ _ h=>cF.mono h B);have M:=bZ.mono M B (λ_ _ h=>cF.mono h B);have b1:=bZ.slen L;have b2:=bZ.slen M;refine⟨λx=>x.1<=f.length/\x.2.1=y/\x.2.2.1=s1/\x.2.2.2.1=sa/\x.2.2.2.2.1=sb/\x.2.2.2.2.2.1=s2/\x.2.2.2.2.2.2.2=h1/\Zk m2 x.2.2.2.2.2.2.1 h1 y (under pG (iX on) (f.take x.1)),λx=>f.length-x.1,⟨(0,y,s1,sa,sb,s2,m2,h1),⟨Nat.zero_le _,rfl,rfl,rfl,rfl,rfl,rfl,⟨[],_,rO.new b0,λk=>by simpa[under]using jC.nil h1⟩⟩,MT⟩,?_⟩;rintro⟨i,y',t1,ta,tb,t2,mx,hx⟩ ⟨hi,V,J,P,W,e5,e6,⟨kk,uk,g,hg⟩⟩;dsimp only at hi V J P W e5 e6 g hg⊢
 subst V J P W e5 e6;refine aF (λa1=>?_) (λb3=>?_)
 .obtain⟨r,E⟩:=eU b2 a1;obtain⟨b,o,u,ea,rd,Q⟩:=bZ.at M E;have A:=br E;have C:jP r.length (iX on):=by rw[c.wid r A];exact a8
  rw[kR aD];refine⟨b,o,ea,aD,aD,u,.imm rd,u,tb,r,iX on,rfl,Q,a9,C,aC (λd=>?_) (λd=>?_)⟩
  .have hl:(uk (pG (pick r (iX on)))).length<=502633886983:=by
    have h5:=(hg (pG (pick r (iX on)))).len;have h6:(under pG (iX on) (f.take i) (pG (pick r (iX on)))).length<=(f.take i).length:=length_filter_le _ _
    grind
   exact⟨u,tb,r,iX on,rfl,Q,a9,c.row r A,C,hT.sub (U g),g.get1 (λs hs=>g.appV ⟨_,b0⟩ hl (λm' d1 g'=>⟨(i+1,y',t1,ta,tb,t2,m',hx),⟨aD,rfl,rfl,rfl,rfl,rfl,rfl,Zk.upd g' hg Q (by rw[HH E,if_pos];simpa[DS]using d) (λk2 d2=>by rw[HH E,if_neg,append_nil];grind)⟩,aD,MT⟩) hs) rfl⟩
  .refine⟨(i+1,y',t1,ta,tb,t2,mx,hx),⟨aD,rfl,rfl,rfl,rfl,rfl,rfl,⟨kk,uk,g,λk2=>?_⟩⟩,aD,MT⟩;dsimp only;rw[HH E,if_neg,append_nil]
   .exact hg k2
   .simp[DS,d]
 .rw[bu aD]at hg;have gx:∀{X},PH.le hx X->∀key,jC X (uk key) (under pG (iX on) f key):=λle key=>(hg key).mono le;have sx:=U g;refine⟨λx=>x.1<=D.length/\x.2.1=y'/\x.2.2.1=t1/\x.2.2.2.1=ta/\x.2.2.2.2.2.1=mx/\PH.le hx x.2.2.2.2.2.2/\jC x.2.2.2.2.2.2 x.2.2.2.2.1 ((D.take x.1).flatMap (pT on f)),λx=>D.length-x.1,⟨(0,y',t1,ta,[],mx,hx),⟨Nat.zero_le _,rfl,rfl,rfl,rfl,.refl _,bk (jC.nil hx)⟩,MT⟩,?_⟩;rintro⟨k,y2,a2,F,us,my,hy⟩ ⟨hk,V,J,P,W,le,R⟩;dsimp only at hk V J P W le R⊢
  subst V J P W;refine aF (λa1=>?_) (λb3=>?_)
  .obtain⟨r,E⟩:=eU b1 a1;obtain⟨b,o,u,ea,rd,Q⟩:=bZ.at L E;have A:=br E;have C:jP r.length (oK on):=by rw[n.wid r A];exact c0
   have Q:=cF.mono Q le;have O:=O.mono le;rw[kR aD];refine⟨b,o,ea,aD,aD,u,.imm (rd.mono le),u,F,r,oK on,rfl,Q,O,C,aC (λd=>?_) (λd=>?_)⟩
   .refine⟨(k+1,y2,a2,F,us,my,hy),⟨aD,rfl,rfl,rfl,rfl,le,?_⟩,aD,MT⟩;have:pT on f r=[]:=if_neg (by simpa[DS]using d);dsimp only;rw[EU _ E,this,append_nil];exact R
   .have d:(pick r (oK on)).all nK=true:=bg
    have c1:under pG (iX on) f (pG (pick r (oK on)))=f.filter λy=>DS (iX on) y&&agree on r y:=by
     refine filter_congr λz X=>?_;congr 1;have h5:=K3 JW (n.row r A) (c.row z X) C (by rw[c.wid z X];exact a8)
     grind
    have a3:pT on f r=(under pG (iX on) f (pG (pick r (oK on)))).map (r++ ·):=by rw[c1];exact if_pos (by simpa[DS]using d)
    have b4:((D.take k).flatMap (pT on f)).length+(under pG (iX on) f (pG (pick r (oK on)))).length<=8000000:=by
     have h5:((D.take (k+1)).flatMap (pT on f)).length<=(D.take (k+1)).length*f.length:=AE λx _=>CU;rw[EU _ E,bt,a3,length_map]at h5;have h6:(D.take (k+1)).length*f.length<=D.length*f.length:=Nat.mul_le_mul_right _ bg;omega
    have a4:=gx le (pG (pick r (oK on)));generalize hG:under pG (iX on) f (pG (pick r (oK on)))=G at a3 b4 a4;have c2:=a4.len;refine⟨u,F,r,oK on,rfl,Q,O,n.row r A,C,hT.sub sx,g.get1 (λs hs=>?_) rfl⟩;refine⟨λz=>z.1<=G.length/\z.2.1=k/\z.2.2.1=y2/\z.2.2.2.1=a2/\z.2.2.2.2.1=F/\z.2.2.2.2.2.1=u/\z.2.2.2.2.2.2.1=s/\z.2.2.2.2.2.2.2.2.1=my/\PH.le hy z.2.2.2.2.2.2.2.2.2/\jC z.2.2.2.2.2.2.2.2.2 z.2.2.2.2.2.2.2.1 ((D.take k).flatMap (pT on f)++(G.take z.1).map (r++ ·)),λz=>G.length-z.1,⟨(0,k,y2,a2,F,u,s,us,my,hy),⟨Nat.zero_le _,rfl,rfl,rfl,rfl,rfl,rfl,rfl,.refl _,bg⟩,MT⟩,?_⟩;rintro⟨j,k',y3,Y,Z,ee,gg,b5,mz,X⟩ ⟨S,V,J,P,W,e5,e6,e7,H,a5⟩;dsimp only at S V J P W e5 e6 e7 H a5⊢
    subst V J P W e5 e6 e7;have a':=(hs.row g).1;have c3:=a'.slen;rw[length_map,c2]at c3;refine aF (λc7=>?_) (λb3=>?_)
    .have b6:j<G.length:=by omega
     obtain⟨w,hw,c4⟩:=a4.at_ j _ (bo b6);obtain⟨b8,e8,d3⟩:=a'.rd (h:=X) (i:=j) (e:=[hJ w]) (by rw[getElem?_map,hw];rfl);have b7:=a5.len;simp only[bt,length_map,length_take]at b7;rw[kR aD];refine⟨b8,0,e8,aD,aD,w,bg,λc5 h3 T a6=>⟨c5,[r,G[j]],rfl,?_,ay,?_,λsl h4 b9 c8=>⟨bg,bg,(j+1,k',y3,Y,Z,ee,gg,b5++[sl],mz,h4),⟨aD,rfl,rfl,rfl,rfl,rfl,rfl,rfl,H.trans (T.trans b9),?_⟩,aD,?_⟩⟩⟩
     .refine jC.rows (us:=[ee,w]) ?_ a6 ay;refine⟨rfl,λj z S=>?_⟩
      match j,S with
      |0,S=>
       simp at S;subst S;exact⟨ee,rfl,cF.mono Q (H.trans T)⟩
      |1,S=>
       simp at S;subst S;exact⟨w,rfl,cF.mono c4 (H.trans T)⟩
     .intro z I;have I:z∈[r,G[j]]:=I;rcases mem_cons.1 I with rfl|I
      .exact(n.row _ A).len
      .have e7:=mem_singleton.1 I
       have:z∈f:=by
        have h9:z∈under pG (iX on) f (pG (pick r (oK on))):=bg
        grind
       exact(c.row _ this).len
     .have e7:(G.take (j+1)).map (r++ ·)=(G.take j).map (r++ ·)++[r++G[j]]:=by rw[cd,bo b6,bw];rfl
      dsimp only;rw[e7, <-append_assoc];exact(a5.mono (T.trans b9)).snoc bg
     .dsimp only;rw[bw];exact MT
    .have:j=G.length:=by omega
     subst this;rw[kR aD];refine⟨(k'+1,y3,Y,Z,b5,mz,X),⟨aD,rfl,rfl,rfl,rfl,le.trans H,?_⟩,aD,MT⟩;dsimp only;rw[EU _ E,a3]
     grind
  .rw[bu aD]at R
   refineλs h' a7 a6=>iI.sub sx (B.trans (le.trans a7)) (hK s h' (B.trans (le.trans a7)) ((R.mono a7).rows a6 ?_))
   have h5:(D.flatMap (pT on f)).length<=D.length*f.length:=AE λx _=>CU;omega
def Zm:Vc.Spec:=λc m h K=>∃u b v w r,c=[cS u,cP b]/\m b=some (.cells ⟨vE.enc v⟩ 123 (0,0))/\dO h w v.where_/\cF h u r/\K (cB (nY r w)) m h
def blX(t:Bool):Vc.Spec:=λc m h K=>∃u b s l r,c=[cS u,cP b]/\m b=some (.cells #[.slice s.a s.len s.cap] 53 (0,0))/\Rows h s l/\oR l/\cF h u r/\l.length<=8000000/\K (cB (TR l r==t)) m h
def bgJ:Vc.Spec:=λe m h K=>∃u d f y s r c ks,e=[cS u,cP d,cP f]/\m d=some (.cells #[.map (some y)] 169 (0,0))/\m f=some (.cells #[.slice s.a s.len s.cap] 33 (0,0))/\Dk m y ks/\Ints h s c/\cF h u r/\TL r/\jP r.length c/\fU m/\∀t:Bool,(t=true↔pG (pick r c)∈ks)->K (cB t) m h
def bpQ:Vc.Spec:=λc m h K=>∃i:Nat,∃d e f v od g s rs r x,c=[cI i,cP d,cP e,cP f]/\m d=some (.cells ⟨vE.enc v⟩ 123 (0,0))/\m e=some (.cells #[Sl.val g] 53 (0,0))/\m f=some (.cells #[Sl.val s] 94 (0,0))/\jO h v.order od/\Rows h g rs/\cF h s r/\rs[i]? =some x/\
 K (cB (decide (mA od x r>=0))) m h
def Wh:Vc.Spec:=λc m h K=>∃(n d e f:Nat)(v:vE)(od:cv)(g s:Sl)(rs:ct)(r:cw)(w:Nat),c=[cI n,.val (.func (.func 127) #[] #[.pointer (some ⟨d,0,none⟩),.pointer (some ⟨e,0,none⟩),.pointer (some ⟨f,0,none⟩)])]/\
 m d=some (.cells ⟨vE.enc v⟩ 123 (0,0))/\m e=some (.cells #[Sl.val g] 53 (0,0))/\m f=some (.cells #[Sl.val s] 94 (0,0))/\jO h v.order od/\Rows h g rs/\cF h s r/\rs.length=n/\uT od rs/\(∀x∈rs,x.length=w)/\r.length=w/\
 K (cI ((rs.countP λy=>decide (mA od y r<0):Nat):Int)) m h
def Zi:Vc.Spec:=λc m h K=>∃u d e v y gr od l f g r w,c=[cS u,cP d,cP e]/\m d=some (.cells #[.map (some y)] 173 (0,0))/\m e=some (.cells ⟨vE.enc v⟩ 123 (0,0))/\wJ pG m h y gr od l f g/\iJ w l/\jP w gr/\Ints h v.group gr/\jO h v.order od/\cF h u r/\TL r/\r.length=w/\fU m/\
 K (cB (decide (((l.countP λy=>Mb gr r y&&decide (mA od y r<0):Nat):Int)<v.limit))) m h
def Wi:Vc.Spec:=λe m h K=>∃v t f g c d,e=[aT v,cS f,cS g]/\sY h t v/\Rows h f c/\Rows h g d/\fU m/\2<=t.op/\t.op<=10/\PS t.op t.query [c,d]/\c.length<=8000000/\d.length<=8000000/\∀j h',PH.le h h'->Rows h' j (opF t.op t.query [c,d])->K (cS j) m h'
noncomputable def a9X:Ctx:=tR [(118,Sr),(126,Wh)] [] [(2,{A:=Nat×Nat×Nat×MH×PH,st:=λ⟨q,e,g,m,h⟩=>bQ 21 24 [(2,pv q),(3,pv e),(5,pv g)] [] m h})] [] [200003,200005,0] [] false
noncomputable def bzZ:Ctx:=tR [(112,bSQ),(115,ceJ),(116,bkJ),(117,Ze),(118,Sr),(120,Su),(124,Wo)] [(7,{A:=Nat×Nat×Sl×da×MH×PH,st:=λ⟨i,b,s,c,m,h⟩=>bQ 140 143 [(3,pv b),(7,.at (.lst 33)),(34,sv s),(35,iv s.len),(36,iv i)] [(33,.lst 94 1 (c.map eS))] m h}),
 (11,{A:=Nat×Nat×Nat×Sl×Sl×Sl×da×cw×MH×PH,st:=λ⟨k,i,b,s,u,co,c,l,m,h⟩=>bQ 140 143 [(3,pv b),(7,.at (.lst 33)),(9,sv u),(10,.at (.lst 43)),(34,sv s),(35,iv s.len),(36,iv i),(45,sv co),(46,iv co.len),(47,iv k)] [(33,.lst 94 1 (c.map eS)),(43,.lst 27 3 (l.map VV.enc))] m h}),
 (24,{A:=Nat×Nat×Nat×Sl×Sl×Sl×MH×PH,st:=λ⟨i,a,b,s,t,r,m,h⟩=>bQ 140 143 [(1,sv s),(13,pv a),(14,sv t),(15,pv b),(82,sv r),(83,iv r.len),(84,iv i)] [] m h}),
 (38,{A:=Nat×da×Nat×MH×PH,st:=λ⟨b,c,r,m,h⟩=>bQ 140 143 [(3,pv b),(18,.at (.lst 131)),(118,pv r)] [(131,.lst 94 1 (c.map eS))] m h})] [] [] [200003,200005,200013,200015,200021,400000,410000,0] [] false
def azJ(u:Sl)(b:Nat)(m:MH)(h:PH)(K:cr):Prop:=
  ∃(y:PV),aU m h b 2 y.enc/\CN (λv s p r=>aA (Bu y u=Bu v s) (dO h p v) (cF h s r/\K (AQ (nY r p)) m h))
def azZ(u:Sl)(a b:Nat)(m:MH)(h:PH)(K:cr):Prop:=
  ∃(y:Nat),aU m h a 0 (nI y)/\∃(d:Sl),aA (aU m h b 0 (aY d)) (aU m h a 0 (nI y)) (∃(s:Sl),Dd (λt r c=>aA (cV u d=cV s t) (cF h s r) (aA (Ints h t c) (TL r) (aA (Ap r c) (fU m) (aA (aU m h a 0 (nI y)) (aU m h b 0 (aY d)) (Je m y (λO=>O (iW r c)) (λe=>e.1=iW r c) (K aZ m h) (λk f=>List.Mem (iW r c,f) k->K (AQ f) m h)))))))
def azX(u:Sl)(b:Nat)(m:MH)(h:PH)(K:cr):Prop:=
  xO m h b 0 (λy=>JO (λs c l r=>aA (cV y u=cV s c) (Rows h s l) (aA (oR l) (cF h c r) (l.length<=8000000/\K (CV.val (Value.bool (!(TR l r)))) m h))))
def ayJ(u:Sl)(b:Nat)(m:MH)(h:PH)(K:cr):Prop:=
  xO m h b 0 (λy=>JO (λs c l r=>aA (cV y u=cV s c) (Rows h s l) (aA (oR l) (cF h c r) (l.length<=8000000/\K (AQ (TR l r)) m h))))
def RU(i:Nat)(u d x:Nat)(m:MH)(h:PH)(K:cr):Prop:=
  ∃(y:Sl),aU m h u 18 (aY y)/\∃(c:Sl),aU m h d 0 (aY c)/\eA c.a (↑i:Int) c (λb o e=>aU m h b (bN o i 1) (aY e)/\∃(f:Sl),aA (aU m h x 0 (aY f)) (aU m h d 0 (aY c)) (nA (λg s=>SZ (λt j=>∃(a n:cw),aA (dJ y (cV e f)=dJ g (cV s t)) (jO h g j) (aA (cF h s a) (cF h t n) (aU m h d 0 (aY c)/\K (AQ (decide (mA j a n>=0))) m h))))))
abbrev D6(a:MH)(b:Nat)(c:Value)(d:MH->(Nat×Nat×Nat×MH×PH)->Prop):Prop:=j9 (λx e=>aA (E8 a b (kI x e 0)) (0<x.size) (∀(f:MH),dQ a f b (kW c 1 x.toList) e->∃(g:Nat×Nat×Nat×MH×PH),d f g))
attribute [push_cast] D6
def Ly(u:Sl)(a b:Nat)(m:MH)(h:PH)(K:cr):Prop:=
  mH m h (λz d=>dQ m d z (aY u) 94) (λz d=>∃(I:Nat×Nat×Nat×MH×PH->Prop),S4 (∃(y:Nat),aU d h a 0 (nI y)/\∃(A:Sl),aU d h z 0 (aY A)/\∃(B:Sl),aA (aU d h b 17 (aY B)) (aU d h a 0 (nI y)/\∃(s:Sl),Dd (λt r c=>aA (cV A B=cV s t) (cF h s r) (aA (Ints h t c) (TL r) (aA (Ap r c) (fU d) (aA (aU d h a 0 (nI y)) (GA (aU d h z 0 (aY A)) (aU d h b 17 (aY B)) d y r c (λk=>Jf k r c (aA (aU d h a 0 (nI y)) (aU d h z 0 (aY A)) (aU d h b 17 (aY B)/\mH d h (λf j=>dQ d j f iV 53) (λf j=>D6 j f lI (λC x=>aA (I x) (fA b x.1) (aA (fA z (jH x)) (fA f (kM x)) (bP (bH C (oH x)) h (iT x)))))))) (λk D=>List.Mem (iW r
 c,D) k->aA (aU d h a 0 (nI y)) (aU d h z 0 (aY A)) (aU d h b 17 (aY B)/\mH d h (λf j=>dQ d j f iV 53) (λf j=>D6 j f (hJ D) (λC x=>aA (I x) (fA b x.1) (aA (fA z (jH x)) (fA f (kM x)) (bP (bH C (oH x)) h (iT x)))))))) (aA (aU d h a 0 (nI y)) (aU d h z 0 (aY A)) (aU d h b 17 (aY B)/\mH d h (λf j=>dQ d j f iV 53) (λf j=>GA (aU j h z 0 (aY A)) (aU j h b 17 (aY B)) j y r c (λk=>Jf k r c (D6 j f lI (λC x=>aA (I x) (fA b x.1) (aA (fA z (jH x)) (fA f (kM x)) (bP (bH C (oH x)) h (iT x)))))) (λk D=>List.Mem (iW r c,D) k->D6 j f (hJ D) (λC x=>aA (I x) (fA b x.1) (aA (fA z (jH x)) (fA f
 (kM x)) (bP (bH C (oH x)) h (iT x))))))))))))) (aA (aU d h a 0 (nI y)) (aU d h z 0 (aY A)) (aU d h b 17 (aY B)/\mH d h (λf j=>dQ d j f iV 53) (λf j=>aU j h a 0 (nI y)/\∃(s:Sl),Dd (λt r c=>aA (cV A B=cV s t) (cF h s r) (aA (Ints h t c) (TL r) (aA (Ap r c) (fU j) (aA (aU j h a 0 (nI y)) (aU j h z 0 (aY A)) (aU j h b 17 (aY B)/\∃(k:dy)(O:Value->Prop),aA (wS j y (List.map (fun(p:Value×Sl)=>(p.1,hJ p.2)) k)) (EM O) (aA (O (iW r c)) (∀(e:Value×Sl),List.Mem e k->O e.1) (Jf k r c (D6 j f lI (λC x=>aA (I x) (fA b x.1) (aA (fA z (jH x)) (fA f (kM x)) (bP (bH C (oH x)) h (iT x)))))/\∀(D:Sl),List.Mem (iW r c,D) k
 ->D6 j f (hJ D) (λC x=>aA (I x) (fA b x.1) (aA (fA z (jH x)) (fA f (kM x)) (bP (bH C (oH x)) h (iT x))))))))))))))) (λx=>I x->xO (nH x) (iT x) (kM x) 0 (λy=>bI (λn f=>bI (λF G=>∃(v:vE)(o:cv),JO (λg s r E=>∃(w:Nat),aA (gZ (eV (aH y)) (BZ 127 (GO x.1 (kM x) (jH x)))=gZ (eV (↑n:Int)) (BZ 127 (GO f F G))) ((oH x).1 f=Option.some (kI (Array.mk v.enc) 123 0)) (aA ((oH x).1 F=Option.some (kI (Array.mk (aY g)) 53 0)) ((oH x).1 G=Option.some (kI (Array.mk (aY s)) 94 0)) (aA (jO (iT x) v.order o) (Rows (iT x) g r) (aA (cF (iT x) s E) (r.length=n) (aA (uT o r) (∀(H:cw),List.Mem H r->H.length=w) (E.length=w/\Bi
 (nH x) (iT x) x.1 19 (λA=>K (CV.val (Value.bool (decide ((↑(countP (fun(B:cw)=>decide (mA o B E<0)) r):Int)<A)))) (nH x) (iT x)))))))))))))
abbrev HX(a:ct):Prop:=a.length<=8000000
abbrev GC(a:Sl)(b:Nat)(c:cn)(d:PH)(e:Nat->cn->ct->(cw->Bool)->Sl->cw->Prop)(g:cr)(i:MH):Prop:=∃(x:Sl)(o:Nat)(u:cn)(j:ct)(y:cw->Bool),aA (jA a (BZ b (Array.mk c))=jA x (BZ o (Array.mk u))) (Rows d x j) (aA (HX j) (∀(n:Sl)(f:cw),e o u j y n f) (jJ (λn f=>cZ d f (Rows f n (filter y j)) (g (Dj n) i f))))
noncomputable abbrev Ad(a:Nat×Nat×Sl×da×MH×PH):Sl:=a.2.2.1
noncomputable abbrev JC(a:Nat×Nat×Sl×da×MH×PH):List cn:=nB a.2.2.2.1
noncomputable abbrev CH(a:Nat×Nat×Sl×da×MH×PH):Nat->Nat->Option Value:=a.2.2.2.2.2
noncomputable abbrev Ex(a:Nat×Nat×Sl×da×MH×PH):Nat->Option Obj:=a.2.2.2.2.1
noncomputable abbrev GP(a:Nat×Nat×Nat×Sl×Sl×Sl×da×cw×MH×PH):Sl:=a.2.2.2.2.1
noncomputable abbrev Bv(a:Nat×Nat×Nat×Sl×Sl×Sl×da×cw×MH×PH):Sl:=a.2.2.2.1
noncomputable abbrev Ac(a:Nat×Nat×Nat×Sl×Sl×Sl×da×cw×MH×PH):Sl:=a.2.2.2.2.2.1
noncomputable abbrev GY(a:Nat×Nat×Nat×Sl×Sl×Sl×da×cw×MH×PH):List cn:=nB a.2.2.2.2.2.2.1
noncomputable abbrev Ew(a:Nat×Nat×Nat×Sl×Sl×Sl×da×cw×MH×PH):List cn:=List.map VV.enc a.2.2.2.2.2.2.2.1
noncomputable abbrev Ev(a:Nat×Nat×Nat×Sl×Sl×Sl×da×cw×MH×PH):Nat->Nat->Option Value:=a.2.2.2.2.2.2.2.2.2
noncomputable abbrev JB(a:Nat×Nat×Nat×Sl×Sl×Sl×da×cw×MH×PH):Nat->Option Obj:=a.2.2.2.2.2.2.2.2.1
abbrev Oc(a:Sl->Sl->ct->ct->Prop):Prop:=nA (λx c=>∃(d e:ct),a x c d e)
noncomputable abbrev Ez(a:Nat×Nat×Nat×Sl×Sl×Sl×MH×PH):Sl:=a.2.2.2.1
noncomputable abbrev Ey(a:Nat×Nat×Nat×Sl×Sl×Sl×MH×PH):Sl:=a.2.2.2.2.1
noncomputable abbrev Ae(a:Nat×Nat×Nat×Sl×Sl×Sl×MH×PH):Nat:=a.2.2.1
noncomputable abbrev kC(a:Nat×Nat×Nat×Sl×Sl×Sl×MH×PH):Sl×MH×PH:=a.2.2.2.2.2
noncomputable abbrev pS(a:Nat×Nat×Nat×Sl×Sl×Sl×MH×PH):Nat->Nat->Option Value:=gX (kC a)
noncomputable abbrev CI(a:Nat×da×Nat×MH×PH):Nat:=a.2.2.1
noncomputable abbrev Ag(a:Sl)(b:Int):Int:=ite (aH a<b) (aH a) b
attribute [push_cast] HX GC Ad JC CH Ex GP Bv Ac GY Ew Ev JB Oc Ez Ey Ae kC pS CI Ag
def ON(v:vE)(M s2:Sl)(m:MH)(h:PH)(K:cr):Prop:=
  mH m h (λb m1=>dQ m m1 b v.enc 123) (λb m1=>mH m1 h (λV j=>dQ m1 j V (aY s2) 53) (λV j=>Bi j h b 0 (λy=>cX (y==2) (GC M 113 (Bw b) h (λg c l p u r=>List.Mem r l->cF h u r->BD g 4 (dJ u (List.map CV.val c)) j h (λx z f=>aA (x=uO (p r)) (z=j) (f=h))) K j) (y==3) (aA (bV 0) (bV (aH M)) (aA (uI M 24) (vB (aH M)) (∃(I:Nat×Nat×Sl×da×MH×PH->Prop)(z:Nat×Nat×Sl×da×MH×PH->Nat),(∃(x:Nat×Nat×Sl×da×MH×PH),aA (I x) (fA b x.2.1) (aA (eL 33) (bS M (Ad x)) (aA (cK M (Ad x)) (bB x.1) (aA (Eb (JC x)) (bH j x.2.2.2.2) (bL h (CH x))))))/\∀(x:Nat×Nat×Sl×da×MH×PH),I x->aX (↑x.1:Int) (aH (Ad x)) (eA (Ad
 x).a (↑x.1:Int) (Ad x) (λA o H=>aU (Ex x) (CH x) A (bN o x.1 1) (aY H)/\∃(B:Sl),aA (aU (Ex x) (CH x) x.2.1 15 (aY B)) (bV (aH B)) (aA (Ah B) (uI B 32) (vB (aH B)/\xO (Ex x) (CH x) x.2.1 15 (λJ=>∃(I1:Nat×Nat×Nat×Sl×Sl×Sl×da×cw×MH×PH->Prop)(L:Nat×Nat×Nat×Sl×Sl×Sl×da×cw×MH×PH->Nat),(∃(d:Nat×Nat×Nat×Sl×Sl×Sl×da×cw×MH×PH),aA (I1 d) (fA x.2.1 d.2.2.1) (aA (eL 33) (bS H (GP d)) (aA (eL 43) (bS (Ad x) (Bv d)) (aA (cK (Ad x) (Bv d)) (cO x.1 d.2.1) (aA (bS J (Ac d)) (cK J (Ac d)) (aA (bB d.1) (vQ (JC x) (GY d)) (bO (Option.some (Own.lst 27 3 (replicate (aH B).toNat Ab))
 =Option.some (Own.lst 27 3 (Ew d))) (bH (Ex x) d.2.2.2.2.2.2.2.2) (CH x=Ev d))))))))/\∀(d:Nat×Nat×Nat×Sl×Sl×Sl×da×cw×MH×PH),I1 d->aX (↑d.1:Int) (aH (Ac d)) (bI (λR o1=>aA (bK (Ac d).a R o1) (0<=(↑d.1:Int)) ((↑d.1:Int)<aH (Ac d)/\∃(C:Int),aU (JB d) (Ev d) R (bN o1 d.1 1) (bG C)/\bI (λb4 o2=>aA (bK (GP d).a b4 o2) (0<=C) (C<aH (GP d)/\∃(y5:VV),EA (aU (JB d) (Ev d) b4 (fT o2 C 3) y5.enc) 0 (↑d.1:Int) (Ew d) (λe=>aA (mI (Ew d) (↑d.1:Int) e) (3<=e.length) (∃(n:Nat×Nat×Nat×Sl×Sl×Sl×da×cw×MH×PH),aA (I1 n) (L n<L d) (aA (fA d.2.2.1 n.2.2.1) (eL 33) (aA (bS (GP d) (GP n)) (eL 43) (aA
 (bS (Bv d) (Bv n)) (cK (Bv d) (Bv n)) (aA (cO d.2.1 n.2.1) (bS (Ac d) (Ac n)) (aA (cK (Ac d) (Ac n)) (bD (gG (bF d.1 1)) n.1) (aA (vQ (GY d) (GY n)) (Option.some (Own.lst 27 3 (List.set (Ew d) (↑d.1:Int).toNat (aL (eN y5.kind) (eN y5.int) (kW (Value.string y5.text) 3 e))))=Option.some (Own.lst 27 3 (Ew n))) (aA (bH (JB d) n.2.2.2.2.2.2.2.2) (Ev d=Ev n) True)))))))))))))) (bU (Ev d) 3 (Ew d) (λs f=>mV (GY d) 24 (∃(n:Nat×Nat×Sl×da×MH×PH),aA (I n) (z n<z x) (aA (fA d.2.2.1 n.2.1) (eL 33) (aA (bS (Bv d) (Ad n)) (cK (Bv d) (Ad n)) (aA (bD (gG (bF d.2.1 1)) n.1) (Option.some (Own.lst 94 1 (fK (GY d) (aY s)))=Option.some
 (Own.lst 94 1 (JC n))) (bP (bH (JB d) n.2.2.2.2) f (CH n))))))))))))) (bU (CH x) 1 (JC x) (λs f=>∃(D:Sl)(u:da)(l:ct),aA (rB s=rB D) (oP (Ex x) f D 1 (nB u)) (aA (jC f u l) (l.length<=502633886983) (jJ (λQ F=>cZ f F (Rows F Q (DO l)) (K (Dj Q) (Ex x) F))))))))) (cX (y==4) (∃(H:vE),aU j h b 0 H.enc/\∃(B:Sl),aU j h V 0 (aY B)/\∃(P:vE)(o:cu),Oc (λs D l G=>aA (cE H.enc (cV M B)=cE P.enc (cV s D)) (iD h P.on o) (aA (Rows h s l) (Rows h D G) (aA (fU j) (bsZ o [l,G]) (l.length*G.length<=8000000/\jJ (λQ f=>cZ h f (Rows f Q (flatMap (pT o G) l)) (K (Dj Q) j f))))))) (y==5) (xO j h b 16 (λH=>JI H h
 (λo=>∀(a:Sl),jJ (λA f=>cZ h f (Ints f a (oK o)) (Ints f A (iX o)->mH j f (λR z=>dQ j z R iV 33) (λR z=>j9 (λc E=>aA (E8 z R (kI c E 0)) (0<c.size) (∀(L:MH),dQ z L R (kW (hJ a) 1 c.toList) E->Ct L f (λb4 S=>mH S f (λZ O=>dQ S O Z (lD (Value.map Option.none)) 169) (λZ O=>j9 (λc1 E1=>aA (E8 O Z (kI c1 E1 0)) (0<c1.size) (∀(m7:MH),dQ O m7 Z (kW (Value.map (Option.some b4)) 1 c1.toList) E1->xO m7 f V 0 (λB=>∃(I:Nat×Nat×Nat×Sl×Sl×Sl×MH×PH->Prop)(m8:Nat×Nat×Nat×Sl×Sl×Sl×MH×PH->Nat),(∃(x:Nat×Nat×Nat×Sl×Sl×Sl×MH×PH),aA (I x) (bS M (Ez x)) (aA (fA R x.2.1) (bS A (Ey x)) (aA (fA Z (Ae x)) (j7 B (kC x))
 (aA (cK B (kC x).1) (bB x.1) (bP (bH m7 (kC x).2) f (pS x))))))/\∀(x:Nat×Nat×Nat×Sl×Sl×Sl×MH×PH),I x->aX (↑x.1:Int) (aH (kC x).1) (eA (kC x).1.a (↑x.1:Int) (kC x).1 (λb6 o1 J=>aU (fB (kC x)) (pS x) b6 (bN o1 x.1 1) (aY J)/\∃(C:Nat),aA (aU (fB (kC x)) (pS x) (Ae x) 0 (nI C)) (aU (fB (kC x)) (pS x) (Ae x) 0 (nI C)) (∃(s:Sl),Dd (λt r W=>aA (cV J (Ey x)=cV s t) (cF (pS x) s r) (aA (Ints (pS x) t W) (TL r) (aA (Ap r W) (fU (fB (kC x))) (aU (fB (kC x)) (pS x) (Ae x) 0 (nI C)/\GB (fB (kC x)) C r W (λk=>∀(U:MH),qV (fB (kC x)) U C->wV U C (k++Db (iW r W) AX)->∃(d:Nat×Nat
 ×Nat×Sl×Sl×Sl×MH×PH),aA (I d) (m8 d<m8 x) (aA (bS (Ez x) (Ez d)) (fA x.2.1 d.2.1) (aA (bS (Ey x) (Ey d)) (fA (Ae x) (Ae d)) (aA (j7 (kC x).1 (kC d)) (cK (kC x).1 (kC d).1) (bO (bD (gG (bF x.1 1)) d.1) (bH U (kC d).2) (pS x=pS d)))))) (λk l P G=>k=l++(iW r W,P)::G->∀(U:MH),qV (fB (kC x)) U C->wV U C (l++(iW r W,AX)::G)->∃(d:Nat×Nat×Nat×Sl×Sl×Sl×MH×PH),aA (I d) (m8 d<m8 x) (aA (bS (Ez x) (Ez d)) (fA x.2.1 d.2.1) (aA (bS (Ey x) (Ey d)) (fA (Ae x) (Ae d)) (aA (j7 (kC x).1 (kC d)) (cK (kC x).1 (kC d).1) (bO (bD (gG (bF x.1 1)) d.1) (bH U (kC d).2) (pS x=pS
 d))))))))))))) (GC (Ez x) 119 (rL (vQp (Ae x) 0) (vQp x.2.1 0)) (pS x) (λg W l p u r=>List.Mem r l->cF (pS x) u r->BD g 4 (dJ u (List.map CV.val W)) (fB (kC x)) (pS x) (λd U F=>aA (d=uO (p r)) (bH U (kC x).2) (F=pS x))) K (fB (kC x)))))))))))))))) (cX (y==6) (xO j h V 0 (λH=>Ng h M H (λs f D l=>∃(G:ct),aA (rB s=rB D) (Leaves f D [l,G]) (aA (HX l) (HX G) (jJ (λQ F=>cZ f F (Rows F Q (l++G)) (∃(s5:Sl)(u:da)(T:ct),aA (rB Q=rB s5) (oP j F s5 1 (nB u)) (aA (jC F u T) (T.length<=502633886983) (jJ (λs6 X=>cZ F X (Rows X s6 (DO T)) (K (Dj s6) j X))))))))))) (y==7) (GC M 121 (Bw V) h (λg c l p u r=>
 List.Mem r l->cF h u r->BD g 4 (dJ u (List.map CV.val c)) j h (λx z f=>aA (x=uO (p r)) (z=j) (f=h))) K j) (cX (y==8) (GC M 123 (Bw V) h (λg c l p u r=>List.Mem r l->cF h u r->BD g 4 (dJ u (List.map CV.val c)) j h (λx z f=>aA (x=uO (p r)) (z=j) (f=h))) K j) (y==9) (∃(H:vE),aU j h b 0 H.enc/\∃(P:vE),Oe (λs g o=>∃(l:ct)(w:Nat),aA (fZ (fM H.enc) M=fZ (fM P.enc) s) (Ints h P.group g) (aA (jO h P.order o) (Rows h s l) (aA (iJ w l) (jP w g) (fU j/\∀(B:Nat),iB (λz f=>∀(k:dh)(g1:ByteArray->ct),j B=Option.none->(∀(A:Nat),wB (A=B)->z A=j A)->cZ h f (wJ pG z f B g o l k g1) (∃(k1:db),kA (wV z
 B k1) (λr=>∀(L:MH),mL z f r->qV z L r->mQ L B r k1 k1->∃(I:Nat×da×Nat×MH×PH->Prop)(S:Nat×da×Nat×MH×PH->Nat),(∃(x:Nat×da×Nat×MH×PH),aA (I x) (fA b x.1) (aA (eL 131) (fA r (CI x)) (bO (Eb (nB x.2.1)) (bH L x.2.2.2) (f=x.2.2.2.2))))/\∀(x:Nat×da×Nat×MH×PH),I x->Og (λA k2 G=>aA (mQ x.2.2.2.1 A (CI x) k2 G) (G=[]->bU x.2.2.2.2 1 (nB x.2.1) (λD F=>∃(Q:Sl)(u:da)(T:ct),aA (rB D=rB Q) (oP x.2.2.2.1 F Q 1 (nB u)) (aA (jC F u T) (T.length<=502633886983) (jJ (λs5 X=>cZ F X (Rows X s5 (DO T)) (K (Dj s5) x.2.2.2.1 X)))))) (∀(T:db)(d:Value×Value)(l3:db),G=T++d::l3->∀(O:MH),
 qV x.2.2.2.1 O (CI x)->E7 O A (CI x) k2 (T++l3) d->Og (λR k3 l4=>∃(n:Value×Value),E7 O R (CI x) k3 l4 n/\∃(D:Sl),n.2=hJ D/\∃(J:Int),aA (aU O x.2.2.2.2 x.1 19 (bG J)) (0<=Ag D J) (Ag D J<=(↑D.cap:Int)/\∃(C:List cn),jI 1 C (oP O x.2.2.2.2 (Sl.mk D.a (Ag D J).toNat D.cap) 1 C) (nU (nB x.2.1) C 24) (nP (nB x.2.1) C) (∃(Y:Nat×da×Nat×MH×PH),aA (I Y) (S Y<S x) (aA (fA x.1 Y.1) (eL 131) (aA (fA (CI x) (CI Y)) (vQ (nB x.2.1++C) (nB Y.2.1)) (aA (bH O Y.2.2.2) (x.2.2.2.2=Y.2.2.2.2) True)))))))))))))))) (∃(H:vE),aU j h b 0 H.enc/\∃(B:Sl),aU j h V 0 (aY B)/\∃(P:vE),Oe (λs g o=>∃(l:ct)(w:Nat),aA (fZ
 (fM H.enc) B=fZ (fM P.enc) s) (Ints h P.group g) (aA (jO h P.order o) (Rows h s l) (aA (iJ w l) (jP w g) (fU j/\∀(J:Nat),iB (λz f=>∀(k:dh)(g1:ByteArray->ct),j J=Option.none->(∀(A:Nat),wB (A=J)->z A=j A)->cZ h f (wJ pG z f J g o l k g1) (mH z f (λA L=>dQ z L A (lD (Value.map Option.none)) 173) (λA L=>j9 (λc E=>aA (E8 L A (kI c E 0)) (0<c.size) (∀(S:MH),dQ L S A (kW (Value.map (Option.some J)) 1 c.toList) E->GC M 125 (rL (vQp A 0) (vQp b 0)) f (λg2 c1 G p u r=>List.Mem r G->cF f u r->BD g2 4 (dJ u (List.map CV.val c1)) S f (λx O F=>aA (x=uO (p r)) (O=S) (F=f))) K S))))))))))))))))
theorem YP:cm 113 Zm:=by
 refine iH func113 ?_;rintro c m h K ⟨u,b,v,w,r,rfl,d,e,f,g⟩;refine⟨tR [(114,blJ)] [] [] [] [0] [] false,rfl,aE YO aG,azJ u b m h K,ax,?_⟩;exact⟨v.where_,.of_m d rfl,v.where_,u,w,r,rfl,e,f,g⟩
theorem YL:cm 119 bgJ:=by
 refine iH func119 ?_;rintro j m h K ⟨u,e,n,y,s,r,c,ks,rfl,f,g,o,x,z,A,d,B,C⟩;refine⟨tR [(118,Sr)] [] [] [] [0] [] false,rfl,aE B7 aG,azZ u e n m h K,ax,?_⟩;exact⟨y,.of_m f rfl,s,.of_m g rfl,.of_m f rfl,u,s,r,c,rfl,z,x,A,d,B,.of_m f rfl,.of_m g rfl,o.get C⟩
theorem YJ:cm 121 (blX false):=by
 refine iH func121 ?_;rintro e m h K ⟨u,b,s,l,r,rfl,f,g,c,j,n,d⟩;refine⟨tR [(122,boQ)] [] [] [] [0] [] false,rfl,aE O9 aG,azX u b m h K,ax,?_⟩;exact⟨s,.of_m f rfl,s,u,l,r,rfl,g,c,j,n,by rw[show(TR l r==false)= !TR l r by grind]at d;exact d⟩
theorem YI:cm 123 (blX true):=by
 refine iH func123 ?_;rintro e m h K ⟨u,b,s,l,r,rfl,f,g,c,j,n,d⟩;refine⟨tR [(122,boQ)] [] [] [] [0] [] false,rfl,aE O9 aG,ayJ u b m h K,ax,?_⟩;exact⟨s,.of_m f rfl,s,u,l,r,rfl,g,c,j,n,by rw[show(TR l r==true)=TR l r by grind]at d;exact d⟩
theorem YF:cm 127 bpQ:=by
 refine iH func127 ?_;rintro j m h K ⟨i,n,e,o,v,od,g,s,rs,r,x,rfl,y,z,A,B,c,C,f,D⟩;refine⟨tR [(64,PG)] [] [] [] [0] [] false,rfl,aE QL aG,RU i n e o m h K,ax,?_⟩;dsimp only[RU,push_cast];have J:=bZ.slen c;have L:=(bm f);obtain⟨E,F,u,G,H,I⟩:=bZ.at c f;have d:aU m h e 0 [hJ g]:=.of_m z rfl;exact⟨v.order,.of_m y rfl,g,d,E,F,G,aD,aD,u,.imm H,s,.of_m A rfl,d,v.order,u,s,od,x,r,rfl,B,I,C,d,D⟩
theorem VL:cm 126 Wh:=WB YF λy m h K⟨n,j,o,u,v,od,g,s,rs,r,z,e,A,B,C,D,c,E,F,d,G,f,H⟩=>⟨n,j,o,u,z,od,rs,r,e,by have:=c.len;omega,F,d,G,f,λi x I=>⟨i,j,o,u,v,od,g,s,rs,r,x,rfl,A,B,C,D,c,E,I,rfl,rfl,rfl⟩,H⟩
structure bPZ(m:MH)(h:PH)(v:vE)(bq be:Nat)(e:Sl)(Gk:ct)(c:Nat×Nat×Nat×MH×PH):Prop where
 c1:c.1=bq
 c2:c.2.1=be
 c3:c.2.2.2.2=h
 sub:Sub m c.2.2.2.1
 q_:c.2.2.2.1 bq=some (.cells ⟨vE.enc v⟩ 123 (0,0))
 e_:c.2.2.2.1 be=some (.cells #[Sl.val e] 94 (0,0))
 g_:∃s,c.2.2.2.1 c.2.2.1=some (.cells #[Sl.val s] 53 (0,0))/\Rows h s Gk
theorem YG:cm 125 Zi:=by
 refine W8 func125 ?_;rintro a9 m h K ⟨u,ba,L,v,y,gr,od,l,kk,G,r,w,rfl,W,F,X,J,M,Y,a6,hu,hr,Z,hT,hK⟩;refine⟨a9X,rfl,aE B7 (aE VL aG),Ly u ba L m h (iI h K),ax,?_⟩;show Ly u ba L m h (iI h K);dsimp only[Ly,push_cast];intro S C a7 a';obtain⟨D,n1⟩:=DX (Sub.refl m) a7 a';have H:C S=some (.cells #[Sl.val u] 94 (0,0)):=a'.at_;have a0:jP r.length gr:=bg
 have g1:=X.keep (λo e=>D _ o e) (.refl _)
 have a1:∀{g j},mL C h g->iP C j g (.cells #[lI] 53 (0,0))->∀z o,C z=some o->j z=some o:=fun{g j} f d z o A=>by
  have:z≠g:=λT=>by rw[T,f.m_]at A;cases A
  rw[d.other z this];exact A
 have fin:∀s,Fk kk (pG (pick r gr)) s->∀g j,mL C h g->iP C j g (.cells #[lI] 53 (0,0))->∃(cs:Array Value)(E:TypeId),E8 j g (.cells cs E (0,0))/\0<cs.size/\∀m9,iP j m9 g (.cells (Array.mk (hJ s::cs.toList.drop 1)) E (0,0))->
  ∃c:Nat×Nat×Nat×MH×PH,bPZ m h v L S u (G (pG (pick r gr))) c/\sQo L 0=sQo c.1 0/\sQo S 0=sQo c.2.1 0/\sQo g 0=sQo c.2.2.1 0/\m9=c.2.2.2.1/\h=c.2.2.2.2/\True:=λs x g j f d=>by
  refine⟨_,_,⟨d.at_⟩,ay,λm9 a2=>⟨(L,S,g,m9,h),?_,MT⟩⟩
  have O:∀z o,C z=some o->m9 z=some o:=λz o A=>by
   have:z≠g:=λT=>by rw[T,f.m_]at A;cases A
   rw[a2.other z this,d.other z this];exact A
  exact⟨rfl,rfl,rfl,λz o A=>O z o (D z o A),O _ _ (D _ _ F),O _ _ H,s,a2.at_,X.at_ x⟩
 have P:aU C h ba 0 [Value.map (some y)]:=.of_m (D _ _ W) rfl;have U:aU C h S 0 [hJ u]:=.of_m H rfl;have V:aU C h L 17 [hJ v.group]:=.of_m (D _ _ F) rfl;refine⟨bPZ m h v L S u (G (pG (pick r gr))),⟨y,P,u,U,v.group,V,⟨P,u,v.group,r,gr,rfl,hu,Y,hr,a0,hT.sub D,P,⟨U,V,g1.get2 (λx=>⟨P,U,V,fin _ x⟩) (λs x=>⟨P,U,V,fin _ x⟩)⟩,P,U,V,λg j f d=>?_⟩,P,U,V,λg j f d=>?_⟩,?_⟩
 .have I:=a1 f d;exact⟨.of_m (I _ _ H) rfl,.of_m (I _ _ (D _ _ F)) rfl,(g1.keep (I y) (.refl _)).get2 (λx=>fin _ x g j f d) (λs x=>fin _ x g j f d)⟩
 .have I:=a1 f d;have a3:aU j h ba 0 [Value.map (some y)]:=.of_m (I _ _ (D _ _ W)) rfl;exact⟨a3,u,v.group,r,gr,rfl,hu,Y,hr,a0,(hT.sub D).sub I,a3,.of_m (I _ _ H) rfl,.of_m (I _ _ (D _ _ F)) rfl,(g1.keep (I y) (.refl _)).get2 (λx=>fin _ x g j f d) (λs x=>fin _ x g j f d)⟩
 .rintro⟨c1,c2,g,mz,hz⟩ ⟨e1,A,T,a4,Q,a5,s,R,B⟩;dsimp only at e1 A T a4 Q a5 R⊢
  subst e1 A T;have n:=Ms JW (od:=od) J M hr Z;rw[<-(X.perm _).countP_eq]at n;refine⟨s,.of_m R rfl,s.len,c1,g,c2,v,od,s,u,G (pG (pick r gr)),r,w,rfl,Q,R,a5,a6,B,hu,B.slen.symm,X.sort _,λz a8=>?_,Z,v.limit,.of_m Q rfl,?_⟩
  .have:=(X.perm _).mem_iff.1 (show z∈_ from a8);exact J.wid z (mem_filter.1 this).1
  .rw[n];exact iI.keep a4 (.refl _) hK
theorem ciZ(x:Value):Vc.valOf Tryz.prog 4 [x]=x:=ax
theorem Kk{g:Nat}{S:Vc.Spec}{u:Sl}{c:cn}{b:Bool}(d:cm g S)(e:∀K:CV->MH->PH->Prop,K (cB b) m h->S (cS u::c.map .val) m h K):FAt Tryz.prog g 4 (cS u::c.map .val) m h λx m' h'=>x=[.bool b]/\m'=m/\h'=h:=
 Sound.fat (vs:=Sl.val u::c) d (e _ ⟨[.bool b],(congrArg CV.val (ciZ _)).symm,rfl,rfl,rfl⟩)
structure StM(m m2:MH)(b b2:Nat)(v:vE)(s2:Sl):Prop where
 sub:Sub m m2
 b_:m2 b=some (.cells ⟨vE.enc v⟩ 123 (0,0))
 s_:m2 b2=some (.cells #[Sl.val s2] 53 (0,0))
 tab:fU m2
theorem asJ:cm 68 Wi:=by
 refine W8 func68 ?_;rintro k' m h K ⟨v,t,R,S,n,B,rfl,U,G,I,hT,h2,g8,P,W,b0,J⟩;refine⟨bzZ,rfl,aE YQ (aE YN (aE YM (aE Pa (aE B7 (aE YK (aE YH aG)))))),ON v R S m h (iI h K),ax,?_⟩;show ON v R S m h (iI h K);dsimp only[ON,push_cast];obtain⟨op,ta,w,co,on,gr,od,li,lf,rt⟩:=t;dsimp only[Step.query]at P J h2 g8;intro b m1 d1 a5 b2 m2 b1 a6
 have M:StM m m2 b b2 v S:=by
  obtain⟨R,n1⟩:=DX (Sub.refl m) d1 a5;obtain⟨st,n2⟩:=DX R b1 a6;have g9:b≠b2:=λe=>by have:=b1.m_;rw[<-e,a5.at_]at this;cases this
  exact⟨st,by rw[a6.other b g9];exact a5.at_,a6.at_,hT.sub st⟩
 clear d1 a5 b1 a6;have d2:=bZ.slen G;have d3:=bZ.slen I;have e0:v.op=op:=U.op_;have go:∀k,(v.op==k)=true->op=k:=λk e=>e0.symm.trans (eq_of_beq e);have b6:∀{m' h'},m' b=some (.cells ⟨vE.enc v⟩ 123 (0,0))->aU m' h' b 0 (vE.enc v):=λh=>.of_m h (take_length ..);refine⟨v.op,.of_m M.b_ rfl,aC (λe=>?_) (λn2=>aC (λe=>?_) (λn3=>aC (λe=>?_) (λn4=>aC (λe=>?_) (λn5=>aC (λe=>?_) (λn6=>aC (λe=>?_) (λn7=>aC (λe=>?_) (λn8=>aC (λe=>?_) (λn9=>?_))))))))⟩
 .obtain rfl:=go _ e;exact⟨R,113,[.pointer (some ⟨b,0,none⟩)],n,λr=>nY r w,rfl,G,W,λu r j X=>Kk YP λK J=>⟨u,b,v,w,r,rfl,M.b_,U.where_,X,J⟩,λL h' le j=>iI.sub M.sub le (J L h' le j)⟩
 .obtain rfl:=go _ e;obtain⟨_,k0,wd,d,C⟩:=(show aMQ (.mk 3 ta w co on gr od li []) [n,B]from P)
  have d:iJ wd n:=d;have hc:Ints h v.columns co:=U.columns_;have h4:=hc.slen;refine⟨aD,aD,aD,aD,λx=>x.1<=n.length/\x.2.1=b/\x.2.2.1=R/\x.2.2.2.2.1=m2/\PH.le h x.2.2.2.2.2/\jC x.2.2.2.2.2 x.2.2.2.1 ((n.take x.1).map λr=>pick r co),λx=>n.length-x.1,⟨(0,b,R,[],m2,h),⟨Nat.zero_le _,rfl,rfl,rfl,.refl _,bk (jC.nil h)⟩,MT⟩,?_⟩;rintro⟨i,b',t1,us,mx,Y⟩ ⟨hi,e1,A,O,le,j⟩;dsimp only at hi e1 A O le j⊢
  subst e1 A O;refine aF (λb7=>?_) (λd4=>?_)
  .obtain⟨r,D⟩:=eU d2 b7;obtain⟨bb,o,u,ea,rd,X⟩:=bZ.at G D;have k3:=d.wid r (br D);have d5:=cF.mono X le;have k4:=bZ.slen d5;have k5:(pick r co).length=co.length:=by simp[pick]
   have d6:=j.len;rw[length_map,length_take]at d6;refine⟨bb,o,ea,aD,aD,u,.imm (rd.mono le),v.columns,.of_m M.b_ rfl,aD,aD,aD,aD,v.columns,.of_m M.b_ rfl,λz=>z.1<=co.length/\z.2.1=i/\z.2.2.1=b'/\z.2.2.2.1=t1/\z.2.2.2.2.1=u/\z.2.2.2.2.2.1=v.columns/\z.2.2.2.2.2.2.1=us/\z.2.2.2.2.2.2.2.1=(pick r co).take z.1++replicate (co.length-z.1) zeroV/\z.2.2.2.2.2.2.2.2.1=mx/\z.2.2.2.2.2.2.2.2.2=Y,λz=>co.length-z.1,⟨(0,i,b',t1,u,v.columns,us,replicate co.length zeroV,mx,Y),⟨Nat.zero_le _,rfl,rfl,rfl,rfl,rfl,rfl,ay,rfl,rfl⟩,?_⟩,?_⟩
   .dsimp only;rw[map_replicate,show((v.columns.len:Int)).toNat=co.length by omega];exact MT
   .rintro⟨k,i',d7,d8,u',cc,d9,cells,my,hy⟩ ⟨hk,e1,A,O,e4,e5,e6,e7,e8,e9⟩;dsimp only at hk e1 A O e4 e5 e6 e7 e8 e9⊢
    subst e1 A O e4 e5 e6 e7 e8 e9;refine aF (λe'=>?_) (λd4=>?_)
    .obtain⟨c,f'⟩:=eU h4 e';obtain⟨b4,o4,e4,k6⟩:=(hc.mono le).at f';obtain⟨y,h7,h8,h0,h1⟩:=SS (r:=r) bg f';obtain⟨b5,o5,y',e5,h9,rfl⟩:=bZ.at d5 h7;have f0:k<co.length:=by omega
     have f1:=aJJ h8 f0;refine⟨b4,o4,e4,aD,aD,c,.imm bg,b5,o5,e5,h0,aD,y,.imm h9,aD,bf,_,ajZ f0,by simp[VV.enc],(k+1,i',d7,d8,u',v.columns,d9,(pick r co).take (k+1)++replicate (co.length-(k+1)) zeroV,my,hy),⟨aD,rfl,rfl,rfl,rfl,rfl,rfl,rfl,rfl,rfl⟩,aD,?_⟩;dsimp only;refine⟨rfl,rfl,rfl,rfl,rfl,rfl,rfl,rfl,rfl,by rw[kR aD],rfl,?_,rfl,rfl,trivial⟩;rw[<-f1,map_set];rfl
    .have:k=co.length:=by omega
     subst this;rw[bu aD,Nat.sub_self,replicate_zero,append_nil]
     refineλs3 h3 E T=>⟨bg,bg,(i'+1,d7,d8,d9++[s3],my,h3),⟨aD,rfl,rfl,rfl,le.trans E,?_⟩,aD,?_⟩
     .dsimp only;rw[cd,D,bw];exact(j.mono E).snoc ⟨⟨_,T,rfl,λi x Y=>⟨x,Y,rfl⟩⟩,bg⟩
     .dsimp only;rw[kR aD,bw];exact MT
  .rw[bu aD]at j
   exactλs3 h3 E T=>⟨s3,us,_,rfl,.imm T,j.mono E,bf,λL h' a' b8=>iI.sub M.sub (le.trans (E.trans a')) (J L h' (le.trans (E.trans a')) b8)⟩
 .obtain rfl:=go _ e;obtain⟨h5,h6⟩:=(show aMJ (.mk 4 ta w co on gr od li []) [n,B]from P)
  exact⟨v,b6 M.b_,S,.of_m M.s_ rfl,v,on,R,S,n,B,rfl,U.on_,G,I,M.tab,h5,h6,λL h' le j=>iI.sub M.sub le (J L h' le j)⟩
 .obtain rfl:=go _ e;obtain⟨_,wa,wb,d,f,f2,b9⟩:=(show aLX (.mk 5 ta w co on gr od li []) [n,B]from P)
  have d:iJ wa n:=d;have f:iJ wb B:=f;refine⟨v.on,.of_m M.b_ rfl,v.on,on,rfl,U.on_,λsa sb h1 F i0 i1 b3 m3 f3 c'=>⟨_,_,⟨c'.at_⟩,ay,λm4 a0 y m5 i2 Z b4 m6 f4 c0=>⟨_,_,⟨c0.at_⟩,ay,λm7 c5=>?_⟩⟩⟩;obtain⟨k7,n3⟩:=DX M.sub f3 c'
  have Q:∀{z o},m2 z=some o->m4 z=some o:=fun{z o} A=>by
   have:z≠b3:=λO=>by rw[O,f3.m_]at A;cases A
   rw[a0.other z this,c'.other z this];exact A
  have c6:∀{z o},m4 z=some o->m7 z=some o/\z≠y:=fun{z o} A=>by
   have O:z≠y:=λO=>by rw[O,i2.m_]at A;cases A
   have e5:m5 z=some o:=by rw[Z.other z O];exact A
   have e4:z≠b4:=λe4=>by rw[e4,f4.m_]at e5;cases e5
   exact⟨by rw[c5.other z e4,c0.other z e4];exact e5,O⟩
  have y4:y≠b4:=λe=>by have:=f4.m_;rw[<-e,Z.at_]at this;cases this
  have i3:m7 y=some (.map #[] 0):=by rw[c5.other y y4,c0.other y y4];exact Z.at_
  have i4:m7 b2=some (.cells #[Sl.val S] 53 (0,0)):=(c6 (Q M.s_)).1;have f5:=c6 a0.at_;have V:∀{z o},m z=some o->m7 z=some o/\z≠y:=fun{z o} e=>c6 (Q (M.sub z o e));have G:=bZ.mono G F (λ_ _ h=>cF.mono h F);have I:=bZ.mono I F (λ_ _ h=>cF.mono h F);refine⟨S,.of_m i4 rfl,λz=>z.1<=B.length/\z.2.1=b3/\z.2.2.1=b4/\z.2.2.2.1=R/\z.2.2.2.2.1=sb/\z.2.2.2.2.2.1=S/\z.2.2.2.2.2.2.2=h1/\(∀x o,m7 x=some o->x≠y->z.2.2.2.2.2.2.1 x=some o)/\Dk z.2.2.2.2.2.2.1 y ((B.take z.1).map λr=>pG (pick r (iX on))),λz=>B.length-z.1,⟨(0,b3,b4,R,sb,S,m7,h1),⟨Nat.zero_le _,rfl,rfl,rfl,rfl,rfl,rfl,λ_ _ e _=>e,bk (Dk.new i3)⟩,MT⟩,?_⟩;rintro⟨i,c3,c4,t1,tb,t2,mx,Y⟩ ⟨hi,e1,A,O,e4,e5,e6,a1,a7⟩;dsimp only at hi e1 A O e4 e5 e6 a1 a7⊢
  subst e1 A O e4 e5 e6;have T7:fU mx:=hT.sub λz o e=>a1 z o (V e).1 (V e).2;have f6:mx c4=some (.cells #[.map (some y)] 169 (0,0)):=a1 c4 _ c5.at_ (Ne.symm y4);refine aF (λb7=>?_) (λd4=>?_)
  .obtain⟨r,D⟩:=eU d3 b7;obtain⟨bb,o,u,ea,rd,X⟩:=bZ.at I D;have f7:=br D;have r4:aU mx Y c4 0 [Value.map (some y)]:=.of_m f6 rfl;rw[kR aD];refine⟨bb,o,ea,aD,aD,u,.imm rd,y,r4,r4,u,tb,r,iX on,rfl,X,i1,f.row r f7,by rw[f.wid r f7];exact b9,T7,r4,a7.put (λm' i5 f8=>⟨(i+1,c3,c4,t1,tb,t2,m',Y),⟨aD,rfl,rfl,rfl,rfl,rfl,rfl,λz o A c7=>by dsimp only;rw[i5.other z c7];grind,?_⟩,aD,MT⟩)⟩;obtain⟨kk,h5,h6⟩:=f8.ex;exact⟨kk,h5,λq=>by rw[h6,cd,D];grind⟩
  .rw[bu aD]at a7;refine⟨t1,119,[.pointer (some ⟨c4,0,none⟩),.pointer (some ⟨c3,0,none⟩)],n,λx=>B.any λy=>agree on x y,rfl,G,W,λu r j X=>Kk YL λK J=>⟨u,c4,c3,y,sa,r,oK on,_,rfl,f6,a1 c3 _ f5.1 f5.2,a7,i0,X,d.row r j,by rw[d.wid r j];exact f2,T7,λt U=>?_⟩,λL h' le j=>iI.sub (λz o e=>a1 z o (V e).1 (V e).2) (F.trans le) (J L h' (F.trans le) j)⟩;have f9:jP r.length (oK on):=by rw[d.wid r j];exact f2
   have h1:(pG (pick r (oK on))∈B.map λz=>pG (pick z (iX on)))↔(B.any λy=>agree on r y)=true:=by
    rw[mem_map,any_eq_true];constructor
    .rintro⟨z,hz,A⟩;exact⟨z,hz,(K3 JW (d.row r j) (f.row z hz) f9 (by rw[f.wid z hz];exact b9)).1 A.symm⟩
    .rintro⟨z,hz,A⟩;exact⟨z,hz,((K3 JW (d.row r j) (f.row z hz) f9 (by rw[f.wid z hz];exact b9)).2 A).symm⟩
   grind
 .obtain rfl:=go _ e;refine⟨S,.of_m M.s_ rfl,λs h1 F D=>⟨s,n,B,rfl,⟨⟨[R,S],D,rfl,λi x Y=>?_⟩,ay⟩,W,b0,λsl h2 H j=>?_⟩⟩
  .match i,Y with
   |0,Y=>cases Y;exact⟨R,rfl,bZ.mono G F (λ_ _ h=>cF.mono h F)⟩
   |1,Y=>cases Y;exact⟨S,rfl,bZ.mono I F (λ_ _ h=>cF.mono h F)⟩
  .obtain⟨⟨us,D,g',i8⟩,_⟩:=j;exact⟨sl,us,n++B,rfl,.imm D,⟨g'.symm,i8⟩,aD,λL h3 E T=>iI.sub M.sub (F.trans (H.trans E)) (J L h3 (F.trans (H.trans E)) T)⟩
 .obtain rfl:=go _ e;obtain⟨_,wd,d⟩:=(show SU (.mk 7 ta w co on gr od li []) [n,B]from P)
  exact⟨R,121,[.pointer (some ⟨b2,0,none⟩)],n,λr=>TR B r==false,rfl,G,W,λu r j X=>Kk YJ λK J=>⟨u,b2,S,B,r,rfl,M.s_,I,(d B ay).srt,X,b0,J⟩,λL h' le j=>iI.sub M.sub le (J L h' le j)⟩
 .obtain rfl:=go _ e;obtain⟨_,wd,d⟩:=(show SU (.mk 8 ta w co on gr od li []) [n,B]from P)
  exact⟨R,123,[.pointer (some ⟨b2,0,none⟩)],n,λr=>TR B r==true,rfl,G,W,λu r j X=>Kk YI λK J=>⟨u,b2,S,B,r,rfl,M.s_,I,(d B ay).srt,X,b0,J⟩,λL h' le j=>iI.sub M.sub le (J L h' le j)⟩
 .obtain rfl:=go _ e;obtain⟨_,⟨wd,d,C⟩,g0⟩:=(show aLZ (.mk 9 ta w co on gr od li []) [n,B]from P)
  have d:iJ wd n:=d;refine⟨v,b6 M.b_,v,R,gr,od,n,wd,rfl,U.group_,U.order_,G,d,C,M.tab,λy m3 h2 kk g hy g1 H hg=>⟨_,hg.map_,λr m4 c8 i9 it=>?_⟩⟩;have a2:∀{z o},m2 z=some o->m3 z=some o:=fun{z o} e=>bg
  have Q:∀{z o},m2 z=some o->m4 z=some o/\z≠r:=fun{z o} e=>by
   have:z≠r:=λA=>by have:=a2 e;rw[A,c8.m_]at this;cases this
   exact⟨by rw[i9.other z this];exact a2 e,this⟩
  refine⟨λz=>z.1=b/\z.2.2.1=r/\z.2.2.2.2=h2/\(∀x o,m4 x=some o->x≠r->z.2.2.2.1 x=some o)/\∃left a3,mQ z.2.2.2.1 y r (kk.map λp=>(Value.string p.1,hJ p.2)) left/\jC h2 z.2.1 a3/\Gc pG gr li n kk g left a3,λz=>leftOf z.2.2.2.1 z.2.2.1,⟨(b,[],r,m4,h2),⟨rfl,rfl,rfl,λ_ _ e _=>e,_,[],it,jC.nil _,.start⟩,MT⟩,?_⟩;rintro⟨b',us,r',mz,hz⟩ ⟨e1,A,O,c9,left,a3,a4,a8,rk⟩;dsimp only at e1 A O c9 a4 a8 rk⊢
  subst e1 A O;have d6:=a8.len;have j2:=rk.cnt;refine⟨y,_,left,a4,λd' s3 h3 E T=>?_,λk1 x1 k2 g2 m5 g3 d0=>?_⟩
  .subst d';refine⟨s3,us,a3,rfl,.imm T,a8.mono E,aD,λL h' a' b8=>iI.sub (λz o e=>c9 z o (Q (M.sub z o e)).1 (Q (M.sub z o e)).2) (H.trans (E.trans a')) (J L h' (H.trans (E.trans a')) ?_)⟩;show Rows h' L (K5 gr od li n n);rw[rk.done JW hg d C g0];exact b8
  .have j':x1∈left:=bg
   obtain⟨p0,g4,rfl⟩:=mem_map.1 (mQ.mem a4 j');have g5:v.limit=li:=U.limit_;have j0:m5 b'=some (.cells ⟨vE.enc v⟩ 123 (0,0)):=by rw[g3.other b' (Q M.b_).2];exact c9 b' _ (Q M.b_).1 (Q M.b_).2
   obtain⟨c1,c2,g6,D,j1,g'⟩:=aIX (li:=li) (hg.rows p0 g4) g0;have k8:=(hg.perm p0.1).length_eq;have j3:(oM pG gr n p0.1).length<=n.length:=length_filter_le _ _;refine⟨y,_,_,_,d0,p0.2,rfl,li,.of_m j0 (by rw[<-g5];rfl),c1,c2,g6.map eS,IF _,.imm D,bg,bg,(b',us++g6,r',m5,hz),⟨rfl,rfl,rfl,λx o e c7=>by dsimp only;rw[g3.other x c7];grind,_,a3++(g p0.1).take li.toNat,d0.it,a8.app j1,rk.step hg a4 g4 g2⟩,?_,bg⟩;show leftOf m5 r'<leftOf mz r';rw[mQ.left_ d0.it,mQ.left_ a4,g2];simp
 .have n2:=ne_of_beq_false n2;have n3:=ne_of_beq_false n3;have n4:=ne_of_beq_false n4;have n5:=ne_of_beq_false n5;have n6:=ne_of_beq_false n6;have n7:=ne_of_beq_false n7;have n8:=ne_of_beq_false n8;have n9:=ne_of_beq_false n9;obtain rfl:op=10:=by omega
  obtain⟨_,wd,d,f,C⟩:=(show UC (.mk 10 ta w co on gr od li []) [n,B]from P)
  have d:iJ wd n:=d;have f:iJ wd B:=f;refine⟨v,b6 M.b_,S,.of_m M.s_ rfl,v,S,gr,od,B,wd,rfl,U.group_,U.order_,I,f,C,M.tab,λy m3 h2 kk g hy g1 H hg b4 m4 c8 a0=>⟨_,_,⟨a0.at_⟩,ay,λm5 Z=>?_⟩⟩
  have g7:∀{z o},m3 z=some o->m5 z=some o:=fun{z o} e=>by
   have:z≠b4:=λA=>by rw[A,c8.m_]at e;cases e
   rw[Z.other z this,a0.other z this];exact e
  have a2:∀{z o},m2 z=some o->m5 z=some o:=fun{z o} e=>g7 bg;have a9:Sub m m5:=λz o e=>a2 (M.sub z o e);exact⟨R,125,[.pointer (some ⟨b4,0,none⟩),.pointer (some ⟨b,0,none⟩)],n,λr=>decide (((B.countP λy=>Mb gr r y&&decide (mA od y r<0):Nat):Int)<v.limit),rfl,bZ.mono G H (λ_ _ h=>cF.mono h H),W,λu r j X=>Kk YG λK J=>⟨u,b4,b,v,y,gr,od,B,kk,g,r,wd,rfl,Z.at_,a2 M.b_,hg.keep (λo=>g7) (.refl _),f,C,U.group_.mono H,U.order_.mono H,X,d.row r j,d.wid r j,hT.sub a9,J⟩,λL h' le j=>iI.sub a9 (H.trans le) (J L h' (H.trans le) (by have e:v.limit=li:=U.limit_;rw[e]at j;exact j))⟩
def aSt(s:Sl):CV:=.val (.agg ⟨[.slice s.a s.len s.cap]⟩)
def bRZ:Vc.Spec:=λc m h K=>∃v s,c=[aS v,cI 3]/\iA h s v/\K (cI (dH s)) m h
def yF(st:List ct):Int:=(st.map λl=>(l.length:Int)).sum
def afQ:Vc.Spec:=λc m h K=>∃s d,c=[aSt s]/\Leaves h s d/\d.length<=1000/\K (cI (yF d)) m h
def aoX(s:jB)(t:Int)(r:cw):Bool:=Ch s t&&(match s.tables[t.toNat]? with|some c=>F2 c r|none=>false)
def UK(s:jB)(t:Int)(r:cw):cw:=match(if Ch s t then s.tables[t.toNat]? else none)with|some c=>FW c r|none=>[]
def bSZ:Vc.Spec:=λc m h K=>∃v s t d r,c=[aS v,cI t,cS d,cI 3]/\iA h s v/\cF h d r/\K (cB (aoX s t r)) m h
def abJ:Vc.Spec:=λc m h K=>∃v s t d r,c=[aS v,cI t,cS d]/\iA h s v/\cF h d r/\∀e,cF h e (UK s t r)->K (cS e) m h
def ME:Vc.Spec:=λc m h K=>∃v s e d,c=[aS v,cI 3,aSt e]/\iA h s v/\Leaves h e d/\d.length<=1000/\K (cI (mM s d)) m h
noncomputable def bbX:Ctx:=dD [(175,b7Z),(176,Pn)] [(7,{A:=Nat×cL×Sl×MH×PH,st:=λ⟨i,t,s,m,h⟩=>bQ 95 99 [(3,iv 3),(9,.at (.ptr 9 0)),(41,sv s),(42,iv s.len),(43,iv i)] [(9,.cells 87 (t.enc.map .val))] m h})] [(12,{A:=Nat×cL×VV×Sl×Bool×MH×PH,st:=λ⟨i,t,v,s,b,m,h⟩=>bQ 95 99 [(3,iv 3),(9,.at (.ptr 9 0)),(10,iv i),(11,.at (.ptr 11 0)),(12,bv b),(41,sv s),(42,iv s.len),(43,iv i)] [(9,.cells 87 (t.enc.map .val)),(11,.cells 27 (v.enc.map .val))] m h}),
 (13,{A:=Nat×cL×VV×Sl×Bool×Bool×MH×PH,st:=λ⟨i,t,v,s,b,c,m,h⟩=>bQ 95 99 [(3,iv 3),(9,.at (.ptr 9 0)),(10,iv i),(11,.at (.ptr 11 0)),(12,bv b),(13,bv c),(41,sv s),(42,iv s.len),(43,iv i)] [(9,.cells 87 (t.enc.map .val)),(11,.cells 27 (v.enc.map .val))] m h})] [] false
noncomputable def bbZ(s:Sl)(m:MH)(h:PH):Ctx:=dD [] [(3,{A:=Nat×Int,st:=λ⟨i,n⟩=>bQ 19 20 [(3,iv n),(7,sv s),(8,iv s.len),(9,iv i)] [] m h})] [] [] false
noncomputable def f58_ctx(v:bW)(s:Sl)(m:MH)(h:PH):Ctx:=dD [(99,bRZ),(100,afQ),(101,bSZ),(103,abJ),(102,MG)] [(9,{A:=Nat,st:=λi=>bQ 69 72 [(1,iv 3),(3,.at (.ptr 3 0)),(29,sv s),(30,iv s.len),(31,iv i)] [(3,.cells 43 (v.enc.map .val))] m h}),
 (12,{A:=Nat×Sl×Nat,st:=λ⟨i,u,j⟩=>bQ 69 72 [(1,iv 3),(3,.at (.ptr 3 0)),(8,iv i),(9,sv u),(29,sv s),(30,iv s.len),(31,iv i),(36,sv u),(37,iv u.len),(38,iv j)] [(3,.cells 43 (v.enc.map .val))] m h})] [] [] false
def UZ(v:bW)(m:MH)(h:PH)(K:cr):Prop:=
  Jg v h (λs=>dC (dH s) 0 (K (eV (dH s)) m h) (K (eV 0) m h))
def R5(s:Sl)(m:MH)(h:PH)(K:cr):Prop:=
  ∃(I:Nat×Int->Prop)(d:Nat×Int->Nat),(∃(x:Nat×Int),aA (I x) (dR 0 x.2) (aA (aI s) (bJ s) (bO (bB x.1) (m=m) (h=h))))/\∀(x:Nat×Int),I x->aX (↑x.1:Int) (aH s) (eA s.a (↑x.1:Int) s (λb o y=>aU m h b (bN o x.1 1) (aY y)/\∃(c:Nat×Int),aA (I c) (d c<d x) (aA (dR (fI (x.2+aH y)) c.2) (aI s) (aA (bJ s) (bD (gG (bF x.1 1)) c.1) (aA (m=m) (h=h) True))))) (K (eV x.2) m h)
abbrev pO:Prop:=gW 3
noncomputable abbrev iU(a:Nat×cL×Sl×MH×PH):Sl×MH×PH:=a.2.2
noncomputable abbrev FL(a:Nat×cL×Sl×MH×PH):cL:=a.2.1
noncomputable abbrev JD(a:Nat×cL×VV×Sl×Bool×MH×PH):Bool:=a.2.2.2.2.1
noncomputable abbrev Bx(a:Nat×cL×VV×Sl×Bool×MH×PH):Sl:=a.2.2.2.1
noncomputable abbrev KO(a:Nat×cL×VV×Sl×Bool×MH×PH):cL:=a.2.1
noncomputable abbrev By(a:Nat×cL×VV×Sl×Bool×MH×PH):MH×PH:=a.2.2.2.2.2
noncomputable abbrev xT(a:Nat×cL×VV×Sl×Bool×Bool×MH×PH):Sl:=a.2.2.2.1
noncomputable abbrev FK(a:Nat×cL×VV×Sl×Bool×Bool×MH×PH):cL:=a.2.1
noncomputable abbrev CK(a:Nat×cL×VV×Sl×Bool×Bool×MH×PH):Nat->Nat->Option Value:=a.2.2.2.2.2.2.2
noncomputable abbrev GQ(a:Nat×cL×VV×Sl×Bool×Bool×MH×PH):Nat->Option Obj:=a.2.2.2.2.2.2.1
attribute [push_cast] pO iU FL JD Bx KO By xT FK CK GQ
def R4(v:bW)(t:Int)(s:Sl)(m:MH)(h:PH)(K:cr):Prop:=
  xK (λj n=>∃(u:Int),aA (bC (fM (cD v)) t=bC (fM (cD j)) u) (iA h n j) (tD (Ch n u) (K aZ m h) (Gt v t (λb o=>∃(y:cL),aU m h b (fT o t 5) (Af y)/\dC (aH s) (Aq y) (K aZ m h) (∃(I:Nat×cL×Sl×MH×PH->Prop)(f:Nat×cL×Sl×MH×PH->Nat),(∃(x:Nat×cL×Sl×MH×PH),aA (I x) pO (aA (eP 9) (j7 s (iU x)) (aA (cK s (iU x).1) (bB x.1) (aA (oQ 87 (gV y)=oQ 87 (gV (FL x))) (bH m (iU x).2) (bL h (gX (iU x)))))))/\∀(x:Nat×cL×Sl×MH×PH),I x->aX (↑x.1:Int) (aH (iU x).1) (bI (λz A=>aA (bK (iU x).1.a z A) (0<=(↑x.1:Int)) ((↑x.1:Int)<aH (iU x).1/\∃(g:VV),aU (fB (iU x)) (gX (iU x)) z (bN A x.1 3) g.enc/\∃(B:VV),fH
 (CJ g B) (!(lA B)) (K aZ (fB (iU x)) (gX (iU x))) (∃(I1:Nat×cL×VV×Sl×Bool×MH×PH->Prop),dW g.kind 2 (∃(d:Nat×cL×VV×Sl×Bool×MH×PH),aA (I1 d) pO (aA (eP 9) (cO x.1 d.1) (aA (eP 11) (kV (decide ((↑x.1:Int)>=(FL x).key)) (JD d)) (aA (bS (iU x).1 (Bx d)) (cK (iU x).1 (Bx d)) (aA (cO x.1 d.1) (oQ 87 (gV (FL x))=oQ 87 (gV (KO d))) (aA (mZ 27 g.enc=mZ 27 d.2.2.1.enc) (bH (fB (iU x)) (By d)) (bL (gX (iU x)) (By d).2))))))) (∃(d:Nat×cL×VV×Sl×Bool×MH×PH),aA (I1 d) pO (aA (eP 9) (cO x.1 d.1) (aA (eP 11) (Da (JD d)) (aA (bS (iU x).1 (Bx d)) (cK (iU x).1 (Bx d)) (aA (cO x.1 d.1) (oQ 87 (gV (FL x))=oQ 87
 (gV (KO d))) (aA (mZ 27 g.enc=mZ 27 d.2.2.1.enc) (bH (fB (iU x)) (By d)) (bL (gX (iU x)) (By d).2)))))))/\∀(d:Nat×cL×VV×Sl×Bool×MH×PH),I1 d->∃(I2:Nat×cL×VV×Sl×Bool×Bool×MH×PH->Prop),dW d.2.2.1.kind 1 (∃(c:Nat×cL×VV×Sl×Bool×Bool×MH×PH),aA (I2 c) pO (aA (eP 9) (cO d.1 c.1) (aA (eP 11) (kV (JD d) c.2.2.2.2.1) (aA (kV (decide ((↑d.1:Int)>=(KO d).key)) c.2.2.2.2.2.1) (bS (Bx d) (xT c)) (aA (cK (Bx d) (xT c)) (cO d.1 c.1) (aA (oQ 87 (gV (KO d))=oQ 87 (gV (FK c))) (mZ 27 d.2.2.1.enc=mZ 27 c.2.2.1.enc) (bP (bH (By d).1 c.2.2.2.2.2.2) (By d).2 (CK c)))))))) (∃(c:Nat×cL×VV×Sl×Bool×Bool×MH×PH),aA (I2 c)
 pO (aA (eP 9) (cO d.1 c.1) (aA (eP 11) (kV (JD d) c.2.2.2.2.1) (aA (Da c.2.2.2.2.2.1) (bS (Bx d) (xT c)) (aA (cK (Bx d) (xT c)) (cO d.1 c.1) (aA (oQ 87 (gV (KO d))=oQ 87 (gV (FK c))) (mZ 27 d.2.2.1.enc=mZ 27 c.2.2.1.enc) (bP (bH (By d).1 c.2.2.2.2.2.2) (By d).2 (CK c))))))))/\∀(c:Nat×cL×VV×Sl×Bool×Bool×MH×PH),I2 c->bI (λC D=>aA (bK (FK c).columns.a C D) (0<=(↑c.1:Int)) ((↑c.1:Int)<aH (FK c).columns/\∃(E:Int),aU (GQ c) (CK c) C (bN D c.1 2+1) (bG E)/\dC c.2.2.1.kind E (tD c.2.2.2.2.1 (tD c.2.2.2.2.2.1 (K aZ (GQ c) (CK c)) (∃(e:Nat×cL×Sl×MH×PH),aA (I e) (f e<f x) (aA pO (eP 9) (aA (j7 (xT
 c) (iU e)) (cK (xT c) (iU e).1) (aA (bD (gG (bF c.1 1)) e.1) (oQ 87 (gV (FK c))=oQ 87 (gV (FL e))) (bP (bH (GQ c) (iU e).2) (CK c) (gX (iU e)))))))) (∃(e:Nat×cL×Sl×MH×PH),aA (I e) (f e<f x) (aA pO (eP 9) (aA (j7 (xT c) (iU e)) (cK (xT c) (iU e).1) (aA (bD (gG (bF c.1 1)) e.1) (oQ 87 (gV (FK c))=oQ 87 (gV (FL e))) (bP (bH (GQ c) (iU e).2) (CK c) (gX (iU e)))))))) (∃(e:Nat×cL×Sl×MH×PH),aA (I e) (f e<f x) (aA pO (eP 9) (aA (j7 (xT c) (iU e)) (cK (xT c) (iU e).1) (aA (bD (gG (bF c.1 1)) e.1) (oQ 87 (gV (FK c))=oQ 87 (gV (FL e))) (bP (bH (GQ c) (iU e).2) (CK c)
 (gX (iU e))))))))))))) (gO K (fB (iU x)) (gX (iU x))))))))
def R3(v:bW)(t:Int)(s:Sl)(m:MH)(h:PH)(K:cr):Prop:=
  aX t 0 (K jQ m h) (gA t (lW v) (K jQ m h) (bI (λb o=>aA (bK (xJ v) b o) (0<=t) (t<aH v.tables/\∃(y:Int),aA (aU m h b (fT o t 5+2) (bG y)) (0<=ite (Ag s y>0) (Ag s y) 0) (ite (Ag s y>0) (Ag s y) 0<=(↑s.cap:Int)/\K (CV.val (Value.slice s.a (ite (Ag s y>0) (Ag s y) 0).toNat s.cap)) m h)))))
noncomputable abbrev oY(a:Nat×Sl×Nat):Sl:=a.2.1
noncomputable abbrev JG(a:Nat×Sl×Nat):Int:=fI ((↑a.2.2:Int)-1)
attribute [push_cast] oY JG
def ag(v:bW)(s:Sl)(m:MH)(h:PH)(K:cr):Prop:=
  xK (λA g=>aA (bC (fM (cD v)) 3=bC (fM (cD A)) 3) (iA h g A) (dC (dH g) 0 (K (eV (dH g)) m h) (∃(B:Sl)(j:List ct),aA (fP (fM (aY s)) (fM (aY B))) (Leaves h B j) (lY j.length/\cX (decide (yF j>512)) (K (eV 2) m h) (aH s !=lW v) (K (eV 80) m h) (nO (λI x=>aA (I x) pO (aA cG (aI s) (aA (bJ s) (bB x) (aA (cM v) (m=m) (bL h h))))) (λI C x=>I x->aX (↑x:Int) (aH s) (eA s.a (↑x:Int) s (λb o y=>aU m h b (bN o x 1) (aY y)/\∃(I1:Nat×Sl×Nat->Prop)(e:Nat×Sl×Nat->Nat),(∃(c:Nat×Sl×Nat),aA (I1 c) pO (aA cG (cO x c.1) (aA (bS y (oY c)) (aI s) (aA (bJ s) (cO x c.1) (aA (bS y (oY c)) (cK y (oY c)) (aA (bB c.2.2)
 (cM v) (bP (m=m) h h)))))))/\∀(c:Nat×Sl×Nat),I1 c->aX (↑c.2.2:Int) (aH (oY c)) (eA (oY c).a (↑c.2.2:Int) (oY c) (λY Z n=>aU m h Y (bN Z c.2.2 1) (aY n)/\xK (λD E=>∃(t:Int),qO (λF r=>aA (cE (cD v) (eV (↑c.1:Int)::hX n 3)=cE (cD D) (eV t::hX F 3)) (iA h E D) (cF h F r/\nX (!(aoX E t r)) (K (eV 80) m h) (↑c.2.2:Int) 0 (eA (oY c).a (JG c) (oY c) (λu z f=>aU m h u (fT z (JG c) 1) (aY f)/\xK (λG H=>∃(J:Int),qO (λL M=>aA (cE (cD v) (fZ (eV (↑c.1:Int)) f)=cE (cD G) (fZ (eV J) L)) (iA h H G) (cF h L M/\∀(O:Sl),cF h O (UK H J M)->bM h u (fT z (JG c) 1) (aY f)/\xK (λP Q=>∃(R
 :Int),qO (λa S=>aA (cE (cD v) (fZ (eV (↑c.1:Int)) n)=cE (cD P) (fZ (eV R) a)) (iA h Q P) (cF h a S/\∀(T:Sl),cF h T (UK Q R S)->bM h u (fT z (JG c) 1) (aY f)/\∃(U:Sl),qO (λV W=>∃(X:cw),aA (cV O T=cV U V) (cF h U W) (cF h V X/\gA (fQ W X) 0 (K (eV 80) m h) (∃(d:Nat×Sl×Nat),aA (I1 d) (e d<e c) (aA pO cG (aA (cO c.1 d.1) (bS (oY c) (oY d)) (aA (aI s) (bJ s) (aA (cO c.1 d.1) (bS (oY c) (oY d)) (aA (cK (oY c) (oY d)) (bD (gG (bF c.2.2 1)) d.2.2) (bO (cM v) (m=m) (h=h)))))))))))))))))) (∃(d:Nat×Sl×Nat),aA (I1 d) (e d<e c) (aA pO cG (aA (cO c.1 d.1) (bS (oY c) (oY d)) (aA (aI
 s) (bJ s) (aA (cO c.1 d.1) (bS (oY c) (oY d)) (aA (cK (oY c) (oY d)) (bD (gG (bF c.2.2 1)) d.2.2) (bO (cM v) (m=m) (h=h))))))))))))) (∃(d:Nat),aA (I d) (C d<C x) (aA pO cG (aA (aI s) (bJ s) (aA (bD (gG (bF c.1 1)) d) (cM v) (bP (m=m) h h))))))) (K (eV 0) m h)))))))
theorem cF.cut{a:Option Addr}{len c:Nat}{r:cw}(x:cF h ⟨a,len,c⟩ r){n:Nat}(f:n<=r.length):cF h ⟨a,n,c⟩ (r.take n):=by
 obtain⟨⟨d,e,g,j⟩,o⟩:=x;refine⟨⟨d.take n,by rw[map_take];exact cC.cut e n bg,bg,λi x u=>?_⟩,bg⟩
 grind
theorem b3Z{v:bW}(d:iA h s v)(c:K (cI (dH s)) m h):UZ v m h K:=
 ⟨v,s,rfl,d,aC (λ_=>c) (λe=>by rw[show dH s=0 by simpa using e]at c;exact c)⟩
theorem apQ:cm 99 bRZ:=by
 refine iH func99 ?_;rintro c m h K ⟨v,s,rfl,d,e⟩;refine⟨dD [(90,BQ)] [] [] [] false,rfl,aE K8 aG,UZ v m h K,ax,?_⟩;exact b3Z d e
theorem Leaves.lens{s:Sl}{st:List ct}(c:Leaves h s st){l:ct}(d:l∈st):l.length<=502633886983:=by
 obtain⟨i,e,rfl⟩:=mem_iff_getElem.1 d;obtain⟨_,_,_,_,_,f⟩:=bZ.at c (bo e);exact f.len
theorem F6:∀{l:List ct},(∀x∈l,x.length<=502633886983)->0<=yF l/\yF l<=(l.length:Int)*502633886983
 |[],_=>by simp[yF]
 |a::l,h=>by
  have e:=h a (mem_cons_self ..);have c:=F6 (l:=l) λx d=>h x (mem_cons_of_mem _ d);simp only[yF,map_cons,sum_cons,ci]at c⊢
  omega
theorem Y0{st:List ct}{l:ct}(h:st[i]? =some l):yF (st.take (i+1))=yF (st.take i)+(l.length:Int):=by
 rw[cd,h];simp[yF]
theorem YV:cm 100 afQ:=by
 refine iH func100 ?_;rintro A m h K ⟨s,c,rfl,f,J,B⟩;refine⟨bbZ s m h,rfl,aG,R5 s m h K,ax,?_⟩;dsimp only[R5,push_cast];have g:=bZ.slen f;refine⟨λz=>z.1<=c.length/\z.2=yF (c.take z.1),λz=>c.length-z.1,⟨(0,0),⟨ay,by simp[yF]⟩,MT⟩,?_⟩;rintro⟨i,n⟩ ⟨C,e⟩;dsimp only at C e⊢
 subst e;refine aF (λj=>?_) (λD=>?_)
 .obtain⟨l,d⟩:=eU g j;obtain⟨b,o,u,E,rd,F⟩:=bZ.at f d;have y:=bZ.slen F;have G:=F6 (l:=c.take (i+1)) λx d=>f.lens (mem_of_mem_take d);have H:=(F6 (l:=c.take i) λx d=>f.lens (mem_of_mem_take d)).1;have I:=Y0 d;rw[length_take]at G;refine⟨b,o,E,aD,aD,u,.imm rd,(i+1,yF (c.take (i+1))),⟨aD,rfl⟩,aD,?_⟩;rw[dY aD aD,y, <-I];exact MT
 .rw[bu aD];exact B
theorem J1{t:C1}{r:cw}:F2 t r=true↔r.length=t.columns.length/\∀i,i<r.length->H4 t.key (t.columns.getD i ⟨⟨#[]⟩,0⟩).kind i (r.getD i zeroV)=true:=by
 simp only[F2,bz,ce,all_eq_true,mem_range]
theorem UX{t:Int}{r:cw}{c:C1}(d:s.tables[t.toNat]? =some c)(h:Ch s t=true):aoX s t r=F2 c r:=by
 simp only[aoX,h,d,Bool.true_and]
theorem YU:cm 101 bSZ:=by
 refine iH func101 ?_;rintro a' m h K ⟨v,s,t,L,r,rfl,M,O,C⟩;refine⟨bbX,rfl,aE O2 (aE O0 aG),R4 v t L m h K,ax,?_⟩;dsimp only[R4,push_cast];have a0:=M.tables.slen;have a1:=bZ.slen O;refine⟨v,s,t,rfl,M,aC (λe=>?_) (λe=>?_)⟩
 .have e:Ch s t=false:=bk e
  simp only[aoX,e,Bool.false_and]at C;exact C
 have e:Ch s t=true:=bk e
 have Z:=e;simp only[Ch,bz,ce]at Z;obtain⟨d,E⟩:∃d,s.tables[t.toNat]? =some d:=⟨_,bo aD⟩
 obtain⟨b,o,y,ea,rd,P⟩:=bZ.at M.tables E;rw[UX E e]at C;have a2:=bZ.slen P.columns;have hk:=P.key;refine⟨b,o,ea,Z.1,aD,y,.imm rd,aC (λH=>?_) (λH=>?_)⟩
 .have:F2 d r=false:=by
   cases f:F2 d r with
   |false=>rfl
   |true=>
    have:=(J1.1 f).1
    grind
  rw[this]at C;exact C
 have Q:r.length=d.columns.length:=bg
 have bad:∀i,i<r.length->H4 d.key (d.columns.getD i ⟨⟨#[]⟩,0⟩).kind i (r.getD i zeroV)=false->K (cB false) m h:=λi R F=>by
  have:F2 d r=false:=by
   cases f:F2 d r with
   |false=>rfl
   |true=>rw[(J1.1 f).2 i R]at F;cases F
  grind
 refine⟨λz=>z.2.1=y/\z.2.2.1=L/\z.2.2.2.1=m/\z.2.2.2.2=h/\z.1<=r.length/\∀j,j<z.1->H4 d.key (d.columns.getD j ⟨⟨#[]⟩,0⟩).kind j (r.getD j zeroV)=true,λz=>r.length-z.1,⟨(0,y,L,m,h),⟨rfl,rfl,rfl,rfl,ay,λj S=>by simp at S⟩,MT⟩,?_⟩;rintro⟨i,n,A,m',h'⟩ ⟨H,f,I,J,R,B⟩;dsimp only at H f I J R B⊢
 subst H f I J;refine aF (λa3=>?_) (λa4=>?_)
 .have T:i<r.length:=by omega
  have hx:r[i]? =some (r.getD i zeroV):=bg
  obtain⟨b2,o2,x,U,G,V⟩:=bZ.at O hx;subst V;have hc:d.columns[i]? =some (d.columns.getD i ⟨⟨#[]⟩,0⟩):=bg
  obtain⟨b3,o3,c,W,X,Y⟩:=bZ.at P.columns hc;have g:=bad i T
  have u:H4 d.key (d.columns.getD i ⟨⟨#[]⟩,0⟩).kind i (r.getD i zeroV)=true->∀j,j<i+1->H4 d.key (d.columns.getD j ⟨⟨#[]⟩,0⟩).kind j (r.getD j zeroV)=true:=λF j S=>by
   grind
  generalize r.getD i zeroV=x at g u G hx;rw[Y]at g u;have go:H4 d.key c.kind i x=true->∃z:Nat×cL×Sl×MH×PH,(z.2.1=n/\z.2.2.1=A/\z.2.2.2.1=m'/\z.2.2.2.2=h'/\z.1<=r.length/\∀j,j<z.1->H4 d.key (d.columns.getD j ⟨⟨#[]⟩,0⟩).kind j (r.getD j zeroV)=true)/\r.length-z.1<r.length-i/\z=(i+1,n,A,m',h'):=λF=>⟨_,⟨rfl,rfl,rfl,rfl,aD,u F⟩,aD,rfl⟩
  refine⟨b2,o2,U,aD,aD,x,.imm G,x,rfl,aC (λev=>g ?_) (λev=>?_)⟩
  .have ev:lA x=false:=bg
   simp[H4,ev]
  have ev:lA x=true:=bg
  refine⟨λz=>z=(i,n,x,A,(x.kind==2&&decide ((i:Int)>=n.key)),m',h'),aC (λf=>⟨_,rfl,by rw[f];exact MT⟩) (λf=>⟨_,rfl,by rw[f];exact MT⟩),?_⟩;rintro _ rfl;dsimp only;refine⟨λz=>z=(i,n,x,A,(x.kind==2&&decide ((i:Int)>=n.key)),(x.kind==1&&decide ((i:Int)>=n.key)),m',h'),aC (λf=>⟨_,rfl,by rw[f];exact MT⟩) (λf=>⟨_,rfl,by rw[f];exact MT⟩),?_⟩;rintro _ rfl;dsimp only
  have D:H4 d.key c.kind i x=(x.kind==c.kind||((x.kind==2&&decide ((i:Int)>=n.key))||(x.kind==1&&decide ((i:Int)>=n.key)))):=by
   rw[hk];simp only[H4,ev,Bool.true_and,ge_iff_le,Bool.and_or_distrib_right]
  generalize a5:(x.kind==2&&decide ((i:Int)>=n.key))=B1 at D⊢
  generalize a6:(x.kind==1&&decide ((i:Int)>=n.key))=B2 at D⊢
  refine⟨b3,o3,W,aD,aD,c.kind,.imm (bM.part X 1 1),aC (λI=>aC (λJ=>aC (λe5=>g ?_) (λe5=>?_)) (λJ=>?_)) (λI=>?_)⟩
  .grind
  all_goals
   obtain⟨_,g1,g2,rfl⟩:=go (by rw[D];simp_all);refine⟨_,g1,g2,?_⟩;dsimp only;rw[kR (by have:=bZ.len O;omega)];exact MT
 .have:F2 d r=true:=J1.2 ⟨Q,λj S=>B j aD⟩;rw[this]at C;exact C
theorem YT:cm 103 abJ:=by
 refine iH func103 ?_;rintro C m h K ⟨v,s,t,x,r,rfl,z,n,A⟩;refine⟨dD [] [] [] [] false,rfl,aG,R3 v t x m h K,ax,?_⟩;dsimp only[R3,push_cast];have D:=z.tables.slen;have d:=bZ.slen n;have c:Ch s t=false->K jQ m h:=λe=>A ⟨none,0,0⟩ (by simp only[UK,e];exact bZ.nil _ _ _ _);refine aF (λE=>c (by simp[Ch];omega)) (λE=>aF (λF=>c (by simp[Ch];omega)) (λF=>?_));have e:Ch s t=true:=by simp[Ch];omega
 obtain⟨f,g⟩:∃f,s.tables[t.toNat]? =some f:=⟨_,bo aD⟩
 obtain⟨b,o,y,G,rd,H⟩:=bZ.at z.tables g;have L:=H.key;obtain⟨a,len,j⟩:=x;have B:len<=j:=by obtain⟨M,I,_⟩:=n.ex;exact I.cap
 have d:len=r.length:=d
 have u:(if(if(len:Int)<y.key then(len:Int)else y.key)>0 then(if(len:Int)<y.key then(len:Int)else y.key)else 0)=max 0 (min f.key r.length):=by
  omega
 refine⟨b,o,G,aD,aD,y.key,.imm (bM.part rd 2 1),?_⟩;dsimp only;rw[u];refine⟨aD,aD,A ⟨a,(max 0 (min f.key r.length)).toNat,j⟩ ?_⟩;have J:UK s t r=r.take (max 0 (min f.key r.length)).toNat:=by simp only[UK,e,if_true,g];rfl
 rw[J];exact n.cut aD
theorem Ns{t:Nat}{c:C1}(h:s.tables[t]? =some c)(r:cw):UK s t r=FW c r:=by
 have:t<s.tables.length:=(bm h);have e:Ch s (t:Int)=true:=by simp[Ch];omega
 simp only[UK,e,if_true,Int.toNat_natCast,h]
theorem ZM{t:Nat}{c:C1}(h:s.tables[t]? =some c)(r:cw):aoX s t r=F2 c r:=by
 have:t<s.tables.length:=(bm h);have e:Ch s (t:Int)=true:=by simp[Ch];omega
 exact UX (bk h) e
theorem au:cm 58 ME:=by
 refine iH func58 ?_;rintro a9 m h K ⟨v,s,W,F,rfl,J,X,Y,d⟩;refine⟨f58_ctx v W m h,rfl,aE apQ (aE YV (aE YU (aE YT (aE B8 aG)))),ag v W m h K,ax,?_⟩;dsimp only[ag,push_cast];have b':=J.tables.slen;have Z:=bZ.slen X;unfold mM at d;refine⟨v,s,rfl,J,aC (λe=>?_) (λe=>⟨W,F,rfl,X,Y,aF (λG=>?_) (λG=>aC (λe3=>?_) (λe3=>?_))⟩)⟩
 .rw[if_pos (bk e)]at d;exact d
 all_goals rw[if_neg (bk e)]at d
 .rw[if_pos (by unfold yF at G;omega)]at d;exact d
 all_goals rw[if_neg (by unfold yF at G;omega)]at d
 .rw[if_pos bg]at d;exact d
 have L:F.length=s.tables.length:=bg
 rw[if_neg (by simp[L])]at d;have bad:¬Wz s F->K (cI 80) m h:=λhb=>bg
 refine⟨λi=>i<=F.length/\∀(j:Nat) t l,j<i->s.tables[j]? =some t->F[j]? =some l->Zu t l,λi=>F.length-i,⟨0,⟨ay,λj t l hj=>by omega⟩,MT⟩,?_⟩;rintro i ⟨hi,M⟩;refine aF (λa'=>?_) (λb0=>?_)
 .obtain⟨l,hx⟩:=eU Z a';obtain⟨b,o,u,ea,rd,H⟩:=bZ.at X hx;have a0:=bZ.slen H;have b1:=bZ.len H;obtain⟨x,c⟩:∃x,s.tables[i]? =some x:=⟨_,bo aD⟩
  have y:¬Zu x l->K (cI 80) m h:=λhb=>bad λf=>hb (f i x l c hx);refine⟨b,o,ea,aD,aD,u,.imm rd,λz=>z.1=i/\z.2.1=u/\z.2.2<=l.length/\(∀k r,k<z.2.2->l[k]? =some r->F2 x r=true)/\∀k r I,k+1<z.2.2->l[k]? =some r->l[k+1]? =some I->fQ (FW x r) (FW x I)<0,λz=>l.length-z.2.2,⟨(i,u,0),⟨rfl,rfl,ay,λk r C=>by simp at C,λk r I C=>by simp at C⟩,MT⟩,?_⟩;rintro⟨D,u',j⟩ ⟨e1,G,hj,A,B⟩;dsimp only at e1 G hj A B⊢
  subst e1 G;refine aF (λO=>?_) (λa8=>?_)
  .obtain⟨r,P⟩:=eU a0 O;obtain⟨b2,o2,w,a1,a2,hv⟩:=bZ.at H P;refine⟨b2,o2,a1,aD,aD,w,.imm a2,v,s,D,w,r,rfl,J,hv,aC (λU=>y λf=>?_) (λU=>?_)⟩
   .rw[ZM c,f.1 r (br P)]at U;cases U
   have hf:F2 x r=true:=by rw[ZM c]at U;grind
   have g:∀k r,k<j+1->l[k]? =some r->F2 x r=true:=λk I C b4=>by
    grind
   refine aF (λa3=>?_) (λa3=>?_)
   .have hw:IntKind.i64.wrap ((j:Int)-1)=((j-1:Nat):Int):=by rw[dY aD aD];omega
    obtain⟨V,Q⟩:∃V,l[j-1]? =some V:=⟨_,bo aD⟩
    obtain⟨b3,o3,w3,a4,E,a5⟩:=bZ.at H Q;rw[hw];refine⟨b3,o3,a4,aD,aD,w3,.imm E,v,s,D,w3,V,rfl,J,a5,λs1 a6=>⟨E,v,s,D,w,r,rfl,J,hv,λs2 a7=>⟨E,s1,s2,_,_,rfl,a6,a7,aF (λhc=>y λf=>?_) (λhc=>?_)⟩⟩⟩
    .rw[Ns c,Ns c]at hc;have:=f.2 (j-1) V r Q bg;omega
    .rw[Ns c,Ns c]at hc;refine⟨(D,u',j+1),⟨rfl,rfl,bg,g,λk r1 r2 C R S=>?_⟩,bg,?_⟩
     .grind
     .dsimp only;rw[kR aD];exact MT
   .refine⟨(D,u',j+1),⟨rfl,rfl,bg,g,λk r1 r2 C R S=>bg⟩,bg,?_⟩;dsimp only;rw[kR aD];exact MT
  .refine⟨D+1,⟨aD,λk t l' C ht T=>?_⟩,aD,?_⟩
   .by_cases e5:k=D
    .subst e5;rw[c]at ht;cases ht;rw[hx]at T;cases T;refine⟨λr H=>?_,λk r I R S=>B k r I ?_ R S⟩
     .obtain⟨n,Y,rfl⟩:=mem_iff_getElem.1 H;exact A n _ aD (bo Y)
     grind
    grind
   .rw[kR aD];exact MT
 .rw[if_pos]at d
  .exact d
  .exactλj t l R S=>M j t l bg R S
structure Pq(h:PH)(sl:Sl)(st:List ct):Prop where
 lea:Leaves h sl st
 len:st.length<=1000
 val:StV st
theorem Pq.mono{sl:Sl}{st:List ct}(x:Pq h sl st)(le:PH.le h h'):Pq h' sl st:=⟨bZ.mono x.lea le λl s c=>bZ.mono c le λr t d=>cF.mono d le,x.len,x.val⟩
noncomputable def mS(st:List ct)(ts:de):List ct:=(List.range ts.length).map λi=>uW st (aM ts i)
structure Hr(s:jB)(st:List ct)(ts:de):Prop where
 ar:∀(i:Nat) t,ts[i]? =some t->0<=arity t.op
 fit:∀(i:Nat) t,ts[i]? =some t->oB i t
 kinds:∀i,i<ts.length->(aJ s [] (aM ts i)).2=0
 bnd:∃c,1<=c/\(∀l∈st,l.length<=c)/\∀i,i<ts.length->fE c (aM ts i)<=8000000
def cfX:Vc.Spec:=λd m h K=>∃sc e p r s c ts rs,d=[aS sc,aSt e,aPl p r]/\iA h s sc/\Pq h e c/\lR h p r ts rs/\fU m/\(gH s ts rs=0->mM s c=0->Hr s c ts)/\
 (gH s ts rs≠0->K (.tup [jQ,cI (gH s ts rs)]) m h)/\(gH s ts rs=0->mM s c≠0->K (.tup [jQ,cI (mM s c)]) m h)/\(gH s ts rs=0->mM s c=0->∀f h',PH.le h h'->Leaves h' f (mS c ts)->K (.tup [cS f,cI 0]) m h')
noncomputable def bEZ(sl p:Sl):Ctx:=dD [(38,Ij),(58,ME),(68,Wi),(69,Ss)] [(9,{A:=Nat×da×MH×PH,st:=λ⟨i,c,m,h⟩=>bQ 85 88 [(4,.at (.ptr 4 0)),(11,.at (.lst 34)),(36,sv p),(37,iv p.len),(38,iv i)] [(4,.cells 25 [.val (.slice sl.a sl.len sl.cap)]),(34,.lst 53 1 (c.map eS))] m h}),
 (16,{A:=Nat×Nat×da×MH×PH,st:=λ⟨i,n,c,m,h⟩=>bQ 85 88 [(11,.at (.lst 34)),(71,.at (.lst 34)),(72,iv n),(73,iv i)] [(34,.lst 53 1 (c.map eS))] m h})] [] [] false
noncomputable abbrev mG(a:Nat×da×MH×PH):List cn:=nB a.2.1
noncomputable abbrev oI(a:Nat×da×MH×PH):Nat->Nat->Option Value:=a.2.2.2
attribute [push_cast] mG oI
def OX(sc:bW)(sl p r:Sl)(m:MH)(h:PH)(K:cr):Prop:=
  ∃(s:bW),nA (λH J=>∃(D:jB),FI (λt E=>aA (fW (cD sc) (rV p r)=fW (cD s) (rV H J)) (iA h D s) (lR h H J t E/\∀(_:Sl),dC (gH D t E) 0 (K (CV.tup (bC jQ (gH D t E))) m h) (xK (λv F=>∃(L:Sl)(A:List ct),aA (cE (cD sc) (gZ (eV 3) (fM (aY sl)))=cE (cD v) (gZ (eV 3) (fM (aY L)))) (iA h F v) (aA (Leaves h L A) (lY A.length) (dC (mM F A) 0 (K (CV.tup (bC jQ (mM F A))) m h) (aA (bV (aH p)) (Ah p) (aA (uI p 24) (vB (aH p)) (∃(I:Nat×da×MH×PH->Prop)(B:Nat×da×MH×PH->Nat),(∃(x:Nat×da×MH×PH),aA (I x) iS (aA (eL 34) (aI p) (aA (bJ p) (bB x.1) (aA (eQ (oQ 25 (nL (vD sl)))) (CL 53 p iV (mG x)) (bP
 (bH m x.2.2) h (oI x))))))/\∀(x:Nat×da×MH×PH),I x->aX (↑x.1:Int) (aH p) (bI (λb o=>aA (bK p.a b o) (0<=(↑x.1:Int)) ((↑x.1:Int)<aH p/\∃(y:vE),aU x.2.2.1 (oI x) b (bN o x.1 22) y.enc/\dW y.op 1 (eA sl.a y.table sl (λS T n=>EA (aU x.2.2.1 (oI x) S (fT T y.table 1) (aY n)) 0 (↑x.1:Int) (mG x) (λe=>aA (mI (mG x) (↑x.1:Int) e) (0<e.length) (∃(c:Nat×da×MH×PH),aA (I c) (B c<B x) (aA iS (eL 34) (aA (aI p) (bJ p) (aA (bD (gG (bF x.1 1)) c.1) (eQ (oQ 25 (nL (vD sl)))) (bO (Option.some (Own.lst 53 1 (List.set (mG x) (↑x.1:Int).toNat (kW (hJ n) 1 e)))=Option.some (Own.lst 53 1 (mG c))) (bH x.2.2.1 c.2.2) (oI x=oI c))))))))) (rW y.left (y.left<iZ (mG x))
 (λe=>mI (mG x) y.left e/\∃(n:Sl),EA (pN 1 e (aY n)) 0 y.right (mG x) (λj=>mI (mG x) y.right j/\∃(M:Sl),pN 1 j (aY M)/\Oh (λO d=>Oc (λu z l C=>aA (cE y.enc (cV n M)=cE O.enc (cV u z)) (sY (oI x) d O) (aA (Rows (oI x) u l) (Rows (oI x) z C) (aA (fU x.2.2.1) (2<=d.op) (aA (d.op<=10) (PS d.op (Query.mk d.op d.table d.wher d.columns d.on d.group d.order d.limit []) [l,C]) (aA (HX l) (HX C) (jJ (λP f=>cZ (oI x) f (Rows f P (opF d.op (Query.mk d.op d.table d.wher d.columns d.on d.group d.order d.limit []) [l,C])) (rW (↑x.1:Int) ((↑x.1:Int)<iZ (mG x)) (λG=>aA (mI (mG x) (↑x.1:Int) G) (0<G.length) (∃(c:Nat×da×MH×PH),aA (I c) (B
 c<B x) (aA iS (eL 34) (aA (aI p) (bJ p) (aA (bD (gG (bF x.1 1)) c.1) (eQ (oQ 25 (nL (vD sl)))) (bO (Option.some (Own.lst 53 1 (List.set (mG x) (↑x.1:Int).toNat (kW (hJ P) 1 G)))=Option.some (Own.lst 53 1 (mG c))) (bH x.2.2.1 c.2.2) (f=oI c)))))))))))))))))))))) (∃(I1:Nat×Nat×da×MH×PH->Prop)(Q:Nat×Nat×da×MH×PH->Nat),(∃(c:Nat×Nat×da×MH×PH),aA (I1 c) (eL 34) (aA (eL 34) (cO (mG x).length c.2.1) (aA (bB c.1) (Option.some (Own.lst 53 1 (mG x))=Option.some (Own.lst 53 1 (mG c.2))) (aA (bH x.2.2.1 c.2.2.2) (oI x=oI c.2) True))))/\∀(c:Nat×Nat×da×MH×PH),I1 c->aX (↑c.1:Int) (↑c.2.1:Int) (rW (↑c.1:Int) ((↑c.1:Int)<iZ (mG c.2)) (λe=>mI (mG c.2) (↑c.1:Int) e
 /\∃(y:Sl),pN 1 e (aY y)/\∃(u:Sl)(l:ct),aA (rB y=rB u) (Rows (oI c.2) u l) (aA (HX l) (∀(R:cw),List.Mem R l->lY R.length) (jJ (λz f=>cZ (oI c.2) f (Rows f z l) (rW (↑c.1:Int) ((↑c.1:Int)<iZ (mG c.2)) (λj=>aA (mI (mG c.2) (↑c.1:Int) j) (0<j.length) (∃(g:Nat×Nat×da×MH×PH),aA (I1 g) (Q g<Q c) (aA (eL 34) (eL 34) (aA (cO c.2.1 g.2.1) (bD (gG (bF c.1 1)) g.1) (aA (Option.some (Own.lst 53 1 (List.set (mG c.2) (↑c.1:Int).toNat (kW (hJ z) 1 j)))=Option.some (Own.lst 53 1 (mG g.2))) (bH c.2.2.2.1 g.2.2.2) (bL f (oI g.2))))))))))))) (sN (oI c.2) (mG c.2) K c.2.2.2.1))))))))))))
theorem KB(st:List ct):∀l,IE st l=l.map (uW st)
 |[]=>by simp[IE]
 |q::l=>by rw[IE,KB st l];rfl
theorem aLQ{op o:Int}{w:Pred}{on:cu}{args:cz}{ls:List ct}:opF op (.mk o ta w co on gr od li args) ls=opF op (.mk o ta w co on gr od li []) ls:=rfl
theorem Qq{op o:Int}{w:Pred}{on:cu}{args:cz}{ls:List ct}:PS op (.mk o ta w co on gr od li args) ls=PS op (.mk o ta w co on gr od li []) ls:=rfl
theorem aHQ{st:List ct}{ts:de}(ok:BI ts){i:Nat}{t:Step}(c:ts[i]? =some t)(d:t.op≠1):uW st (aM ts i)=opF t.op t.query ((AM t).map λa=>uW st (aM ts a.toNat)):=by
 rw[pH ok c,uW,if_neg d,KB,Cb,map_map];exact aLQ
theorem aMZ{st:List ct}{op:Int}{w:Pred}{on:cu}{args:cz}{ks:cq}{c:Nat}(e:mM s st=0)(g:StV st)(n:∀l∈st,l.length<=c)(o:1<=c)(f:aJ s ps (.mk op ta w co on gr od li args)=(ks,0))(u:fE c (.mk op ta w co on gr od li args)<=8000000)(d:op≠1):
 PS op (.mk op ta w co on gr od li args) (IE st args):=by
 have x:=(WA e g n o f u).1;rw[okQ,if_neg d]at x;obtain⟨z,A,_,_⟩:=wH f;have B:pX (.mk op ta w co on gr od li args)=lJ args:=by simp[pX,d]
 have y:=Ic (st:=st) (ls:=BF st (.mk op ta w co on gr od li args)) (k:=0) A ⟨λj t h=>by
  rw[getD_eq_getElem?_getD,Nat.zero_add,BF,B,getElem?_map,h];rfl⟩
 grind
theorem bsX{c d:ct}(h:arity t.op=1):opF t.op t.query [c,d]=opF t.op t.query [c]:=by
 obtain⟨op,ta,w,co,on,gr,od,li,a,b⟩:=t;have h:arity op=1:=h
 have:op=2\/op=3\/op=9:=by
  unfold arity at h
  grind
 rcases this with rfl|rfl|rfl<;>rfl
theorem aMX{d e:ct}(h:arity t.op=1)(x:PS t.op t.query [d])(f:∃w,iJ w e):PS t.op t.query [d,e]:=by
 obtain⟨op,ta,w,co,on,gr,od,li,a,b⟩:=t;have h:arity op=1:=h
 have:op=2\/op=3\/op=9:=by
  unfold arity at h
  grind
 rcases this with rfl|rfl|rfl
 .obtain⟨_,c⟩:=x;refine⟨ay,λl g=>?_⟩
  grind
 .obtain⟨_,c⟩:=x;exact⟨ay,c⟩
 .obtain⟨_,c⟩:=x;exact⟨ay,c⟩
theorem aKJ{op:Int}(h:0<arity op):2<=op/\op<=10:=by
 unfold arity at h
 grind
theorem b5J{sl p:Sl}{st:List ct}(hs:iA h s sc)(C:Pq h sl st)(x:lR h p r ts rs)(hT:fU m)(hb:gH s ts rs=0->mM s st=0->Hr s st ts)
 (k1:gH s ts rs≠0->K (.tup [jQ,cI (gH s ts rs)]) m h)(k2:gH s ts rs=0->mM s st≠0->K (.tup [jQ,cI (mM s st)]) m h)(k3:gH s ts rs=0->mM s st=0->∀A h',PH.le h h'->Leaves h' A (mS st ts)->K (.tup [cS A,cI 0]) m h'):OX sc sl p r m h K:=by
 dsimp only[OX,push_cast];obtain⟨a7,_⟩:=x.slen;have b8:=x.len;refine⟨sc,p,r,s,ts,rs,rfl,hs,x,λkk=>aC (λe=>k1 (bk e)) (λe=>?_)⟩;have e1:gH s ts rs=0:=bk e
 refine⟨sc,s,sl,st,rfl,hs,C.lea,C.len,aC (λe=>k2 e1 (bk e)) (λe=>?_)⟩;have V:mM s st=0:=bk e
 have B:=hb e1 V;obtain⟨c,W,X,Y⟩:=B.bnd;have ok:BI ts:=λi t e=>⟨B.ar i t e,J0 (B.ar i t e) (B.fit i t e)⟩
 have kq:∀j,j<ts.length->aJ s [] (aM ts j)=((aJ s [] (aM ts j)).1,0):=λj D=>Prod.ext rfl (B.kinds j D);have R:∀j,j<ts.length->∃w,iJ w (uW st (aM ts j)):=λj D=>⟨_,(WA V C.val X W (kq j D) (Y j D)).2.2.1⟩
 refine⟨aD,aD,aD,aD,λx=>x.1<=ts.length/\x.2.2.1=m/\PH.le h x.2.2.2/\∃G:da,G.length=x.1/\x.2.1=G++replicate (ts.length-x.1) ⟨none,0,0⟩/\∀j,j<x.1->∃u,G[j]? =some u/\Rows x.2.2.2 u (uW st (aM ts j)),λx=>ts.length-x.1,⟨(0,replicate ts.length ⟨none,0,0⟩,m,h),⟨Nat.zero_le _,rfl,.refl _,[],rfl,ay,λj D=>by omega⟩,?_⟩,?_⟩
 .dsimp only;rw[map_replicate,show((p.len:Int)).toNat=ts.length by omega];exact MT
 rintro⟨i,vs,mx,hx⟩ ⟨hi,Z,le,G,H,hv,g⟩;dsimp only at hi Z le H hv g⊢
 subst Z hv;refine aF (λa'=>?_) (λa8=>?_)
 .obtain⟨t,f⟩:=eU a7 a';obtain⟨b,o,y,ea,rd,U⟩:=x.at f;have P:i<ts.length:=by omega
  have nx:∀(A:Sl)(h':PH),PH.le hx h'->Rows h' A (uW st (aM ts i))->∃e,((G++replicate (ts.length-i) (⟨none,0,0⟩:Sl)).map eS)[((i:Nat):Int).toNat]? =some e/\0<e.length/\∃E:da,(((G++replicate (ts.length-i) (⟨none,0,0⟩:Sl)).map eS).set ((i:Nat):Int).toNat (hJ A::List.drop 1 e))=List.map eS E/\∃Q:da,Q.length=i+1/\E=Q++replicate (ts.length-(i+1)) ⟨none,0,0⟩/\∀j,j<i+1->∃u,Q[j]? =some u/\Rows h' u (uW st (aM ts j)):=λA h' d L=>by
   refine⟨[lI],?_,ay,(G++[A])++replicate (ts.length-(i+1)) ⟨none,0,0⟩,?_,G++[A],by simp[H],rfl,λj D=>?_⟩
   .rw[getElem?_map,Int.toNat_natCast,getElem?_append_right aD,getElem?_replicate,if_pos aD];rfl
   .rw[Int.toNat_natCast,show ts.length-i=(ts.length-(i+1))+1 by omega,replicate_succ,bw,set_append,if_neg (by simp[H]),bw,bw,append_assoc];simp[H,eS]
   .by_cases a0:j<i
    .obtain⟨u,S,J⟩:=g j a0;exact⟨u,bg,bZ.mono J d (λ_ _ h=>cF.mono h d)⟩
    grind
  have a1:((List.map eS (G++replicate (ts.length-i) (⟨none,0,0⟩:Sl))).length:Int)=ts.length:=bg
  rw[a1,kR aD];refine⟨b,o,ea,aD,aD,y,.imm (rd.mono le),aC (λe=>?_) (λe=>?_)⟩
  .have F:t.op=1:=by rw[<-U.op_];grind
   have hq:=kq i P;rw[pH ok f]at hq;have a9:=NQ hq t.table (by rw[pX,if_pos F];simp);have b9:=bZ.slen C.lea;have b7:=(Ua V).2.1;have a2:st[t.table.toNat]? =some (st.getD t.table.toNat []):=bg
   obtain⟨b2,o2,u,b',b0,hu⟩:=bZ.at C.lea a2;have hF:uW st (aM ts i)=st.getD t.table.toNat []:=by rw[pH ok f,uW,if_pos F]
   obtain⟨e,S,J,E,h3,h4⟩:=nx u hx (.refl _) (by rw[hF];exact bZ.mono hu le (λ_ _ h=>cF.mono h le));rw[U.table_];exact⟨b2,o2,b',a9.1,aD,u,.imm (b0.mono le),aD,aD,e,S,J,(i+1,E,mx,hx),⟨aD,rfl,le,h4⟩,aD,bg⟩
  .have F:t.op≠1:=by rw[<-U.op_];grind
   have h0:=B.ar i t f;have J:=DF t.op;have c':arity t.op≠0:=λe=>F (Pj e);have M:=aKJ (op:=t.op) aD;have a3:=(ok i t f).2;have hA:arity t.op=1\/arity t.op=2:=by omega
   have hL:0<=t.left/\t.left<i:=a3 _ (by rcases hA with e|e<;>simp[AM,e])
   have hR:0<=t.right/\t.right<i:=by
    rcases hA with e|e
    .have:=(aRJ (B.fit i t f)).2 aD;omega
    .exact a3 _ (by simp[AM,e])
   obtain⟨u1,b1,b3⟩:=g t.left.toNat aD;obtain⟨u2,b4,b5⟩:=g t.right.toNat aD
   have I:∀{j:Nat}{u:Sl},G[j]? =some u->((G++replicate (ts.length-i) (⟨none,0,0⟩:Sl)).map eS)[j]? =some (eS u):=fun{j u} h=>by
    grind
   have len:∀{j},j<ts.length->(uW st (aM ts j)).length<=8000000:=fun{j} D=>(R j D).elim λ_ h=>h.len;have hq:=kq i P;have a4:=Y i P;rw[pH ok f]at hq a4;have x1:=aMZ V C.val X W hq a4 F;rw[KB,Cb,map_map]at x1;have x2:=aHQ (st:=st) ok f F
   have x3:PS t.op t.query [uW st (aM ts t.left.toNat),uW st (aM ts t.right.toNat)]/\uW st (aM ts i)=opF t.op t.query [uW st (aM ts t.left.toNat),uW st (aM ts t.right.toNat)]:=by
    rcases hA with e|e
    .rw[show AM t=[t.left]by simp[AM,e]]at x1 x2;exact⟨aMX e (Qq▸x1) (R _ aD),by rw[x2,bsX e];rfl⟩
    .rw[show AM t=[t.left,t.right]by simp[AM,e]]at x1 x2;exact⟨Qq▸x1,x2⟩
   rw[U.left_,U.right_];refine⟨hL.1,aD,eS u1,I b1,u1,rfl,hR.1,aD,eS u2,I b4,u2,rfl,y,t,u1,u2,_,_,rfl,U.mono le,b3,b5,hT,M.1,M.2,x3.1,len aD,len aD,λA h' d L=>?_⟩;obtain⟨e,S,J,E,h3,h4⟩:=nx A h' d (by rw[x3.2];exact L);exact⟨aD,aD,e,S,J,(i+1,E,mx,h'),⟨aD,rfl,le.trans d,h4⟩,aD,bg⟩
 .have:i=ts.length:=by omega
  subst this;rw[Nat.sub_self,replicate_zero,append_nil];refine⟨λx=>x.1<=ts.length/\x.2.1=ts.length/\x.2.2.2.1=mx/\PH.le h x.2.2.2.2/\x.2.2.1.length=ts.length/\∀j,j<ts.length->∃u,x.2.2.1[j]? =some u/\Rows x.2.2.2.2 u (uW st (aM ts j)),λx=>ts.length-x.1,⟨(0,ts.length,G,mx,hx),⟨Nat.zero_le _,rfl,rfl,le,H,g⟩,bg⟩,?_⟩;rintro⟨i,n,vs,my,hy⟩ ⟨hi,Z,e4,le,T,L⟩;dsimp only at hi Z e4 le T L⊢
  subst Z e4;refine aF (λa'=>?_) (λa8=>?_)
  .obtain⟨u,hu,g⟩:=L i aD;obtain⟨w,O⟩:=R i aD;have I:(vs.map eS)[((i:Nat):Int).toNat]? =some (eS u):=bg
   rw[length_map,T,kR aD];refine⟨aD,aD,eS u,I,u,rfl,u,_,rfl,g,O.len,λr L=>by have:=(O.row r L).len;omega,λA h' d c0=>⟨aD,aD,eS u,I,by simp[eS],(i+1,ts.length,vs.set i A,my,h'),⟨aD,rfl,rfl,le.trans d,bg,λj D=>?_⟩,aD,?_⟩⟩
   .dsimp only;rw[getElem?_set];by_cases a0:i=j
    .grind
    .obtain⟨u',S,J⟩:=L j D;exact⟨u',bg,bZ.mono J d (λ_ _ h=>cF.mono h d)⟩
   .dsimp only;rw[map_set,Int.toNat_natCast];exact MT
  .refineλA h' d b6=>k3 e1 V A h' (le.trans d) ⟨⟨vs,b6,by simp[mS,T],λj z hz=>?_⟩,by simp[mS];omega⟩
   unfold mS at hz;rw[getElem?_map]at hz;cases D:(List.range ts.length)[j]? with
   |none=>grind
   |some k=>
    rw[D]at hz;obtain⟨a5,a6⟩:=List.getElem?_eq_some_iff.1 D;rw[length_range]at a5;rw[getElem_range]at a6;subst a6;have hz:uW st (aM ts j)=z:=bg
    subst hz;obtain⟨u,S,J⟩:=L j a5;exact⟨u,S,bZ.mono J d (λ_ _ h=>cF.mono h d)⟩
theorem avQ:cm 25 cfX:=by
 refine iH func25 ?_;rintro e m h K ⟨sc,d,p,r,s,y,ts,rs,rfl,f,c,g,j,n,o,u,x⟩;refine⟨bEZ d p,rfl,aE QQ (aE au (aE asJ (aE asZ aG))),OX sc d p r m h K,ax,?_⟩;exact b5J f c g j n o u x
noncomputable def KG(st:List ct)(p:de×cq):List ct:=p.2.map λr=>(mS st p.1).getD r.toNat []
noncomputable def AT(s:jB)(ts:de)(rs:cq)(st:List ct):Int:=if gH s ts rs≠0 then gH s ts rs else mM s st
def Gf(s:jB)(q:Query):Prop:=(dU s [] q).2=0->zH q/\Ht (eW s q []).1/\jZ (eW s q []).1<=100/\lZ q<=100
theorem Gm{P:Program}{f:FuncId}{S S':Vc.Spec}(x:Sound P f S)(d:∀c m h K,S' c m h K->S c m h K):Sound P f S':=⟨x.1,λc e m h w K g=>x.2 c e m h w K (d _ _ _ _ g)⟩
def Sn:Vc.Spec:=λc m h K=>∃sc v s q,c=[aS sc,aQ v]/\iA h s sc/\cJ h q v/\fU m/\Gf s q/\∀p r h',PH.le h h'->((dU s [] q).2=0->lR h' p r (i7 s q).1 (i7 s q).2)->K (.tup [aPl p r,cI (dU s [] q).2]) m h'
theorem Xb:cm 36 Sn:=Gm QS λ_ m h K⟨sc,v,s,q,e,d,f,g,j,n⟩=>⟨sc,v,s,q,e,d,f,g,j,λc=>n _ _ h (.refl _) (λe=>(c e).elim),λc p r h' le o=>bg⟩
def bQX:Vc.Spec:=λd m h K=>∃sc e p r s c ts rs,d=[aS sc,aSt e,aPl p r]/\iA h s sc/\Pq h e c/\lR h p r ts rs/\fU m/\(gH s ts rs=0->mM s c=0->Hr s c ts)/\
 ∀f h',PH.le h h'->(AT s ts rs c=0->Leaves h' f (mS c ts))->K (.tup [cS f,cI (AT s ts rs c)]) m h'
theorem Xp:cm 25 bQX:=Gm avQ λ_ m h K⟨sc,j,p,r,s,n,ts,rs,e,o,d,u,x,y,f⟩=>⟨sc,j,p,r,s,n,ts,rs,e,o,d,u,x,y,
 λc=>by have:=f bR h (.refl _) (λe=>by unfold AT at e;omega);unfold AT at this;rw[if_pos c]at this;exact this,
 λc g=>by have:=f bR h (.refl _) (λe=>by unfold AT at e;omega);unfold AT at this;rw[if_neg (by simp[c])]at this;exact this,
 λc g z h' le A=>by have:=f z h' le (λ_=>A);unfold AT at this;grind⟩
def aEX:Vc.Spec:=λd m h K=>∃sc e v s c q,d=[aS sc,aSt e,aQ v]/\iA h s sc/\Pq h e c/\cJ h q v/\fU m/\Gf s q/\
 ((dU s [] q).2=0->gH s (i7 s q).1 (i7 s q).2=0/\(mM s c=0->Hr s c (i7 s q).1/\∀l∈mS c (i7 s q).1,l.length<=8000000/\∀r∈l,r.length<=1000))/\
 ((dU s [] q).2≠0->∀h',PH.le h h'->K (.tup [jQ,cI (dU s [] q).2]) m h')/\((dU s [] q).2=0->mM s c≠0->∀h',PH.le h h'->K (.tup [jQ,cI (mM s c)]) m h')/\
 ((dU s [] q).2=0->mM s c=0->∀f h',PH.le h h'->Leaves h' f (KG c (i7 s q))->K (.tup [cS f,cI 0]) m h')
noncomputable def bCJ:Ctx:=tR [(36,Sn),(25,bQX),(78,TO)] [(9,{A:=Nat×Sl×Sl×da×MH×PH,st:=λ⟨i,rs,c,d,m,h⟩=>bQ 77 80 [(10,sv rs),(11,.at (.lst 38)),(40,sv c),(41,iv c.len),(42,iv i)] [(38,.lst 53 1 (d.map eS))] m h}),
 (13,{A:=Nat×Nat×Sl×Sl×Sl×da×MH×PH,st:=λ⟨j,i,rs,c,t,d,m,h⟩=>bQ 77 80 [(10,sv rs),(11,.at (.lst 38)),(12,iv i),(40,sv c),(41,iv c.len),(42,iv i),(59,sv t),(60,iv t.len),(61,iv j)] [(38,.lst 53 1 (d.map eS))] m h})] [] [] [2053] [] false
abbrev Nk(a:bW->QV->jB->Query->Prop):Prop:=∃(x:bW)(c:QV)(d:jB)(e:Query),a x c d e
noncomputable abbrev xG(a:jB)(b:Query):Int:=(dU a [] b).2
noncomputable abbrev Aj(a:Nat×Sl×Sl×da×MH×PH):Sl:=a.2.2.1
noncomputable abbrev EB(a:Nat×Sl×Sl×da×MH×PH):List cn:=nB a.2.2.2.1
noncomputable abbrev Bz(a:Nat×Sl×Sl×da×MH×PH):Nat->Nat->Option Value:=(iG a.2).2
noncomputable abbrev mY(a:Nat×Nat×Sl×Sl×Sl×da×MH×PH):Sl×Sl×da×MH×PH:=a.2.2.2
noncomputable abbrev Ai(a:Nat×Nat×Sl×Sl×Sl×da×MH×PH):Sl:=(mY a).2.1
noncomputable abbrev CM(a:Nat×Nat×Sl×Sl×Sl×da×MH×PH):List cn:=nB (mY a).2.2.1
attribute [push_cast] Nk xG Aj EB Bz mY Ai CM
def OR(sc:bW)(sl:Sl)(v:QV)(m:MH)(h:PH)(K:cr):Prop:=
  Nk (λs M g q=>aA (fW (cD sc) v.enc=fW (cD s) M.enc) (iA h g s) (aA (cJ h q M) (fU m) (Gf g q/\∀(p:Sl),jJ (λr j=>cZ h j (xG g q=0->lR j p r (i7 g q).1 (i7 g q).2) (dC (xG g q) 0 (K (CV.tup (gZ jQ (CV.val (eN (xG g q))))) m j) (∃(O:bW),nA (λP Q=>∃(R:Sl)(n:jB)(u:List ct),FI (λt A=>aA (cE (cD sc) (fW (aY sl) (rV p r))=cE (cD O) (fW (aY P) (rV Q R))) (iA j n O) (aA (Pq j P u) (lR j Q R t A) (aA (fU m) (gH n t A=0->mM n u=0->Hr n u t) (jJ (λS B=>cZ j B (AT n t A u=0->Leaves B S (mS u t)) (dC (AT n t A u) 0 (K (CV.tup (bC jQ (AT n t A u))) m B) (aA (bV (aH r)) (Ah
 r) (aA (uI r 24) (vB (aH r)) (∃(I:Nat×Sl×Sl×da×MH×PH->Prop)(T:Nat×Sl×Sl×da×MH×PH->Nat),(∃(x:Nat×Sl×Sl×da×MH×PH),aA (I x) (bS S x.2.1) (aA (eL 38) (bS r (Aj x)) (aA (cK r (Aj x)) (bB x.1) (aA (CL 53 r iV (EB x)) (bH m (iG x.2)) (bL B (Bz x))))))/\∀(x:Nat×Sl×Sl×da×MH×PH),I x->aX (↑x.1:Int) (aH (Aj x)) (bI (λb o=>aA (bK (Aj x).a b o) (0<=(↑x.1:Int)) ((↑x.1:Int)<aH (Aj x)/\∃(y:Int),aU (iG x.2).1 (Bz x) b (bN o x.1 1) (bG y)/\eA x.2.1.a y x.2.1 (λb1 o1 z=>aA (aU (iG x.2).1 (Bz x) b1 (fT o1 y 1) (aY z)) (bV (aH z)) (aA (Ah z) (uI z 24) (vB (aH z)/\lE (λU D=>qI (iG x.2).1 D (Bz x)
 U 94 1 (replicate (aH z).toNat iV)->rW (↑x.1:Int) ((↑x.1:Int)<iZ (EB x)) (λe=>aA (mI (EB x) (↑x.1:Int) e) (0<e.length) (eA x.2.1.a y x.2.1 (λb2 o2 F=>aU D (Bz x) b2 (fT o2 y 1) (aY F)/\∃(I1:Nat×Nat×Sl×Sl×Sl×da×MH×PH->Prop)(V:Nat×Nat×Sl×Sl×Sl×da×MH×PH->Nat),(∃(d:Nat×Nat×Sl×Sl×Sl×da×MH×PH),aA (I1 d) (bS x.2.1 d.2.2.1) (aA (eL 38) (cO x.1 d.2.1) (aA (bS (Aj x) (mY d).1) (cK (Aj x) (mY d).1) (aA (cO x.1 d.2.1) (bS F (Ai d)) (aA (cK F (Ai d)) (bB d.1) (aA (Option.some (Own.lst 53 1 (List.set (EB x) (↑x.1:Int).toNat (kW (hJ U) 1 e)))=Option.some (Own.lst 53 1 (CM d))) (bH D (iG (mY d))) (bL (Bz x) (iG (mY
 d)).2)))))))/\∀(d:Nat×Nat×Sl×Sl×Sl×da×MH×PH),I1 d->aX (↑d.1:Int) (aH (Ai d)) (eA (Ai d).a (↑d.1:Int) (Ai d) (λb3 o3 W=>EA (aU (iG (mY d)).1 (iG (mY d)).2 b3 (bN o3 d.1 1) (aY W)) 0 (↑d.2.1:Int) (CM d) (λX=>mI (CM d) (↑d.2.1:Int) X/\∃(C:Sl),aA (pN 1 X (aY C)) (∃(Y:cn),mI (CM d) (↑d.2.1:Int) Y/\pN 1 Y (aY C)) (qO (λZ G=>aA (fP (Dj W) (Dj Z)) (cF (iG (mY d)).2 Z G) (lY G.length/\jJ (λs9 H=>cZ (iG (mY d)).2 H (cF H s9 G) (bI (λJ L=>aA (bK C.a J L) (0<=(↑d.1:Int)) ((↑d.1:Int)<aH C/\j9 (λc E=>aA (E8 (iG (mY d)).1 J (kI c E 0)) (bN L d.1 1<c.size) (∀(m4:MH),dQ (iG
 (mY d)).1 m4 J (xC c (bN L d.1 1) (aY s9)) E->∃(f:Nat×Nat×Sl×Sl×Sl×da×MH×PH),aA (I1 f) (V f<V d) (aA (bS d.2.2.1 f.2.2.1) (eL 38) (aA (cO d.2.1 f.2.1) (bS (mY d).1 (mY f).1) (aA (cK (mY d).1 (mY f).1) (cO d.2.1 f.2.1) (aA (bS (Ai d) (Ai f)) (cK (Ai d) (Ai f)) (aA (bD (gG (bF d.1 1)) f.1) (Option.some (Own.lst 53 1 (CM d))=Option.some (Own.lst 53 1 (CM f))) (bP (bH m4 (iG (mY f))) H (iG (mY f)).2)))))))))))))))))) (∃(f:Nat×Sl×Sl×da×MH×PH),aA (I f) (T f<T x) (aA (bS d.2.2.1 f.2.1) (eL 38) (aA (bS (mY d).1 (Aj f)) (cK (mY d).1 (Aj f)) (aA (bD (gG (bF d.2.1 1)) f.1) (Option.some (Own.lst 53 1 (CM d))=Option.some (Own.lst 53
 1 (EB f))) (bP (bH (iG (mY d)).1 (iG f.2)) (iG (mY d)).2 (Bz f)))))))))))))))) (sN (Bz x) (EB x) K (iG x.2).1)))))))))))))))))
structure yL(m0 m:MH)(h:PH)(w:Sl)(l:ct)(j:Nat):Prop where
 ex:∃vs:da,vs.length=l.length/\jE m0 m w 94 1 (vs.map eS)/\∀k r,k<j->l[k]? =some r->∃v,vs[k]? =some v/\cF h v r
theorem yL.mono{m0:MH}{w:Sl}{l:ct}{j:Nat}(x:yL m0 m h w l j)(le:PH.le h h'):yL m0 m h' w l j:=by
 obtain⟨c,d,e,f⟩:=x.ex;exact⟨c,d,e,λk r g n=>let⟨v,e1,e2⟩:=f k r g n;⟨v,e1,e2.mono le⟩⟩
theorem yL.keep{m0:MH}{w:Sl}{l:ct}{j:Nat}(x:yL m0 m h w l j)(d:∀b i,w.a=some ⟨b,i,none⟩->m' b=m b):yL m0 m' h w l j:=by
 obtain⟨e,f,c,g⟩:=x.ex;exact⟨e,f,⟨dE.keep c.row d,c.fresh⟩,g⟩
theorem yL.blk{m0:MH}{w:Sl}{l:ct}{j:Nat}(x:yL m0 m h w l j)(e:w.a=some ⟨b,i,none⟩):∃o,m b=some o:=by
 obtain⟨f,_,c,_⟩:=x.ex;obtain⟨d,h⟩:=dE.blk c.row e
 grind
theorem yL.slen{m0:MH}{w:Sl}{l:ct}{j:Nat}(x:yL m0 m h w l j):w.len=l.length:=by
 obtain⟨d,e,c,_⟩:=x.ex;have:=dE.slen c.row
 grind
theorem Tj:∀vs:da,(vs.map eS).flatten=vs.map λs=>hJ s
 |[]=>rfl
 |v::vs=>by rw[map_cons,flatten_cons,Tj vs];rfl
theorem yL.put{m0:MH}{w u:Sl}{l:ct}{j:Nat}{r:cw}(x:yL m0 m h w l j)(D:l[j]? =some r)(J:cF h u r):∃b,w.a=some ⟨b,0,none⟩/\∃(cs:Array Value)(E:TypeId),m b=some (.cells cs E (0,0))/\0+j*1<cs.size/\∀m',iP m m' b (.cells ⟨splice cs.toList (0+j*1) [hJ u]⟩ E (0,0))->yL m0 m' h w l (j+1):=by
 obtain⟨f,F,g,L⟩:=x.ex;have M:=(bm D);have O:=dE.slen g.row;rcases g.row.ex with⟨rfl,e⟩|⟨b,d,c,rfl,G,n,o,H,B⟩
 .grind
 .rw[length_map]at n;refine⟨b,rfl,c,94,G,aD,λm' y=>⟨f.set j u,by simp[F],⟨⟨⟨?_,?_⟩,.inr ⟨b,d,⟨splice c.toList (0+j*1) [hJ u]⟩,ay,y.at_,bf,o,?_,?_⟩⟩,g.fresh⟩,λk P Q I=>?_⟩⟩
  .intro e z;obtain⟨s,_,rfl⟩:=mem_map.1 z;rfl
  .intro e z v C;obtain⟨s,_,rfl⟩:=mem_map.1 z;simp[eS]at C;subst C;rfl
  .show(splice c.toList (0+j*1) [hJ u]).length=d*1;rw[zL _ _ _ bf];omega
  .rw[Tj];show(splice c.toList (0+j*1) [hJ u]).take _=_;rw[NI _ _ _ bf,take_set]
   have A:c.toList.take (((f.set j u).map eS).length*1)=f.map λs=>hJ s:=by
    rw[length_map,length_set];rw[length_map,Tj]at B;exact B
   rw[A,Nat.zero_add,Nat.mul_one,map_set]
  grind
theorem yL.rows{m0:MH}{w:Sl}{l:ct}(d:yK m h)(x:yL m0 m h w l l.length)(u:l.length<=8000000):Rows (oN m0 m h) w l:=by
 obtain⟨e,f,g,j⟩:=x.ex
 exact⟨⟨e,jE.ice g,f.symm,λi r c=>by
  obtain⟨v,n,o⟩:=j i r (bm c) c;exact⟨v,n,o.mono (zE d)⟩⟩,aD⟩
theorem auX:cm 33 aEX:=by
 refine W8 func33 ?_;rintro d4 m h K ⟨sc,sl,v,s,W,q,rfl,hs,b7,hq,ht,hn,hv,hE,b8,hK⟩;refine⟨bCJ,rfl,aE Xb (aE Xp (aE QK aG)),OR sc sl v m h (iI h K),ax,?_⟩;show OR sc sl v m h (iI h K);dsimp only[OR,push_cast];refine⟨sc,v,s,q,rfl,hs,hq,ht,hn,λp r h1 g hp=>aC (λX=>?_) (λX=>?_)⟩
 .exact iI.sub (Sub.refl m) g (hE bg h1 g)
 have X:(dU s [] q).2=0:=bg
 have hp:=hp X;obtain⟨d,hb⟩:=hv X;have a':AT s (i7 s q).1 (i7 s q).2 W=mM s W:=by unfold AT;omega
 refine⟨sc,sl,p,r,s,W,(i7 s q).1,(i7 s q).2,rfl,hs.mono g,b7.mono g,hp,ht,λ_ e=>(hb e).1,λs1 h2 L hl=>?_⟩;rw[a']at hl⊢
 refine aC (λF=>?_) (λF=>?_)
 .exact iI.sub (Sub.refl m) (g.trans L) (b8 X bg h2 (g.trans L))
 have F:mM s W=0:=bg
 have hl:=hl F;have hK:=hK X F;have b9:=(hb F).2;have a0:=g.trans L;have a1:=(hp.roots.mono L)
 have a2:=a1.slen
 have a3:∀x∈(i7 s q).2,0<=x/\x.toNat<(mS W (i7 s q).1).length:=by
  intro x hx;unfold gH at d;split at d
  .contradiction
  .split at d
   .cases d
   .split at d
    .contradiction
    .split at d
     .rename_i e;have:=all_eq_true.1 e x hx;simp only[bz,ce]at this;simp only[mS,length_map,length_range];omega
     .cases d
 have d5:(i7 s q).2.length<=32:=by
  unfold gH at d;omega
 generalize hR:mS W (i7 s q).1=R at*
 generalize hN:(i7 s q).2=N at*
 have d6:=bZ.slen hl;refine⟨aD,aD,aD,aD,λx=>x.1<=N.length/\x.2.1=s1/\x.2.2.1=r/\PH.le h2 x.2.2.2.2.2/\x.2.2.2.1.length=N.length/\Sub m x.2.2.2.2.1/\∀k n,k<x.1->N[k]? =some n->∃u,x.2.2.2.1[k]? =some u/\yL m x.2.2.2.2.1 x.2.2.2.2.2 u (R.getD n.toNat []) (R.getD n.toNat []).length,λx=>N.length-x.1,⟨(0,s1,r,replicate N.length bR,m,h2),⟨aD,rfl,rfl,.refl _,ay,Sub.refl m,λk n hk=>by simp at hk⟩,?_⟩,?_⟩
 .have e:List.map eS (replicate N.length bR)=replicate (Int.toNat (r.len:Int)) [lI]:=by rw[map_replicate,a2];rfl
  grind
 rintro⟨i,a4,ro,Y,Z,hx⟩ ⟨hi,e1,M,A,c',f,B⟩;dsimp only at hi e1 M A c' f B⊢
 subst e1 M;have lex:=a0.trans A;refine aF (λa5=>?_) (λd7=>?_)
 .obtain⟨n,a6⟩:=eU a2 a5;obtain⟨Q,G⟩:=a3 n (br a6);obtain⟨b,o,e,rd⟩:=(a1.mono A).at' a6;have c1:R[n.toNat]? =some R[n.toNat]:=bo G;obtain⟨b',o',t,e',a7,a8⟩:=bZ.at (bZ.mono hl A λ_ _ z=>bZ.mono z A λ_ _ y=>cF.mono y A) c1;have c2:R.getD n.toNat []=R[n.toNat]:=by simp[G]
  have c4:=b9 _ (getElem_mem G);have a9:=bZ.slen a8;refine⟨b,o,e,aD,a5,n,.imm rd,b',o',e',Q,aD,t,.imm a7,aD,aD,aD,aD,λw m1 hw=>⟨aD,bg,_,by rw[getElem?_map,Int.toNat_natCast,bo aD];rfl,by simp[eS],b',o',e',Q,aD,t,.imm a7,?_⟩⟩;have d8:∀b i,w.a=some ⟨b,i,none⟩->Z b=none:=λb i e=>(hw.fresh b i e).m_;have C:Sub Z m1:=λx o e=>by rw[hw.other x (λi e'=>bg)];exact e
  have c0:yL m m1 hx w R[n.toNat] 0:=⟨replicate R[n.toNat].length bR,ay,⟨by
   have:=hw.row;rw[Int.toNat_natCast,a9]at this;rw[map_replicate];exact this,λb i e=>by
   cases e0:m b with
   |none=>rfl
   |some o=>have:=f b o e0;grind⟩,λk r hk=>by omega⟩
  refine⟨λx=>x.1<=R[n.toNat].length/\x.2.1=i/\x.2.2.1=a4/\x.2.2.2.1=ro/\x.2.2.2.2.1=t/\x.2.2.2.2.2.1=Y.set i w/\PH.le hx x.2.2.2.2.2.2.2/\Sub m x.2.2.2.2.2.2.1/\yL m x.2.2.2.2.2.2.1 x.2.2.2.2.2.2.2 w R[n.toNat] x.1/\∀b o,Z b=some o->x.2.2.2.2.2.2.1 b=some o,λx=>R[n.toNat].length-x.1,⟨(0,i,a4,ro,t,Y.set i w,m1,hx),⟨aD,rfl,rfl,rfl,rfl,rfl,.refl _,λx o e=>C x o (f x o e),c0,C⟩,?_⟩,?_⟩
  .rw[Int.toNat_natCast,map_set];exact MT
  clear c0 C;rintro⟨j,S,b0,b1,t2,d9,my,hy⟩ ⟨hj,f1,f2,H,I,J,c,D,c3,c6⟩;dsimp only at hj f1 f2 H I J c D c3 c6⊢
  subst f1 f2 H I J;refine aF (λP=>?_) (λd3=>?_)
  .obtain⟨rr,T⟩:=eU a9 P;obtain⟨b2,o2,y,M,c7,c8⟩:=bZ.at (bZ.mono a8 c λ_ _ z=>cF.mono z c) T;have e3:S<Y.length:=by omega
   refine⟨b2,o2,M,aD,P,y,.imm c7,aD,bf,eS w,bg,w,rfl,⟨eS w,bg,rfl⟩,y,rr,rfl,c8,(c4.2 rr (br T)),λu h4 b3 hu=>?_⟩;obtain⟨wb,c9,cs,E,d',e4,b4⟩:=(c3.mono b3).put T hu;have e5:=c3.slen;refine⟨wb,0,c9,aD,aD,cs,E,⟨d'⟩,aD,λm5 O=>?_⟩;rw[Int.toNat_natCast]at O;have c5:=b4 m5 O;have b5:∀x o,Z x=some o->x≠wb:=λx o e e'=>bg
   refine⟨(j+1,S,b0,b1,t2,Y.set S w,m5,h4),⟨?_,rfl,rfl,rfl,rfl,rfl,c.trans b3,λx o e=>?_,c5,λx o e=>?_⟩,?_,MT⟩
   .omega
   .show m5 x=some o;rw[O.other x (b5 x o (f x o e))];exact D x o e
   .show m5 x=some o;rw[O.other x (b5 x o e)];grind
   omega
  .have d0:j=R[n.toNat].length:=by omega
   subst d0;refine⟨(S+1,b0,b1,Y.set S w,my,hy),⟨aD,rfl,rfl,A.trans c,bg,D,λk n' hk d1=>?_⟩,aD,MT⟩;have hk:k<S+1:=hk;by_cases e:k=S
   .grind
   .obtain⟨u,e1,M⟩:=B k n' aD d1;refine⟨u,bg,(M.mono c).keep (λb i e=>?_)⟩;obtain⟨o,ho⟩:=M.blk e
    grind
 .have d2:i=N.length:=by omega
  subst d2;intro s2 h3 c hr b6;have hd:yK Z h3:=⟨b6⟩
  have le:=(lex.trans c).trans (zE (m0:=m) hd);refine⟨m,oN m Z h3,f,le,λb i w e=>?_,hK s2 _ le ⟨⟨Y,hr.mono (zE hd),?_,λk l U=>?_⟩,?_⟩⟩
  .unfold oN at e
   grind
  .unfold KG;grind
  .unfold KG at U;rw[getElem?_map,hN,hR,Option.map_eq_some_iff]at U;obtain⟨n,V,rfl⟩:=U;obtain⟨u,e1,M⟩:=B k n (bm V) V;obtain⟨Q,G⟩:=a3 n (br V);have c2:R.getD n.toNat []=R[n.toNat]:=by simp[G]
   exact⟨u,e1,yL.rows hd (M.mono c) bg⟩
  .unfold KG;grind
def PD{α:Type}(T:List α->α->Prop):List α->List α->Prop
 |_,[]=>True
 |pre,x::r=>T pre x/\PD T (pre++[x]) r
theorem UU{α:Type}{T:List α->α->Prop}:∀{l c:List α},PD T c l->∀(j:Nat) x,l[j]? =some x->T (c++l.take j) x
 |[],_,_,j,x,e=>by simp at e
 |y::r,c,h,0,x,e=>by simp at e;subst e;simpa using h.1
 |y::r,c,h,j+1,x,e=>by
  have:=UU h.2 j x (bk e)
  grind
theorem Au{α:Type}{T:List α->α->Prop}{l:List α}(h:PD T [] l):Good T l:=λj x e=>bk (UU h j x e)
theorem anJ{α:Type}{T:List α->α->Prop}{l:List α}(h:Good T l)(n:Nat):Good T (l.take n):=λj x e=>by
 rw[getElem?_take]at e;split at e
 .rename_i c;rw[take_take,Nat.min_eq_left aD];exact h j x e
 .cases e
theorem aHX(u:s.tables.length<=8)(g:∀t∈s.tables,t.columns.length<=8/\t.refs=[]/\t.checks=[])(y:0<=s.version)(z:s.version<=1000)(A:Good DH s.tables):dH s=0:=by
 have c:Dl s:=⟨u,λj t e=>by
  obtain⟨n,d,o⟩:=g t (br e);exact⟨n,by simp[d],by simp[o]⟩⟩
 have ok:Kq s:=⟨y,z,A,λj t e=>by
  obtain⟨n,d,o⟩:=g t (br e);unfold Fj;rw[d];intro i x B;simp at B⟩
 rw[KC c ok];refine Di _ λe f=>?_;obtain⟨i,_,f⟩:=mem_flatMap.1 f;unfold wZ at f
 grind
theorem WE{id:Int}(h:id=4\/id=5):Good DH (wM id):=by
 have c:eT id=true:=by rcases h with rfl|rfl<;>rfl
 refine Au ⟨⟨?_,?_,?_,?_,Au ⟨⟨?_,?_,?_⟩,⟨?_,?_,?_⟩,trivial⟩⟩,⟨?_,?_,?_,?_,Au ⟨⟨?_,?_,?_⟩,⟨?_,?_,?_⟩,⟨?_,?_,?_⟩,⟨?_,?_,?_⟩,trivial⟩⟩,⟨?_,?_,?_,?_,Au ⟨⟨?_,?_,?_⟩,⟨?_,?_,?_⟩,trivial⟩⟩,⟨?_,?_,?_,?_,Au ⟨⟨?_,?_,?_⟩,trivial⟩⟩,trivial⟩
 all_goals first|exact c|rfl|(simp;done)|decide
theorem aJZ(h:Py s):dH s=0/\s.tables≠[]:=by
 obtain⟨f,n,id,g,j,o,u,c,rfl⟩:=h.ex;refine⟨aHX bg (λt d=>?_) g bg (anJ (WE c) n),λe=>?_⟩
 .have d:=mem_of_mem_take d;simp only[wM,mem_cons,not_mem_nil,or_false]at d
  grind
 .have:=congrArg List.length e;simp[wM]at this;omega
def cfZ:Vc.Spec:=λc m h K=>∃n,c=[cI n]/\K (aV ⟨4,n,⟨#[]⟩⟩) m h
def ciJ:Query->Int
 |.mk op _ _ _ _ _ _ _ _=>op
def opE(q:Query):Int:=ciJ (gR q)
structure QsU(h:PH)(us:dn)(qs:cz):Prop where
 len:us.length=qs.length
 at_:∀(i:Nat) q,qs[i]? =some q->∃v,us[i]? =some v/\cJ h q v
theorem QsU.mono{us:dn}{c:cz}(x:QsU h us c)(le:PH.le h h'):QsU h' us c:=⟨x.len,λi q e=>let⟨v,e1,e2⟩:=x.at_ i q e;⟨v,e1,e2.mono le⟩⟩
theorem QsU.snoc{us:dn}{c:cz}{q:Query}(x:QsU h us c)(g:cJ h q v):QsU h (us++[v]) (c++[q]):=by
 have d:=x.len;refine⟨by simp[d],λi p e=>?_⟩;by_cases f:i<c.length
 .rw[getElem?_append_left f]at e;obtain⟨u,j,n⟩:=x.at_ i p e
  grind
 grind
def cgJ(N:Nat):Vc.Spec:=λc m h K=>∃v q s,c=[aQ v]/\cJ h q v/\SizeOf.sizeOf q<N/\(aJ s [] q).2=0/\∀d h',PH.le h h'->cJ h' (gR q) d->d.op=opE q->K (aQ d) m h'
def aeJ:Vc.Spec:=λc m h K=>∃sc v s q,c=[aS sc,aQ v]/\iA h s sc/\cJ h q v/\(dU s [] q).2=0/\∀d h',PH.le h h'->cJ h' (gR q) d->d.op=opE q->K (.tup [aQ d,cI 0]) m h'
def chQ:Vc.Spec:=λc m h K=>∃v q s,c=[aQ v]/\cJ h q v/\(aJ s [] q).2=0/\∀d h',PH.le h h'->cJ h' (gR q) d->d.op=opE q->K (aQ d) m h'
noncomputable def bzQ(N:Nat)(v:QV)(m:MH):Ctx:=
 dD [(84,bhX),(73,cgJ N),(135,Zo),(136,NA),(137,TP)] [(5,{A:=Nat×dn×PV×Sl×Sl×PH,st:=λ⟨i,c,w,s,t,h⟩=>bQ 44 45 [(2,.at (.ptr 2 0)),(3,.at (.ptr 3 0)),(29,sv v.args),(30,iv v.args.len),(31,iv i)] [(2,.cells 38 zQ),(3,.cells 38 ((QV.enc ⟨v.op,v.table,w,s,t,bR,bR,0,bR⟩).take 20 |>.map .val |>.append [.lst 40])),(40,.lst 38 21 (c.map QV.enc))] m h})] [(4,{A:=PV×Sl×Sl×PH,st:=λ⟨w,s,t,h⟩=>bQ 44 45 [(1,.at (.ptr 1 0)),(2,.at (.ptr 2 0)),(3,.at (.ptr 3 0))] [(1,.cells 38 (v.enc.map .val)),(2,.cells 38 zQ),(3,.cells 38 ((QV.enc ⟨v.op,v.table,w,s,t,bR,bR,0,bR⟩).map .val))] m h})] [] false
noncomputable abbrev zO(a:Int):cn:=aL (eN 4) (eN a) (lD Wy)
attribute [push_cast] zO
def aTJ(n:Int)(m:MH)(h:PH)(K:cr):Prop:=
  K (fM (zO n)) m h
abbrev Jk(a:PH)(b:Query)(c:QV->PH->Prop):Prop:=∀(x:QV)(d:PH),cZ a d (cJ d (gR b) x) (c x d)
abbrev Jh(a:QV)(b:PH)(c:PV×Sl×Sl×PH->Prop)(d:Sl->(PV×Sl×Sl×PH)->Prop)(e:MH):Prop:=JI a.on b (λx=>jJ (λj f=>cZ b f (iD f j x) (∃(g:PV×Sl×Sl×PH),aA (c g) eG (aA eK cG (aA (eY a) eH (aA (d j g) (e=e) (bL f g.2.2.2)))))))
noncomputable abbrev uJ(a:QV)(b:PV)(c d:Sl)(e:dj):dj:=cQ (fV a.op) (pD a) (pQ b (cQ (vD c) (vD d) (cQ Fq Fq e)))
noncomputable abbrev Ak(a:PV×Sl×Sl×PH):Sl:=a.2.2.1
noncomputable abbrev Ji:dj:=lL fD (At.lst 40)
noncomputable abbrev oJ(a:Nat×dn×PV×Sl×Sl×PH):PV:=a.2.2.1
noncomputable abbrev GZ(a:Nat×dn×PV×Sl×Sl×PH):List cn:=List.map QV.enc a.2.1
noncomputable abbrev EC(a:Nat×dn×PV×Sl×Sl×PH):Nat->Nat->Option Value:=a.2.2.2.2.2
attribute [push_cast] Jk Jh uJ Ak Ji oJ GZ EC
def Ve(N:Nat)(v:QV)(m:MH)(h:PH)(K:cr):Prop:=
  ∃(o:Int),fH (kU v.op o) (Hw o) (bI (λb u=>aA (bK v.args.a b u) ((0:Int)<=0) (0<aH v.args/\∃(y:QV),aU m h b (u+0) y.enc/\qF (λf q=>∃(s:jB),aA (H0 (eC y)=H0 (eC f)) (cJ h q f) (aA (xE q N) ((aJ s [] q).2=0) (Jk h q (λg d=>g.op=opE q->K (eC g) m d))))))) (∃(I:PV×Sl×Sl×PH->Prop),(pE (λf p=>aA (fP (jU v.where_) (jU f)) (dO h p f) (Cy h p (λg d=>vR v.columns d (λl=>jJ (λs e=>cZ d e (Ints e s l) (Jh v e I (λn x=>Bj (uJ v g s n C8) (uJ v x.1 x.2.1 (Ak x) C8)) m/\Jh v e I (λn x=>Bj (uJ v g s n C8) (uJ v x.1 x.2.1 (Ak x) C8)) m)))/\vR v.columns d (λl=>jJ (λs e=>cZ d e (Ints e s l) (Jh
 v e I (λn x=>Bj (uJ v g s n C8) (uJ v x.1 x.2.1 (Ak x) C8)) m))))))/\pE (λf p=>aA (fP (jU v.where_) (jU f)) (dO h p f) (Cy h p (λg d=>vR v.columns d (λl=>jJ (λs e=>cZ d e (Ints e s l) (Jh v e I (λn x=>Bj (uJ v g s n C8) (uJ v x.1 x.2.1 (Ak x) C8)) m)))))))/\∀(x:PV×Sl×Sl×PH),I x->∃(I1:Nat×dn×PV×Sl×Sl×PH->Prop)(z:Nat×dn×PV×Sl×Sl×PH->Nat),(∃(c:Nat×dn×PV×Sl×Sl×PH),aA (I1 c) eK (aA cG (aI v.args) (aA (wA v) (bB c.1) (aA eH (Bj (uJ v x.1 x.2.1 (Ak x) Ji) (uJ v (oJ c) c.2.2.2.1 (Ak c.2.2) Ji)) (bO (qG 38 21 (GZ c)) (m=m) (x.2.2.2=EC c))))))/\∀(c:Nat×dn×PV×Sl×Sl
 ×PH),I1 c->aX (↑c.1:Int) (aH v.args) (bI (λb u=>aA (bK v.args.a b u) (0<=(↑c.1:Int)) ((↑c.1:Int)<aH v.args/\∃(y:QV),aU m (EC c) b (bN u c.1 21) y.enc/\qF (λf q=>∃(s:jB),aA (H0 (eC y)=H0 (eC f)) (cJ (EC c) q f) (aA (xE q N) ((aJ s [] q).2=0) (Jk (EC c) q (λg d=>g.op=opE q->mV (GZ c) 280 (∃(j:Nat×dn×PV×Sl×Sl×PH),aA (I1 j) (z j<z c) (aA eK cG (aA (aI v.args) (bJ v.args) (aA (bD (gG (bF c.1 1)) j.1) eH (uZ (Bj (uJ v (oJ c) c.2.2.2.1 (Ak c.2.2) Ji) (uJ v (oJ j) j.2.2.2.1 (Ak j.2.2) Ji)) (Option.some (Own.lst 38 21 (fK (GZ c) g.enc))=Option.some (Own.lst 38 21 (GZ j))) (m=m) d (EC j))))))))))))) (bU
 (EC c) 21 (GZ c) (λs d=>K (fM (aL (eN v.op) (pF v) (aL (eN (oJ c).op) (eN (oJ c).cmp) (aL (tE (oJ c)) (tF (oJ c)) (aL (eN (A8 (oJ c).left)) (sA (oJ c)) (aL (sB (oJ c)) (sD (oJ c)) (aL (tH (oJ c)) (tI (oJ c)) (aL (tJ (oJ c)) (tK (oJ c)) (aL (hJ (oJ c).args) (hJ c.2.2.2.1) (aL (hJ (Ak c.2.2)) lI (aL lI cW (aY s)))))))))))) m d)))
def Vs(sc:bW)(v:QV)(m:MH)(h:PH)(K:cr):Prop:=
  Ec (cE (cD sc) (gZ jQ (fM v.enc))) h (λs p q _ d=>dC (dU s p q).2 0 (K (CV.tup (vW zV (dU s p q).2)) m d) (qF (λe c=>∃(g:jB),aA (fP (eC v) (eC e)) (cJ d c e) ((aJ g [] c).2=0/\Jk d c (λf j=>f.op=opE c->K (CV.tup (bC (eC f) 0)) m j)))))
theorem arZ:cm 77 cfZ:=by
 refine iH func77 ?_;rintro c m h K ⟨n,rfl,d⟩;refine⟨dD [] [] [] [] false,rfl,aG,aTJ n m h K,ax,?_⟩;exact d
theorem ZV:∀N,cm 73 (cgJ N)
 |0=>by
  refine eD (fn:=Tryz.f73) (c:=cA Tryz.f73) func73 rfl az ?_;rintro V m h K ⟨v,q,s,rfl,_,hN,_⟩;omega
 |N+1=>by
  refine iH func73 ?_;rintro V m h K ⟨v,q,s,rfl,hq,hN,hk,hK⟩;refine⟨bzQ N v m,rfl,aE QG (aE (ZV N) (aE O7 (aE H9 (aE O6 aG)))),Ve N v m h K,ax,?_⟩;dsimp only[Ve,push_cast];have d:=@vF q;obtain⟨op,ta,w,co,on,gr,od,li,args⟩:=q;simp only[Query.args]at d;have x:=hq.parts;have W:=x.args_.slen;have a1:=x.args_.len;obtain⟨G,a2,_⟩:=kG hk;have C:=x.op_;refine⟨v.op,rfl,aC (λS=>?_) (λS=>⟨λz=>PH.le h z.2.2.2/\dO z.2.2.2 w z.1/\Ints z.2.2.2 z.2.1 co/\iD z.2.2.2 z.2.2.1 on,?_,?_⟩)⟩
  .rw[C]at S;have X:=SP S
   obtain⟨a,f,rfl⟩:∃a f,args=a::f:=by
    cases args with
    |nil=>
     exfalso;have:(1:Int)<=arity op:=by rcases X with rfl|rfl|rfl<;>decide
     grind
    |cons a f=>grind
   obtain⟨b,o,u,e,r,Y⟩:=x.args_.at (i:=0) (x:=a) rfl;have Z:=d (q:=a) ay
   exact⟨b,o,e,aD,bg,u,.imm (bk r),u,a,s,rfl,Y,aD,G a ay,λv' h' le H X=>by
    have e:gR (.mk op ta w co on gr od li (a::f))=gR a:=by rw[gR,if_pos S,F4];rfl
    exact hK v' h' le bg (by rw[opE,e];exact X)⟩
  .repeat' (first
    |(refine⟨v.where_,w,rfl,x.where_,λv1 h1 D r1=>?_⟩)
    |(refine⟨v.columns,co,rfl,x.columns_.mono D,λT h2 E r2=>?_⟩)
    |(refine⟨v.on,on,rfl,x.on_.mono (D.trans E),λU I F r3=>?_⟩)
    |(exact⟨(v1,T,U,I),⟨(D.trans E).trans F,r1.mono (E.trans F),r2.mono F,r3⟩,MT⟩)
    |apply And.intro)
  .rintro⟨w',T,U,hx⟩ ⟨J,L,M,O⟩;dsimp only at J L M O⊢
   refine⟨λz=>z.1<=args.length/\z.2.1.length=z.1/\z.2.2.1=w'/\z.2.2.2.1=T/\z.2.2.2.2.1=U/\PH.le hx z.2.2.2.2.2/\QsU z.2.2.2.2.2 z.2.1 ((args.take z.1).map gR),λz=>args.length-z.1,⟨(0,[],w',T,U,hx),⟨aD,rfl,rfl,rfl,rfl,.refl _,⟨rfl,λi q e=>by simp at e⟩⟩,MT⟩,?_⟩;rintro⟨i,us,w2,t2,t3,hy⟩ ⟨hi,P,e1,e2,e3,g,j⟩;dsimp only at hi P e1 e2 e3 g j⊢
   subst e1 e2 e3;have A:=J.trans g;have n:Hw op=false:=bg
   have B:gR (.mk op ta w co on gr od li args)= .mk op ta w co on gr od li (args.map gR):=by rw[gR,if_neg (by simp[n]),Hf]
   refine aF (λQ=>?_) (λa3 s4 h' le a'=>hK ⟨v.op,v.table,w2,t2,t3,bR,bR,0,s4⟩ h' (A.trans le) ?_ (by rw[opE,B];exact C))
   rotate_left
   .rw[B];rw[bu aD]at j
    have a0:gr=[]/\od=[]/\li=0:=by
     obtain⟨_,_,a,b,_,_,I⟩:=kG hk;unfold dV at I;by_cases c0:arity op<0\/¬cH (.mk op ta w co on gr od li args)
     .rw[if_pos c0]at I;simp[dP]at I
     .rw[not_or]at c0;obtain⟨_,_,_,_,u5⟩:cH (.mk op ta w co on gr od li args):=Classical.not_not.1 c0.2;rcases u5 with e|e|e
      .rw[e]at n;cases n
      .rw[e]at n;cases n
      .exact e
    obtain⟨rfl,rfl,rfl⟩:=a0;have lx:=g.trans le;exact pJ.rep ⟨C,x.table_,L.mono lx,M.mono lx,O.mono lx,rM h',tX h',rfl,⟨⟨us,a',j.len.symm,(j.mono le).at_⟩,bg⟩⟩
   obtain⟨q,y⟩:=eU W Q;have R:=br y;obtain⟨b,o,u,e,r,Y⟩:=(x.args_.mono A).at y;have Z:=d R;have a4:=(bm y);exact⟨b,o,e,aD,Q,u,.imm r,u,q,s,rfl,Y,aD,G q R,λv' h' le H _=>⟨bg,bg,(i+1,us++[v'],w2,t2,t3,h'),⟨aD,by simp[P],rfl,rfl,rfl,g.trans le,by dsimp only;rw[cd,y,Option.toList_some,bw];exact(j.mono le).snoc H⟩,aD,by rw[bw];exact MT⟩⟩
theorem asX:cm 73 chQ:=iQ ZV λ_ _ _ _⟨v,q,s,e,c,d,f⟩=>⟨SizeOf.sizeOf q+1,v,q,s,e,c,aD,d,f⟩
theorem b5Z{q:Query}(g:iA h s sc)(f:cJ h q v)(j:(dU s [] q).2=0)(n:∀c h',PH.le h h'->cJ h' (gR q) c->c.op=opE q->K (.tup [aQ c,cI 0]) m h'):Vs sc v m h K:=
 ⟨sc,bR,v,s,[],q,rfl,g,PY h,f,λ_ x d _=>aC (λe=>bg) (λ_=>⟨v,q,s,rfl,f.mono d,(Md j).1,λc h' le o u=>n c h' (d.trans le) o u⟩)⟩
theorem auJ:cm 29 aeJ:=by
 refine iH func29 ?_;rintro c m h K ⟨sc,v,s,q,rfl,d,e,f,g⟩;refine⟨dD [(57,wR),(73,chQ)] [] [] [] false,rfl,aE af (aE asX aG),Vs sc v m h K,ax,?_⟩;exact b5Z d e f g
variable{cN:Nat}
theorem Us{q:Query}{B:Nat}(c:dH s=0)(g:gY cN s q)(C:lZ q<=24)(E:fE (cN+1) q<=B)(n:B*60<=8000000):
 yT cN s [] [] (i7 s q) (pI (wT s) q (gR q))/\(i7 s q).1.length<=200/\(i7 s q).2.length<=24/\Ht (eW s q []).1/\jZ (eW s q []).1=lZ q:=by
 have o:=Uf c;obtain⟨u,_,d,e⟩:=TX o q [] g (Dm.nil s) bf;obtain⟨x,f⟩:=aJX _ d;rw[e]at f;have j:=d.get;rw[e]at j;obtain⟨_,y,_,z,_,_,_⟩:=j;have ev:=DC q g;have A:=Ck s q [];simp only[length_nil,Nat.zero_add]at A;have F:2*B*jZ (eW s q []).1<=2*B*24:=Nat.mul_le_mul_left _ aD;have G:=gL (eW s q []).1 ((eW s q []).1.env:Int) (eW s q []).2 [];have D:=vC c (eW s q []).1 B (2*B) B (eW s q []).1.env (eW s q []).2 [] d u y bg bg (Nat.le_refl _) bg aD aD;rw[e,z]at D;refine⟨D.shift (nil_prefix),?_,?_,x,f⟩
 .show(fG _ _ _ _).1.length<=200;omega
 .show(fG _ _ _ _).2.length<=24
  grind
structure adX(s:jB)(q:Query):Prop where
 ok:Gf s q
 valid:gH s (i7 s q).1 (i7 s q).2=0
 run:∀st,mM s st=0->StV st->(∀l∈st,l.length<=4)->Hr s st (i7 s q).1/\(∀l∈mS st (i7 s q).1,l.length<=8000000/\∀r∈l,r.length<=1000)/\KG st (i7 s q)=(pI (wT s) q (gR q)).map (uW st)
theorem alJ{s:jB}{q:Query}{B:Nat}(e:dH s=0)(g:gY 3 s q)(E:lZ q<=24)(F:fE 4 q<=B)(j:B*60<=8000000):adX s q:=by
 obtain⟨D,L,M,G,O⟩:=Us e g E F j;obtain⟨P,o,H,I⟩:=D.ex;rw[nil_append]at o;refine⟨λh=>⟨Ql h,G,aD,aD⟩,Mi D.inv e aD aD λr u=>?_,λy n J z=>?_⟩
 .grind
 .have f:∀i,i<(i7 s q).1.length->iJ (aJ s [] (aM (i7 s q).1 i)).1.length (uW y (aM (i7 s q).1 i))/\(uW y (aM (i7 s q).1 i)).length<=8000000:=λi c=>by
   have x:=WA n J z aD (D.inv.good i c).k (D.inv.good i c).bnd
   grind
  refine⟨⟨D.inv.ar,D.inv.fit,λi c=>(D.inv.good i c).kinds,4,aD,z,λi c=>(D.inv.good i c).bnd⟩,λl A=>?_,?_⟩
  .unfold mS at A;obtain⟨i,c,rfl⟩:=mem_map.1 A;have c:i<(i7 s q).1.length:=bg
   refine⟨(f i c).2,λr u=>?_⟩;have Q:=(f i c).1.wid r u;have R:=kH s [] (aM (i7 s q).1 i);omega
  .unfold KG;rw[o, <-I,map_map,map_map];refine map_congr_left λd C=>?_;have C:=H d C;simp only[Function.comp,Int.toNat_natCast,mS]
   grind
end Go.Ps
